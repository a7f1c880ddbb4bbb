/- Lemmas, no conditions. -/
import Derived.Test.YthpplckmbbachaaGreatDoorKB17
import Derived.Test.YthpplckmbbachaaGreatDoorKB21
set_option linter.unusedVariables false
set_option linter.unusedSimpArgs false
set_option maxHeartbeats 1000000
set_option maxRecDepth 100000
namespace Go.Proofs.YthpplckmbbachaaGreatDoor
open Go.aI
open Classical in
theorem lT{α}(l:List α):qH l l=true:=Ka.2 rfl
theorem RV{α β:Type}[Inhabited α][Inhabited β](f:α->β){L:List α}{i:Nat}(h:i<L.length):nth (L.map f) i=f (nth L i):=by simp[nth,h]
open Go.Proofs.Tryz
variable (σ : List aZ)
def GQ(n lo hi:Int):Bool:=decide (lo<=n)&&decide (n<=hi)
def qt(n:Nat)(g:Nat->Int)(k:Int):Bool:=(lst n g).any fun x=>k==x
theorem sv(n g k):qt n g k=true↔∃i,i<n/\g i=k:=by
 grind [qt,lst]
structure ek where
 ID:Int
 Day:Int
 State:Int
 Round:Int
 iB:Int
 Accept:Int
 nu:Nat
 u:Nat->Int
 nb:Nat
 b:Nat->Int
def ek.enc(x:ek):List D:=[I x.ID,I x.Day,I x.State,I x.Round,I x.iB,I x.Accept,SL none 1 encI x.nu x.u,SL none 1 encI x.nb x.b]
structure kE where
 fx:Int
 Unit:Int
 deriving DecidableEq,Inhabited
def kE.enc(x:kE):List D:=[I x.fx,I x.Unit]
attribute [go_sem] encI ek.enc kE.enc
def idB(n:Int):Bool:=GQ n 1 1073741824
def eG(b:ek):Bool:=
 if b.State=1 then decide (b.Round=0)&&decide ((b.nb:Int)=0)
 else if b.State=2 then decide (1<=b.Round)&&decide ((b.nb:Int)=0)
 else if b.State=3 then decide (1<=b.Round)&&decide ((b.nb:Int)<=b.Accept)
 else if b.State=4 then decide (1<=b.Round)&&decide (b.Accept<(b.nb:Int)) else false
def NX(b:ek):Bool:=decide ((b.nu:Int)<=70)&&decide ((b.nb:Int)<=70)
theorem fq(n lo up):ak prog 196 [.d (I n),.d (I lo),.d (I up)] σ (.d (B (GQ n lo up))):=by
 refine ak.bt func196 ?_;refine af ?_;simp[go_sem,GQ]<;>omega
theorem jU(n):ak prog 195 [.d (I n)] σ (.d (B (idB n))):=by
 refine ak.bt func195 ?_;refine az.mk (fq _ n 1 1073741824) (sm ?_);refine af ?_;simp[go_sem,idB]<;>omega
theorem ua(n):ak prog 198 [.d (I n)] σ (.d (B (!idB n))):=by
 refine ak.bt func198 ?_;refine az.mk (jU _ n) (sm ?_);exact af so
theorem Jk(b)(hn:b.nu<=9223372036854775807)(hm:b.nb<=9223372036854775807):ak prog 22 [.agg (b.enc.map .d)] σ (.d (B (NX b))):=by
 refine ak.bt func22 ?_;refine af ?_;simp[go_sem,NX]
theorem zG(b)(hn:b.nu<1000000000)(hm:b.nb<1000000000):ak prog 202 [.agg (b.enc.map .d)] σ (.d (B (eG b))):=by
 refine ak.bt func202 ?_;refine dH [1,4] ?_ ?_<;>intro d0
 ·refine wA ?_;have e:eG b=(b.Round==0&&(b.nb:Int)==0):=by
   grind [eG]
  rw[e];simp[go_sem]
 ·refine gc [1,4] ?_ ?_<;>intro d1
  ·refine wA ?_;have e:eG b=(decide (1<=b.Round)&&(b.nb:Int)==0):=by
    grind [eG]
   rw[e];simp[go_sem]
  ·refine gc [1,4] ?_ ?_<;>intro d2
   ·refine wA ?_;have e:eG b=(decide (1<=b.Round)&&decide ((b.nb:Int)<=b.Accept)):=by
     grind [eG]
    rw[e];simp[go_sem]
   ·refine gc [1] ?_ ?_<;>intro d3
    ·refine wA ?_;have e:eG b=(decide (1<=b.Round)&&decide (b.Accept<(b.nb:Int))):=by
      grind [eG]
     rw[e];simp[go_sem]
    ·refine wA ?_;have e:eG b=false:=by
      grind [eG]
     rw[e];simp[go_sem]
theorem gV(c n g)(hn:n<1000000000):ak prog 199 [.d (SL c 1 encI n g)] σ (.d (B (fZ g n))):=by
 refine ak.bt func199 ?_;refine dm (α:=Nat) true [0,5,6] (fun i=>[(6,.d (I i))]) (fun i=>_) (fun i=>i<=n/\∀q,0<q->q<i->g (q-1)<g q) (fun i=>n-i) 0 ?_;rintro i ⟨hi,hx⟩;refine gc [0,5,6] ?_ ?_<;>intro d0
 ·simp[go_sem];refine T.dr 14 fun K hK=> ?_;simp[go_sem,aT (i:=i) aa];refine wK hK ?_;refine gc [0,5,6] ?_ ?_<;>intro d1
  ·simp[go_sem];rw[zV d0 d1.1 d1.2];exact af sc
  ·refine wC ?_;refine bF (i+1) ⟨aa,pV hx d1⟩ (h:=aR)
 ·obtain rfl:i=n:=by omega
  refine wR ?_;exact sx (tJ hx)
theorem NG(c n g f cap p)(hn:n<1000000000)(hf: ∀i,i<n->ak prog f (.d (I (g i))::cap) σ (.d (B (p (g i))))):ak prog 283 [.d (SL c 1 encI n g),.clo (.func f) [] cap] σ (.d (I (idxFrom p (lst n g) 0))):=by
 refine ak.bt func283 ?_;refine dm (α:=Nat) true [0,1,7,8] (fun i=>[(8,.d (I i))]) (fun i=>_) (fun i=>i<=n/\idxFrom p (lst n g) 0=idxFrom p ((lst n g).drop i) i) (fun i=>n-i) 0 ?_;rintro i ⟨hi,hx⟩;refine gc [0,1,7,8] ?_ ?_<;>intro d0
 ·rw[bU d0,idxFrom] at hx;refine wB ?_;refine az.mk (hf i d0) (sm ?_);refine km [0,1,5,7,8] ?_ ?_<;>intro c1 d1
  ·refine wA ?_;simp[go_sem,hx,c1]<;>omega
  ·refine wC ?_;refine bF (i+1) ⟨aa,ai⟩ (h:=aR)
 ·rw[bV d0,idxFrom] at hx;refine wN ?_;simp[go_sem,hx]<;>omega
theorem jV(c n g f cap p)(hn:n<1000000000)(hf: ∀i,i<n->ak prog f (.d (I (g i))::cap) σ (.d (B (p (g i))))):ak prog 197 [.d (SL c 1 encI n g),.clo (.func f) [] cap] σ (.d (B ((lst n g).any p))):=by
 refine ak.bt func197 ?_;refine az.mk (NG _ c n g f cap p hn hf) (sm ?_);refine af ?_;simp[go_sem,gE]<;>omega
theorem NF(c n g f cap p)(hn:n<1000000000)(hf: ∀i,i<n->ak prog f (.agg ((g i).enc.map .d)::cap) σ (.d (B (p (g i))))):ak prog 428 [.d (SL c 2 kE.enc n g),.clo (.func f) [] cap] σ (.d (I (idxFrom p (lst n g) 0))):=by
 refine ak.bt func428 ?_;refine dm (α:=Nat) true [0,1,7,8] (fun i=>[(8,.d (I i))]) (fun i=>_) (fun i=>i<=n/\idxFrom p (lst n g) 0=idxFrom p ((lst n g).drop i) i) (fun i=>n-i) 0 ?_;rintro i ⟨hi,hx⟩;refine gc [0,1,7,8] ?_ ?_<;>intro d0
 ·rw[bU d0,idxFrom] at hx;refine wB ?_;refine az.mk (hf i d0) (sm ?_);refine km [0,1,5,7,8] ?_ ?_<;>intro c1 d1
  ·refine wA ?_;simp[go_sem,hx,c1]<;>omega
  ·refine wC ?_;refine bF (i+1) ⟨aa,ai⟩ (h:=aR)
 ·rw[bV d0,idxFrom] at hx;refine wN ?_;simp[go_sem,hx]<;>omega
theorem FC(c n g f cap p)(hn:n<1000000000)(hf: ∀i,i<n->ak prog f (.agg ((g i).enc.map .d)::cap) σ (.d (B (p (g i))))):ak prog 391 [.d (SL c 2 kE.enc n g),.clo (.func f) [] cap] σ (.d (B ((lst n g).any p))):=by
 refine ak.bt func391 ?_;refine az.mk (NF _ c n g f cap p hn hf) (sm ?_);refine af ?_;simp[go_sem,gE]<;>omega
theorem Kw(c n g)(hn:n<1000000000):CS prog 34 [.d (SL c 1 encI n g)] σ (fun r σ' X=>r= .ms σ.length 1 0 n/\σ'=σ++[.arr 1 n fun i=>encI (g i)]/\X=[]):=by
 refine CS.Ik true func34 fun hwf=> ?_;simp[go_sem,-Bool.forall_bool];try intro b1 hb1
 refine fX ?_ ?_<;>intro c0 d0
 ·simp[go_sem];refine bq 2 1 (fun i=>encI (g i)) au aN ?_;refine af ?_;obtain rfl:=hb1 c0;simp[go_sem]
 ·refine wB ?_;exact af so
theorem acz(c n g)(hn:n<1000000000):ak prog 118 [.d (SL c 2 kE.enc n g)] σ (.d (SL none 2 kE.enc n g)):=by
 refine ak.bd true func118 fun hwf=> ?_;simp[go_sem,-Bool.forall_bool];try intro b1 hb1
 refine fX ?_ ?_<;>intro c0 d0
 ·refine wA ?_;have:=hb1 c0;simp[go_sem,this]
 ·refine wB ?_;refine bg (σ.length) bj aN eS ?_;exact af so
theorem Kv(c n g)(hn:n<1000000000):CS prog 118 [.d (SL c 2 kE.enc n g)] σ (fun r σ' X=>r= .ms σ.length 2 0 n/\σ'=σ++[.arr 2 n fun i=>kE.enc (g i)]/\X=[]):=by
 refine CS.Ik true func118 fun hwf=> ?_;simp[go_sem,-Bool.forall_bool];try intro b1 hb1
 refine fX ?_ ?_<;>intro c0 d0
 ·simp[go_sem];refine bq 2 2 (fun i=>kE.enc (g i)) au aN ?_;refine af ?_;obtain rfl:=hb1 c0;simp[go_sem]
 ·refine wB ?_;exact af so
attribute [go_sem] hG Vn QS QU O8 S3 O6 Y7 Vo F5 O7 QT Vp O5
abbrev U(x:Int):D:= .v (.int .u64 x)
theorem abK{n}(h0:0<=n)(h1:n<18446744073709551616):IntKind.u64.wrap n=n:=by
 grind [IntKind.wrap_u64]
def rotL:List Nat:=[0,1,62,28,27,36,44,6,55,20,3,10,43,25,39,41,45,15,21,8,18,2,61,56,14]
def I5(i:Nat):Nat:=rotL.getD i 0
def qh(i:Nat):Int:=I5 i
theorem RG(i):I5 i<64:=by
 unfold I5;by_cases h:i<rotL.length
 ·have: ∀j:Fin 25,rotL.getD j.val 0<64:=aH;exact this ⟨i,h⟩
 grind
def rcL:List Int:=[0x0000000000000001,0x0000000000008082,0x800000000000808a,0x8000000080008000,0x000000000000808b,0x0000000080000001,0x8000000080008081,0x8000000000008009,0x000000000000008a,0x0000000000000088,0x0000000080008009,0x000000008000000a,0x000000008000808b,0x800000000000008b,0x8000000000008089,0x8000000000008003,0x8000000000008002,0x8000000000000080,0x000000000000800a,0x800000008000000a,0x8000000080008081,0x8000000000008080,0x0000000080000001,0x8000000080008008]
def Zq(i:Nat):Int:=rcL.getD i 0
def yU(x:Int)(k:Nat):Int:=orI .u64 (TG .u64 x k) (TF .u64 x (64-(k:Int)))
theorem afT{k:Nat}(h:k<64):QX .u64 (k:Int) 63=k:=by
 have: ∀j:Fin 64,QX .u64 ((j.val:Nat):Int) 63=((j.val:Nat):Int):=aH;exact this ⟨k,h⟩
def aU(a:Nat->Int):Nat->(Nat->Int)
 |0=>fun _=>0
 |i+1=>upd (aU a i) (i%5) (l7 .u64 (aU a i (i%5)) (a i))
def Ld(a s:Nat->Int)(x y:Nat):Int:=l7 .u64 (l7 .u64 (a (x+5*y)) (s ((x+4)%5))) (yU (s ((x+1)%5)) 1)
def bIn(a s:Nat->Int)(y:Nat)(b:Nat->Int):Nat->(Nat->Int)
 |0=>b
 |x+1=>upd (bIn a s y b x) (y+5*((2*x+3*y)%5)) (yU (Ld a s x y) (I5 (x+5*y)))
def bOut(a s:Nat->Int):Nat->(Nat->Int)
 |0=>fun _=>0
 |y+1=>bIn a s y (bOut a s y) 5
def FI(b:Nat->Int)(x y:Nat):Int:=l7 .u64 (b (x+5*y)) (QX .u64 (YH .u64 (b ((x+1)%5+5*y))) (b ((x+2)%5+5*y)))
def oIn(b:Nat->Int)(y:Nat)(o:Nat->Int):Nat->(Nat->Int)
 |0=>o
 |x+1=>upd (oIn b y o x) (x+5*y) (FI b x y)
def EC(b:Nat->Int):Nat->(Nat->Int)
 |0=>fun _=>0
 |y+1=>oIn b y (EC b y) 5
def rY(a:Nat->Int)(c:Int):Nat->Int:=upd (EC (bOut a (aU a 25) 5) 5) 0 (l7 .u64 (EC (bOut a (aU a 25) 5) 5 0) c)
def nB(s:Nat->Int):Nat->(Nat->Int)
 |0=>s
 |i+1=>rY (nB s i) (Zq i)
theorem acQ{y:Nat}(h:y<5):IntKind.i64.wrap (5*(y:Int))=5*(y:Int):=aS aa aa
theorem age{y:Nat}(h:y<5):IntKind.i64.wrap (2*(y:Int))=2*(y:Int):=aS aa aa
theorem agd{y:Nat}(h:y<5):IntKind.i64.wrap (3*(y:Int))=3*(y:Int):=aS aa aa
theorem V0{x y:Nat}(hx:x<5)(hy:y<5):IntKind.i64.wrap ((x:Int)+5*(y:Int))=(x:Int)+5*(y:Int):=aS aa aa
theorem aex{x y:Nat}(hx:x<5)(hy:y<5):IntKind.i64.wrap (2*(x:Int)+3*(y:Int))=2*(x:Int)+3*(y:Int):=aS aa aa
theorem aev{x:Nat}(hx:x<5):IntKind.i64.wrap ((x:Int)+4)=(x:Int)+4:=aS aa aa
theorem V1{x:Nat}(hx:x<5):IntKind.i64.wrap ((x:Int)+1)=(x:Int)+1:=aS aa aa
theorem abL{x:Nat}(hx:x<5):IntKind.i64.wrap ((x:Int)+2)=(x:Int)+2:=aS aa aa
theorem ab7{x:Nat} :((x:Int)+4).tmod 5=((x:Int)+4)%5:=mu aa
theorem RX{x:Nat} :((x:Int)+1).tmod 5=((x:Int)+1)%5:=mu aa
theorem ab8{x:Nat} :((x:Int)+2).tmod 5=((x:Int)+2)%5:=mu aa
theorem ae1{x y:Nat} :(2*(x:Int)+3*(y:Int)).tmod 5=(2*(x:Int)+3*(y:Int))%5:=mu aa
theorem aew{x y:Nat} :IntKind.i64.wrap (5*((2*(x:Int)+3*(y:Int))%5))=5*((2*(x:Int)+3*(y:Int))%5):=aS aa aa
theorem agc{x y:Nat}(hy:y<5):IntKind.i64.wrap ((y:Int)+5*((2*(x:Int)+3*(y:Int))%5))=(y:Int)+5*((2*(x:Int)+3*(y:Int))%5):=aS aa aa
theorem abN{x y:Nat}(hy:y<5):IntKind.i64.wrap (((x:Int)+1)%5+5*(y:Int))=((x:Int)+1)%5+5*(y:Int):=aS aa aa
theorem abM{x y:Nat}(hy:y<5):IntKind.i64.wrap (((x:Int)+2)%5+5*(y:Int))=((x:Int)+2)%5+5*(y:Int):=aS aa aa
theorem MZ{x y}(hx:x<5)(hy:y<5):x+5*y<25:=by omega
theorem EW{x y}(hx:x<5)(hy:y<5):x+5*y<=24:=by omega
theorem HM(i):i%5<5:=Nat.mod_lt _ aH
theorem Sg(i):i%5<=4:=Nat.le_of_lt_succ (Nat.mod_lt _ aH)
theorem ahv{x y}(hy:y<5):x%5+5*y<25:=by grind
theorem Rn(i:Nat):((i:Int)%5).toNat=i%5:=by omega
theorem Ll(x y:Nat):((x:Int)+5*(y:Int)).toNat=x+5*y:=by omega
theorem abP(x:Nat):(((x:Int)+4)%5).toNat=(x+4)%5:=by omega
theorem abQ(x:Nat):(((x:Int)+1)%5).toNat=(x+1)%5:=by omega
theorem aey(x y:Nat):((y:Int)+5*((2*(x:Int)+3*(y:Int))%5)).toNat=y+5*((2*x+3*y)%5):=by
 grind
theorem abS(x y:Nat):(((x:Int)+1)%5+5*(y:Int)).toNat=(x+1)%5+5*y:=by omega
theorem abR(x y:Nat):(((x:Int)+2)%5+5*(y:Int)).toNat=(x+2)%5+5*y:=by omega
theorem L0(x)(k:Nat)(hk:k<64):ak prog 493 [.d (U x),.d (I k)] σ (.d (U (yU x k))):=by
 have hw:IntKind.u64.wrap (k:Int)=k:=abK aa aa;have ha:=afT hk;have hs:IntKind.u64.wrap (64-(k:Int))=64-(k:Int):=abK aa aa;refine ak.bd true func493 fun hwf=> ?_;simp(disch:=first|omega|simp) [go_sem,hw,ha,hs];repeat refine⟨aa,?_⟩
 refine af ?_;simp[go_sem,yU]<;>omega
theorem ub:ak prog 468 [] σ (.agg (bh .i64 25 qh)):=by
 refine ak.bt func468 ?_;refine af ?_;simp[go_sem];exact iq (k:= .i64) (n:=25) (f:=qh)
theorem uc:ak prog 469 [] σ (.agg (bh .u64 24 Zq)):=by
 refine ak.bt func469 ?_;refine af ?_;simp[go_sem];exact iq (k:= .u64) (n:=24) (f:=Zq)
theorem CC(a c):ak prog 470 [.agg (bh .u64 25 a),.agg (bh .i64 25 qh),.d (U c)] σ (.agg (bh .u64 25 (rY a c))):=by
 refine ak.bd true func470 fun hwf=> ?_;simp[go_sem];refine mA (α:=Nat) true [2,3,4,6,7,18,19] (fun i=>[(19,.d (I i))]) (fun i=>σ++[.var (bh .u64 25 a),.var (bh .i64 25 qh),.var (bh .u64 25 fun _=>0),.var (bh .u64 5 (aU a i))]) (fun i=>i<=25) (fun i=>25-i) 0 au (rfl) an ?_;rintro i hi;refine gc [2,3,4,6,7,18,19] ?_ ?_<;>intro d0
 ·have hi5:i<25:=aa;have ht:(i:Int).tmod 5=(i:Int)%5:=mu aa;have hsu:aU a (i+1)=upd (aU a i) (i%5) (l7 .u64 (aU a i (i%5)) (a i)):=rfl;simp(disch:=first|omega|simp) [go_sem,Rn,Sg,ht,aS];repeat refine⟨aa,?_⟩
  refine bF (i+1) aa (h:=aR) (hσ:=aP) (hb:=ae au)
 ·obtain rfl:i=25:=by omega
  refine wL ?_;refine mA (α:=Nat) true [2,3,4,6,7,10,31] (fun y=>[(31,.d (I y))]) (fun y=>σ++[.var (bh .u64 25 a),.var (bh .i64 25 qh),.var (bh .u64 25 fun _=>0),.var (bh .u64 5 (aU a 25)),.var (bh .u64 25 (bOut a (aU a 25) y))]) (fun y=>y<=5) (fun y=>5-y) 0 au (rfl) an ?_;rintro y hy;refine gc [2,3,4,6,7,10,31] ?_ ?_<;>intro d1
  ·have XV:y<5:=aa;simp[go_sem];refine mA (α:=Nat) true [2,3,4,6,7,10,11,31,34] (fun x=>[(34,.d (I x))]) (fun x=>σ++[.var (bh .u64 25 a),.var (bh .i64 25 qh),.var (bh .u64 25 fun _=>0),.var (bh .u64 5 (aU a 25)),.var (bh .u64 25 (bIn a (aU a 25) y (bOut a (aU a 25) y) x))]) (fun x=>x<=5) (fun x=>5-x) 0 au (rfl) an ?_;rintro x hx;refine gc [2,3,4,6,7,10,11,31,34] ?_ ?_<;>intro d2
   ·have hx5:x<5:=aa;have hbu:bIn a (aU a 25) y (bOut a (aU a 25) y) (x+1)=upd (bIn a (aU a 25) y (bOut a (aU a 25) y) x) (y+5*((2*x+3*y)%5)) (yU (Ld a (aU a 25) x y) (I5 (x+5*y))):=rfl;have hwd:l7 .u64 (l7 .u64 (a (x+5*y)) (aU a 25 ((x+4)%5))) (yU (aU a 25 ((x+1)%5)) 1)=Ld a (aU a 25) x y:=rfl;refine wC ?_;refine T.dr 16 fun K hK=> ?_;simp[go_sem,Ll,abP,abQ,HM,Sg,XV,hx5,aev,V1,ab7,RX,MZ,EW];repeat refine⟨aa,?_⟩
    refine bK.mk (L0 _ (aU a 25 ((x+1)%5)) 1 aH) ?_;simp[go_sem,hwd];refine hK _ ?_;refine go true ?_;simp(disch:=first|omega|simp) [go_sem,Ll,EW,mu,aS];repeat refine⟨aa,?_⟩
    refine az.mk (L0 _ (Ld a (aU a 25) x y) (I5 (x+5*y)) (RG _)) ?_;simp(disch:=first|omega|simp) [go_sem,aey,EW,aS];repeat refine⟨aa,?_⟩
    refine bF (x+1) aa (h:=aR) (hσ:=aP) (hb:=ae au)
   ·obtain rfl:x=5:=by omega
    have hbo:bOut a (aU a 25) (y+1)=bIn a (aU a 25) y (bOut a (aU a 25) y) 5:=rfl;refine wT ?_;refine bF (y+1) aa (h:=aR) (hσ:=aP) (hb:=ae au)
  ·obtain rfl:y=5:=by omega
   refine wL ?_;refine mA (α:=Nat) true [2,6,10,15,74] (fun y=>[(74,.d (I y))]) (fun y=>σ++[.var (bh .u64 25 a),.var (bh .i64 25 qh),.var (bh .u64 25 fun _=>0),.var (bh .u64 5 (aU a 25)),.var (bh .u64 25 (bOut a (aU a 25) 5)),.var (bh .u64 25 (EC (bOut a (aU a 25) 5) y))]) (fun y=>y<=5) (fun y=>5-y) 0 au (rfl) an ?_;rintro y hy;refine gc [2,6,10,15,74] ?_ ?_<;>intro d3
   ·have XV:y<5:=aa;simp[go_sem];refine mA (α:=Nat) true [2,6,10,15,16,74,77] (fun x=>[(77,.d (I x))]) (fun x=>σ++[.var (bh .u64 25 a),.var (bh .i64 25 qh),.var (bh .u64 25 fun _=>0),.var (bh .u64 5 (aU a 25)),.var (bh .u64 25 (bOut a (aU a 25) 5)),.var (bh .u64 25 (oIn (bOut a (aU a 25) 5) y (EC (bOut a (aU a 25) 5) y) x))]) (fun x=>x<=5) (fun x=>5-x) 0 au (rfl) an ?_;rintro x hx;refine gc [2,6,10,15,16,74,77] ?_ ?_<;>intro d4
    ·have hx5:x<5:=aa;have hou:oIn (bOut a (aU a 25) 5) y (EC (bOut a (aU a 25) 5) y) (x+1)=upd (oIn (bOut a (aU a 25) 5) y (EC (bOut a (aU a 25) 5) y) x) (x+5*y) (FI (bOut a (aU a 25) 5) x y):=rfl;have hch:l7 .u64 ((bOut a (aU a 25) 5) (x+5*y)) (QX .u64 (YH .u64 ((bOut a (aU a 25) 5) ((x+1)%5+5*y))) ((bOut a (aU a 25) 5) ((x+2)%5+5*y)))=FI (bOut a (aU a 25) 5) x y:=rfl;simp[go_sem];refine T.dr 29 fun K hK=> ?_;simp[go_sem,Ll,abS,abR,HM,XV,hx5,acQ,V0,V1,abL,RX,ab8,abN,abM,MZ,EW,hch];refine wK hK ?_;refine wC ?_;refine bF (x+1) aa (h:=aR) (hσ:=aP) (hb:=ae au)
    ·obtain rfl:x=5:=by omega
     have hoo:EC (bOut a (aU a 25) 5) (y+1)=oIn (bOut a (aU a 25) 5) y (EC (bOut a (aU a 25) 5) y) 5:=rfl;refine wT ?_;refine bF (y+1) aa (h:=aR) (hσ:=aP) (hb:=ae au)
   ·obtain rfl:y=5:=by omega
    refine wO ?_;simp[go_sem];grind [iq,rY]
def bG(a s:Nat->Int):Nat->(Nat->Int)
 |0=>a
 |i+1=>upd (bG a s i) i (l7 .u64 (l7 .u64 (bG a s i i) (s ((i+4)%5))) (yU (s ((i+1)%5)) 1))
def PS(a:Nat->Int)(x:Nat)(b:Nat->Int):Nat->(Nat->Int)
 |0=>b
 |y+1=>upd (PS a x b y) (y+5*((2*x+3*y)%5)) (yU (a (x+5*y)) (I5 (x+5*y)))
def eU(a:Nat->Int):Nat->(Nat->Int)
 |0=>fun _=>0
 |x+1=>PS a x (eU a x) 5
def TS(b:Nat->Int)(x:Nat)(o:Nat->Int):Nat->(Nat->Int)
 |0=>o
 |y+1=>upd (TS b x o y) (x+5*y) (FI b x y)
def rZ(b a:Nat->Int):Nat->(Nat->Int)
 |0=>a
 |x+1=>TS b x (rZ b a x) 5
def PM(a:Nat->Int)(c:Int):Nat->Int:=
 upd (rZ (eU (bG a (aU a 25) 25) 5) (bG a (aU a 25) 25) 5) 0 (l7 .u64 (rZ (eU (bG a (aU a 25) 25) 5) (bG a (aU a 25) 25) 5 0) c)
theorem adq{q}(h:q<25):q=0\/q=1\/q=2\/q=3\/q=4\/q=5\/q=6\/q=7\/q=8\/q=9\/q=10\/q=11\/q=12\/q=13\/q=14\/q=15\/q=16\/q=17\/q=18\/q=19\/q=20\/q=21\/q=22\/q=23\/q=24:=by omega
theorem Ds(a s q): ∀n,bG a s n q=if q<n then l7 .u64 (l7 .u64 (a q) (s ((q+4)%5))) (yU (s ((q+1)%5)) 1) else a q
 |0=>rfl
 |n+1=>by
  unfold bG upd;by_cases h:q=n
  ·subst h;rw[if_pos rfl,if_pos (Nat.lt_succ_self _),Ds a s q q,if_neg (Nat.lt_irrefl _)]
  ·rw[if_neg h,Ds a s q n];grind
theorem ahh(a s){q}(h:q<25):eU (bG a s 25) 5 q=bOut a s 5 q:=by
 rcases adq h with rfl|rfl|rfl|rfl|rfl|rfl|rfl|rfl|rfl|rfl|rfl|rfl|rfl|rfl|rfl|rfl|rfl|rfl|rfl|rfl|rfl|rfl|rfl|rfl|rfl<;>simp[eU,PS,bOut,bIn,upd,Ds,Ld]
theorem aeA(b a){q}(h:q<25):rZ b a 5 q=FI b (q%5) (q/5):=by
 rcases adq h with rfl|rfl|rfl|rfl|rfl|rfl|rfl|rfl|rfl|rfl|rfl|rfl|rfl|rfl|rfl|rfl|rfl|rfl|rfl|rfl|rfl|rfl|rfl|rfl|rfl<;>kernel_rfl
theorem agL(b){q}(h:q<25):EC b 5 q=FI b (q%5) (q/5):=by
 rcases adq h with rfl|rfl|rfl|rfl|rfl|rfl|rfl|rfl|rfl|rfl|rfl|rfl|rfl|rfl|rfl|rfl|rfl|rfl|rfl|rfl|rfl|rfl|rfl|rfl|rfl<;>kernel_rfl
theorem ad5{b b'}(h: ∀q,q<25->b' q=b q){x y}(hx:x<5)(hy:y<5):FI b' x y=FI b x y:=by
 grind [FI]
theorem round_eq(a c){q}(h:q<25):PM a c q=rY a c q:=by
 have key: ∀q,q<25->rZ (eU (bG a (aU a 25) 25) 5) (bG a (aU a 25) 25) 5 q=EC (bOut a (aU a 25) 5) 5 q:=fun q hq=>by
  grind [aeA,agL,ad5,ahh]
 simp_all [PM,rY,upd]
theorem x5(σ a):ak prog 440 [.agg (bh .u64 25 a)] σ (.agg (bh .u64 25 (nB a 24))):=by
 refine ak.bt func440 ?_;refine az.mk (ub _) (sm ?_);refine az.mk (uc _) (sm ?_);refine dm (α:=Nat) true [1,2,3,7,8] (fun i=>[(8,.d (I i))]) (fun i=>σ++[.var (bh .u64 25 (nB a i)),.var (bh .u64 25 fun _=>0),.var (bh .i64 25 qh)]) (fun i=>i<=24) (fun i=>24-i) 0 ?_;rintro i hi;refine gc [1,2,3,7,8] ?_ ?_<;>intro d0
 ·have hi5:i<24:=aa;have hi4:i<=23:=aa;have hpu:nB a (i+1)=rY (nB a i) (Zq i):=rfl;refine wI ?_;repeat refine⟨aa,?_⟩
  refine az.mk (CC _ (nB a i) (Zq i)) ?_;refine wC ?_;refine bF (i+1) aa (h:=aR) (hσ:=by simp[go_sem,hpu]) (hb:=ae au)
 ·obtain rfl:i=24:=by omega
  refine wN ?_;simp[go_sem];grind [iq]
end Go.Proofs.YthpplckmbbachaaGreatDoor
