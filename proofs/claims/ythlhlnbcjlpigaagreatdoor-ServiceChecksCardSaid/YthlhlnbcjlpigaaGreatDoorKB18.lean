/- Contracts and lemmas, joined out of smaller texts by a program; no conditions. -/
import Derived.Test.YthlhlnbcjlpigaaGreatDoorKB17
set_option linter.unusedVariables false
set_option linter.unusedSimpArgs false
set_option maxHeartbeats 1000000
set_option maxRecDepth 100000
namespace Go.Proofs.YthlhlnbcjlpigaaGreatDoor
open Go.aU Go.Proofs.Tryz
variable (σ : List aC)
attribute [go_sem] eY TD arrV_takeA arrV_dropA Zw arrV_at Zu arrV_at0 arrV_set0 P7 Zv arrV_scrub arrV_frzT Zt
abbrev U(x:Int):D:= .v (.int .u64 x)
theorem wrapU{n:Int}(h0:0<=n)(h1:n<18446744073709551616):IntKind.u64.wrap n=n:=by
 rw[IntKind.wrap_u64];omega
def rotL:List Nat:=[0,1,62,28,27,36,44,6,55,20,3,10,43,25,39,41,45,15,21,8,18,2,61,56,14]
def Uh(i:Nat):Nat:=rotL.getD i 0
def wO(i:Nat):Int:=Uh i
theorem rotN_lt(i:Nat):Uh i<64:=by
 unfold Uh;by_cases h:i<rotL.length
 ·have: ∀j:Fin 25,rotL.getD j.val 0<64:=by decide
  exact this ⟨i,h⟩
 ·rw[List.getD_eq_getElem?_getD,List.getElem?_eq_none (by omega)];decide
def rcL:List Int:=[0x0000000000000001,0x0000000000008082,0x800000000000808a,0x8000000080008000,0x000000000000808b,0x0000000080000001,0x8000000080008081,0x8000000000008009,0x000000000000008a,0x0000000000000088,0x0000000080008009,0x000000008000000a,0x000000008000808b,0x800000000000008b,0x8000000000008089,0x8000000000008003,0x8000000000008002,0x8000000000000080,0x000000000000800a,0x800000008000000a,0x8000000080008081,0x8000000000008080,0x0000000080000001,0x8000000080008008]
def rcF(i:Nat):Int:=rcL.getD i 0
def Ig(x:Int)(k:Nat):Int:=orI .u64 (shlI .u64 x k) (Z7 .u64 x (64-(k:Int)))
theorem and63{k:Nat}(h:k<64):andI .u64 (k:Int) 63=k:=by
 have: ∀j:Fin 64,andI .u64 ((j.val:Nat):Int) 63=((j.val:Nat):Int):=by decide
 exact this ⟨k,h⟩
def aT(a:Nat->Int):Nat->(Nat->Int)
 |0=>fun _=>0
 |i+1=>upd (aT a i) (i%5) (pJ .u64 (aT a i (i%5)) (a i))
def Wu(a s:Nat->Int)(x y:Nat):Int:=pJ .u64 (pJ .u64 (a (x+5*y)) (s ((x+4)%5))) (Ig (s ((x+1)%5)) 1)
def bIn(a s:Nat->Int)(y:Nat)(b:Nat->Int):Nat->(Nat->Int)
 |0=>b
 |x+1=>upd (bIn a s y b x) (y+5*((2*x+3*y)%5)) (Ig (Wu a s x y) (Uh (x+5*y)))
def bOut(a s:Nat->Int):Nat->(Nat->Int)
 |0=>fun _=>0
 |y+1=>bIn a s y (bOut a s y) 5
def Pz(b:Nat->Int)(x y:Nat):Int:=pJ .u64 (b (x+5*y)) (andI .u64 (comI .u64 (b ((x+1)%5+5*y))) (b ((x+2)%5+5*y)))
def oIn(b:Nat->Int)(y:Nat)(o:Nat->Int):Nat->(Nat->Int)
 |0=>o
 |x+1=>upd (oIn b y o x) (x+5*y) (Pz b x y)
def Oi(b:Nat->Int):Nat->(Nat->Int)
 |0=>fun _=>0
 |y+1=>oIn b y (Oi b y) 5
def zk(a:Nat->Int)(c:Int):Nat->Int:=upd (Oi (bOut a (aT a 25) 5) 5) 0 (pJ .u64 (Oi (bOut a (aT a 25) 5) 5 0) c)
def nS(s:Nat->Int):Nat->(Nat->Int)
 |0=>s
 |i+1=>zk (nS s i) (rcF i)
theorem wk_5{y:Nat}(h:y<5):IntKind.i64.wrap (5*(y:Int))=5*(y:Int):=aA (by omega) (by omega)
theorem wk_2{y:Nat}(h:y<5):IntKind.i64.wrap (2*(y:Int))=2*(y:Int):=aA (by omega) (by omega)
theorem wk_3{y:Nat}(h:y<5):IntKind.i64.wrap (3*(y:Int))=3*(y:Int):=aA (by omega) (by omega)
theorem wk_xy{x y:Nat}(hx:x<5)(hy:y<5):IntKind.i64.wrap ((x:Int)+5*(y:Int))=(x:Int)+5*(y:Int):=aA (by omega) (by omega)
theorem wk_23{x y:Nat}(hx:x<5)(hy:y<5):IntKind.i64.wrap (2*(x:Int)+3*(y:Int))=2*(x:Int)+3*(y:Int):=aA (by omega) (by omega)
theorem wk_x4{x:Nat}(hx:x<5):IntKind.i64.wrap ((x:Int)+4)=(x:Int)+4:=aA (by omega) (by omega)
theorem wk_x1{x:Nat}(hx:x<5):IntKind.i64.wrap ((x:Int)+1)=(x:Int)+1:=aA (by omega) (by omega)
theorem wk_x2{x:Nat}(hx:x<5):IntKind.i64.wrap ((x:Int)+2)=(x:Int)+2:=aA (by omega) (by omega)
theorem md_x4{x:Nat} :((x:Int)+4).tmod 5=((x:Int)+4)%5:=sU (by omega)
theorem md_x1{x:Nat} :((x:Int)+1).tmod 5=((x:Int)+1)%5:=sU (by omega)
theorem md_x2{x:Nat} :((x:Int)+2).tmod 5=((x:Int)+2)%5:=sU (by omega)
theorem md_23{x y:Nat} :(2*(x:Int)+3*(y:Int)).tmod 5=(2*(x:Int)+3*(y:Int))%5:=sU (by omega)
theorem wk_m5{x y:Nat} :IntKind.i64.wrap (5*((2*(x:Int)+3*(y:Int))%5))=5*((2*(x:Int)+3*(y:Int))%5):=aA (by omega) (by omega)
theorem wk_b{x y:Nat}(hy:y<5):IntKind.i64.wrap ((y:Int)+5*((2*(x:Int)+3*(y:Int))%5))=(y:Int)+5*((2*(x:Int)+3*(y:Int))%5):=aA (by omega) (by omega)
theorem wk_c1{x y:Nat}(hy:y<5):IntKind.i64.wrap (((x:Int)+1)%5+5*(y:Int))=((x:Int)+1)%5+5*(y:Int):=aA (by omega) (by omega)
theorem wk_c2{x y:Nat}(hy:y<5):IntKind.i64.wrap (((x:Int)+2)%5+5*(y:Int))=((x:Int)+2)%5+5*(y:Int):=aA (by omega) (by omega)
theorem RX{x y:Nat}(hx:x<5)(hy:y<5):x+5*y<25:=by omega
theorem OG{x y:Nat}(hx:x<5)(hy:y<5):x+5*y<=24:=by omega
theorem JB(i:Nat):i%5<5:=Nat.mod_lt _ (by decide)
theorem le_m5(i:Nat):i%5<=4:=Nat.le_of_lt_succ (Nat.mod_lt _ (by decide))
theorem lt_c{x y:Nat}(hy:y<5):x%5+5*y<25:=by have:=JB x;omega
theorem tn_mod5(i:Nat):((i:Int)%5).toNat=i%5:=by omega
theorem WC(x y:Nat):((x:Int)+5*(y:Int)).toNat=x+5*y:=by omega
theorem tn_x4(x:Nat):(((x:Int)+4)%5).toNat=(x+4)%5:=by omega
theorem tn_x1(x:Nat):(((x:Int)+1)%5).toNat=(x+1)%5:=by omega
theorem tn_b(x y:Nat):((y:Int)+5*((2*(x:Int)+3*(y:Int))%5)).toNat=y+5*((2*x+3*y)%5):=by
 have h:((2*(x:Int)+3*(y:Int))%5)=(((2*x+3*y)%5:Nat):Int):=by omega
 rw[h];omega
theorem tn_c1(x y:Nat):(((x:Int)+1)%5+5*(y:Int)).toNat=(x+1)%5+5*y:=by omega
theorem tn_c2(x y:Nat):(((x:Int)+2)%5+5*(y:Int)).toNat=(x+2)%5+5*y:=by omega
theorem Xk(x:Int)(k:Nat)(hk:k<64):ay prog 430 [.d (U x),.d (I k)] σ (.d (U (Ig x k))):=by
 have hw:IntKind.u64.wrap (k:Int)=k:=wrapU (by omega) (by omega);have ha:=and63 hk;have hs:IntKind.u64.wrap (64-(k:Int))=64-(k:Int):=wrapU (by omega) (by omega);refine ay.bd true func430 fun hwf=> ?_;simp(disch:=first|omega|simp) [go_sem,hw,ha,hs];repeat refine⟨by omega,?_⟩
 refine aj ?_;simp[go_sem,Ig]<;>omega
theorem C9:ay prog 409 [] σ (.agg (bg .i64 25 wO)):=by
 refine ay.bs true func409 fun hwf=> ?_;refine aj ?_;simp[go_sem];exact kL (k:= .i64) (n:=25) (f:=wO)
theorem Dj:ay prog 410 [] σ (.agg (bg .u64 24 rcF)):=by
 refine ay.bs true func410 fun hwf=> ?_;refine aj ?_;simp[go_sem];exact kL (k:= .u64) (n:=24) (f:=rcF)
theorem KW(a:Nat->Int)(c:Int):ay prog 411 [.agg (bg .u64 25 a),.agg (bg .i64 25 wO),.d (U c)] σ (.agg (bg .u64 25 (zk a c))):=by
 refine ay.bd true func411 fun hwf=> ?_;simp[go_sem];refine zJ (α:=Nat) true [2,3,4,6,7,18,19] (fun i=>[(19,.d (I i))]) (fun i=>σ++[.var (bg .u64 25 a),.var (bg .i64 25 wO),.var (bg .u64 25 fun _=>0),.var (bg .u64 5 (aT a i))]) (fun i=>i<=25) (fun i=>25-i) 0 (by simp[go_sem]) (rfl) (by simp) ?_;rintro i hi;simp[go_sem];refine aH [2,3,4,6,7,18,19] ?_ ?_<;>intro c0 d0
 ·have hi5:i<25:=by omega
  have ht:(i:Int).tmod 5=(i:Int)%5:=sU (by omega);have hsu:aT a (i+1)=upd (aT a i) (i%5) (pJ .u64 (aT a i (i%5)) (a i)):=rfl;simp(disch:=first|omega|simp) [go_sem,tn_mod5,le_m5,ht,aA];repeat refine⟨by omega,?_⟩
  refine dB (i+1) (by omega) (h:=by simp[go_sem]<;>omega) (hσ:=by simp[go_sem,hsu]) (hb:=au (by simp[go_sem]))
 ·obtain rfl:i=25:=by omega
  simp[go_sem];refine go true ?_;simp[go_sem];refine zJ (α:=Nat) true [2,3,4,6,7,10,31] (fun y=>[(31,.d (I y))]) (fun y=>σ++[.var (bg .u64 25 a),.var (bg .i64 25 wO),.var (bg .u64 25 fun _=>0),.var (bg .u64 5 (aT a 25)),.var (bg .u64 25 (bOut a (aT a 25) y))]) (fun y=>y<=5) (fun y=>5-y) 0 (by simp[go_sem]) (rfl) (by simp) ?_;rintro y hy;simp[go_sem];refine aH [2,3,4,6,7,10,31] ?_ ?_<;>intro c1 d1
  ·have hy5:y<5:=by omega
   simp[go_sem];refine zJ (α:=Nat) true [2,3,4,6,7,10,11,31,34] (fun x=>[(34,.d (I x))]) (fun x=>σ++[.var (bg .u64 25 a),.var (bg .i64 25 wO),.var (bg .u64 25 fun _=>0),.var (bg .u64 5 (aT a 25)),.var (bg .u64 25 (bIn a (aT a 25) y (bOut a (aT a 25) y) x))]) (fun x=>x<=5) (fun x=>5-x) 0 (by simp[go_sem]) (rfl) (by simp) ?_;rintro x hx;simp[go_sem];refine aH [2,3,4,6,7,10,11,31,34] ?_ ?_<;>intro c2 d2
   ·have hx5:x<5:=by omega
    have hbu:bIn a (aT a 25) y (bOut a (aT a 25) y) (x+1)=upd (bIn a (aT a 25) y (bOut a (aT a 25) y) x) (y+5*((2*x+3*y)%5)) (Ig (Wu a (aT a 25) x y) (Uh (x+5*y))):=rfl;have hwd:pJ .u64 (pJ .u64 (a (x+5*y)) (aT a 25 ((x+4)%5))) (Ig (aT a 25 ((x+1)%5)) 1)=Wu a (aT a 25) x y:=rfl;simp(disch:=first|omega|simp) [go_sem,aA];refine T.dr 16 fun K hK=> ?_;simp[go_sem,WC,tn_x4,tn_x1,JB,le_m5,hy5,hx5,wk_x4,wk_x1,md_x4,md_x1,RX,OG];repeat refine⟨by omega,?_⟩
    refine dS.mk (Xk _ (aT a 25 ((x+1)%5)) 1 (by decide)) ?_;simp[go_sem,hwd];refine hK _ ?_;refine go true ?_;simp(disch:=first|omega|simp) [go_sem,WC,OG,sU,aA];repeat refine⟨by omega,?_⟩
    refine aW.mk (Xk _ (Wu a (aT a 25) x y) (Uh (x+5*y)) (rotN_lt _)) ?_;simp(disch:=first|omega|simp) [go_sem,tn_b,OG,aA];repeat refine⟨by omega,?_⟩
    refine dB (x+1) (by omega) (h:=by simp[go_sem]<;>omega) (hσ:=by simp[go_sem,hbu]) (hb:=au (by simp[go_sem]))
   ·obtain rfl:x=5:=by omega
    have hbo:bOut a (aT a 25) (y+1)=bIn a (aT a 25) y (bOut a (aT a 25) y) 5:=rfl;simp[go_sem];refine go true ?_;simp(disch:=first|omega|simp) [go_sem,aA];refine dB (y+1) (by omega) (h:=by simp[go_sem]<;>omega) (hσ:=by simp[go_sem,hbo]) (hb:=au (by simp[go_sem]))
  ·obtain rfl:y=5:=by omega
   simp[go_sem];refine go true ?_;simp[go_sem];refine zJ (α:=Nat) true [2,6,10,15,74] (fun y=>[(74,.d (I y))]) (fun y=>σ++[.var (bg .u64 25 a),.var (bg .i64 25 wO),.var (bg .u64 25 fun _=>0),.var (bg .u64 5 (aT a 25)),.var (bg .u64 25 (bOut a (aT a 25) 5)),.var (bg .u64 25 (Oi (bOut a (aT a 25) 5) y))]) (fun y=>y<=5) (fun y=>5-y) 0 (by simp[go_sem]) (rfl) (by simp) ?_;rintro y hy;simp[go_sem];refine aH [2,6,10,15,74] ?_ ?_<;>intro c3 d3
   ·have hy5:y<5:=by omega
    simp[go_sem];refine zJ (α:=Nat) true [2,6,10,15,16,74,77] (fun x=>[(77,.d (I x))]) (fun x=>σ++[.var (bg .u64 25 a),.var (bg .i64 25 wO),.var (bg .u64 25 fun _=>0),.var (bg .u64 5 (aT a 25)),.var (bg .u64 25 (bOut a (aT a 25) 5)),.var (bg .u64 25 (oIn (bOut a (aT a 25) 5) y (Oi (bOut a (aT a 25) 5) y) x))]) (fun x=>x<=5) (fun x=>5-x) 0 (by simp[go_sem]) (rfl) (by simp) ?_;rintro x hx;simp[go_sem];refine aH [2,6,10,15,16,74,77] ?_ ?_<;>intro c4 d4
    ·have hx5:x<5:=by omega
     have hou:oIn (bOut a (aT a 25) 5) y (Oi (bOut a (aT a 25) 5) y) (x+1)=upd (oIn (bOut a (aT a 25) 5) y (Oi (bOut a (aT a 25) 5) y) x) (x+5*y) (Pz (bOut a (aT a 25) 5) x y):=rfl;have hch:pJ .u64 ((bOut a (aT a 25) 5) (x+5*y)) (andI .u64 (comI .u64 ((bOut a (aT a 25) 5) ((x+1)%5+5*y))) ((bOut a (aT a 25) 5) ((x+2)%5+5*y)))=Pz (bOut a (aT a 25) 5) x y:=rfl;simp[go_sem];refine T.dr 29 fun K hK=> ?_;simp[go_sem,WC,tn_c1,tn_c2,JB,hy5,hx5,wk_5,wk_xy,wk_x1,wk_x2,md_x1,md_x2,wk_c1,wk_c2,RX,OG,hch];repeat refine⟨by omega,?_⟩
     refine hK _ ?_;refine go true ?_;simp(disch:=first|omega|simp) [go_sem,aA];refine dB (x+1) (by omega) (h:=by simp[go_sem]<;>omega) (hσ:=by simp[go_sem,hou]) (hb:=au (by simp[go_sem]))
    ·obtain rfl:x=5:=by omega
     have hoo:Oi (bOut a (aT a 25) 5) (y+1)=oIn (bOut a (aT a 25) 5) y (Oi (bOut a (aT a 25) 5) y) 5:=rfl;simp[go_sem];refine go true ?_;simp(disch:=first|omega|simp) [go_sem,aA];refine dB (y+1) (by omega) (h:=by simp[go_sem]<;>omega) (hσ:=by simp[go_sem,hoo]) (hb:=au (by simp[go_sem]))
   ·obtain rfl:y=5:=by omega
    simp[go_sem];refine go true ?_;simp[go_sem];refine aj ?_;simp[go_sem];exact kL (k:= .u64) (n:=25) (f:=zk a c)
def bJ(a s:Nat->Int):Nat->(Nat->Int)
 |0=>a
 |i+1=>upd (bJ a s i) i (pJ .u64 (pJ .u64 (bJ a s i i) (s ((i+4)%5))) (Ig (s ((i+1)%5)) 1))
def aah(a:Nat->Int)(x:Nat)(b:Nat->Int):Nat->(Nat->Int)
 |0=>b
 |y+1=>upd (aah a x b y) (y+5*((2*x+3*y)%5)) (Ig (a (x+5*y)) (Uh (x+5*y)))
def iJ(a:Nat->Int):Nat->(Nat->Int)
 |0=>fun _=>0
 |x+1=>aah a x (iJ a x) 5
def roIn(b:Nat->Int)(x:Nat)(o:Nat->Int):Nat->(Nat->Int)
 |0=>o
 |y+1=>upd (roIn b x o y) (x+5*y) (Pz b x y)
def zl(b a:Nat->Int):Nat->(Nat->Int)
 |0=>a
 |x+1=>roIn b x (zl b a x) 5
def aac(a:Nat->Int)(c:Int):Nat->Int:=
 upd (zl (iJ (bJ a (aT a 25) 25) 5) (bJ a (aT a 25) 25) 5) 0 (pJ .u64 (zl (iJ (bJ a (aT a 25) 25) 5) (bJ a (aT a 25) 25) 5 0) c)
theorem lt25{q:Nat}(h:q<25):q=0\/q=1\/q=2\/q=3\/q=4\/q=5\/q=6\/q=7\/q=8\/q=9\/q=10\/q=11\/q=12\/q=13\/q=14\/q=15\/q=16\/q=17\/q=18\/q=19\/q=20\/q=21\/q=22\/q=23\/q=24:=by omega
theorem L6(a s:Nat->Int)(q:Nat): ∀n,bJ a s n q=if q<n then pJ .u64 (pJ .u64 (a q) (s ((q+4)%5))) (Ig (s ((q+1)%5)) 1) else a q
 |0=>rfl
 |n+1=>by
  unfold bJ upd;by_cases h:q=n
  ·subst h;rw[if_pos rfl,if_pos (Nat.lt_succ_self _),L6 a s q q,if_neg (Nat.lt_irrefl _)]
  ·rw[if_neg h,L6 a s q n];by_cases h2:q<n
   ·rw[if_pos h2,if_pos (by omega)]
   ·rw[if_neg h2,if_neg (by omega)]
theorem b_eq(a s:Nat->Int){q:Nat}(h:q<25):iJ (bJ a s 25) 5 q=bOut a s 5 q:=by
 rcases lt25 h with rfl|rfl|rfl|rfl|rfl|rfl|rfl|rfl|rfl|rfl|rfl|rfl|rfl|rfl|rfl|rfl|rfl|rfl|rfl|rfl|rfl|rfl|rfl|rfl|rfl<;>simp[iJ,aah,bOut,bIn,upd,L6,Wu]
theorem ro_at(b a:Nat->Int){q:Nat}(h:q<25):zl b a 5 q=Pz b (q%5) (q/5):=by
 rcases lt25 h with rfl|rfl|rfl|rfl|rfl|rfl|rfl|rfl|rfl|rfl|rfl|rfl|rfl|rfl|rfl|rfl|rfl|rfl|rfl|rfl|rfl|rfl|rfl|rfl|rfl<;>kernel_rfl
theorem o_at(b:Nat->Int){q:Nat}(h:q<25):Oi b 5 q=Pz b (q%5) (q/5):=by
 rcases lt25 h with rfl|rfl|rfl|rfl|rfl|rfl|rfl|rfl|rfl|rfl|rfl|rfl|rfl|rfl|rfl|rfl|rfl|rfl|rfl|rfl|rfl|rfl|rfl|rfl|rfl<;>kernel_rfl
theorem chi_eq{b b':Nat->Int}(h: ∀q,q<25->b' q=b q){x y:Nat}(hx:x<5)(hy:y<5):Pz b' x y=Pz b x y:=by
 unfold Pz;rw[h _ (RX hx hy),h _ (lt_c hy),h _ (lt_c hy)]
theorem round_eq(a:Nat->Int)(c:Int){q:Nat}(h:q<25):aac a c q=zk a c q:=by
 have key: ∀q,q<25->zl (iJ (bJ a (aT a 25) 25) 5) (bJ a (aT a 25) 25) 5 q=Oi (bOut a (aT a 25) 5) 5 q:=fun q hq=>by
  rw[ro_at _ _ hq,o_at _ hq];exact chi_eq (fun r hr=>b_eq a (aT a 25) hr) (JB q) (by omega)
 unfold aac zk upd;rw[key 0 (by omega)];split
 ·rfl
 ·exact key q h
theorem Gw(σ:List aC)(a:Nat->Int):ay prog 384 [.agg (bg .u64 25 a)] σ (.agg (bg .u64 25 (nS a 24))):=by
 refine ay.bs true func384 fun hwf=> ?_;refine aW.mk (C9 _) (sm ?_);refine aW.mk (Dj _) (sm ?_);refine gy (α:=Nat) true [1,2,3,7,8] (fun i=>[(8,.d (I i))]) (fun i=>σ++[.var (bg .u64 25 (nS a i)),.var (bg .u64 25 fun _=>0),.var (bg .i64 25 wO)]) (fun i=>i<=24) (fun i=>24-i) 0 ?_;rintro i hi;simp[go_sem];refine aH [1,2,3,7,8] ?_ ?_<;>intro c0 d0
 ·have hi5:i<24:=by omega
  have hi4:i<=23:=by omega
  have hpu:nS a (i+1)=zk (nS a i) (rcF i):=rfl;simp(disch:=first|omega|simp) [go_sem];repeat refine⟨by omega,?_⟩
  refine aW.mk (KW _ (nS a i) (rcF i)) ?_;simp(disch:=first|omega|simp) [go_sem,aA];refine dB (i+1) (by omega) (h:=by simp[go_sem]<;>omega) (hσ:=by simp[go_sem,hpu]) (hb:=au (by simp[go_sem]))
 ·obtain rfl:i=24:=by omega
  simp[go_sem];refine go true (sm ?_);refine aj ?_;simp[go_sem];exact kL (k:= .u64) (n:=25) (f:=nS a 24)
end Go.Proofs.YthlhlnbcjlpigaaGreatDoor
