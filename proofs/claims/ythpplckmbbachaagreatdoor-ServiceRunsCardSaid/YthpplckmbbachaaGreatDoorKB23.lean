/- Lemmas, no conditions. -/
import Derived.Test.YthpplckmbbachaaGreatDoorKB22
import Derived.Lib.ItoaNum
import Derived.Sort.Walk0
set_option linter.unusedVariables false
set_option linter.unusedSimpArgs false
set_option maxHeartbeats 1000000
set_option maxRecDepth 100000
namespace Go.Proofs.YthpplckmbbachaaGreatDoor
open Go.aI Go.Shelf Go.RowKit Go.Lib Go.Proofs Go.Sort Go.Proofs.Tryz
variable (σ : List aZ)
theorem agq:Builder.Extra prog uw where
 sizeBuilder:=by kernel_rfl
 liesBuilder:=by kernel_rfl
 t5:=underlying5
 a5:=isAgg5
 z5:=sizeOf5
 v5:=zeroValue5
 infoByte:=by kernel_rfl
 cellsByte:=by kernel_rfl
 sizeByte:=by kernel_rfl
 neB5:=by decide
theorem TV(s)(c:Nat)(hc2:2<=c)(hc:c<=9223372036854775807)(hlen:s.size*c<=140737488355328)(h0:0<s.size):ak prog 408 [.d (Sb s),.d (I c)] σ (.d (Sb ⟨(Lib.repeatL s.data.toList c).toArray⟩)):=by
 refine ak.xH T.afG #[.string s,.int .i64 c] (fun w j vs hr=>DY hr (fun _ h=>iu h) (fun _ h=>iu h)) (fun w j hS=> ?_);exact Any.strings_Repeat_main Tx agq s c w hc2 hc hlen h0
def dG:Array Value:=(Lib.pow10Tab.map fun z=>Value.int .u64 z).toArray
theorem Z2 {w j σ} (hS : aQ w j σ) {b : Nat} (h : σ[b]? = some (.tab 0 dG)) : Lib.TabIs prog w "internal/strconv.uint64pow10" .u64 Lib.pow10Tab := by
 obtain⟨e,f,hc⟩:=Tr hS h;have hg : prog.globalNamed "internal/strconv.uint64pow10" = some 0 := aD
 unfold Lib.TabIs World.var?;rw[hg];simp only[Option.bind_some,hc];rfl
theorem below_grow(w os k):Below w.heap.size w (grow (w.drewN k) os):=
 ⟨rfl,rfl,rfl,by simp[grow],fun i hi=>by simp[grow,Array.getElem?_append_left hi]⟩
def E2(n:Nat):ByteArray:=⟨(Lib.decDigits n).toArray⟩
theorem tw(n:Nat)(hn:n<=1073741824)(hσ:σ[0]? =some (.tab 0 dG)):ak prog 245 [.d (I n)] σ (.d (Sb (E2 n))):=by
 refine ak.xH T.afL #[.int .i64 n] (fun w j vs hr=>WT hr (fun _ h=>iu h)) (fun w j hS=> ?_);refine(Any.strconv_Itoa itoa n aa aa w (Z2 hS hσ)).mono ?_;rintro e w' ⟨rfl,k,os,rfl⟩;exact⟨by rw[Lib.itoa,if_neg aa,Int.toNat_natCast];rfl,below_grow w os k⟩
end Go.Proofs.YthpplckmbbachaaGreatDoor
namespace Go.Proofs.YthpplckmbbachaaGreatDoor
open Go.aI Go.Proofs.Tryz
variable (σ : List aZ)
attribute [go_sem] QR uT
def nX(b:ByteArray)(i:Nat):Int:=((b[i]?).getD 0).toNat
def o5(s d:Nat->Int):Nat->(Nat->Int)
 |0=>s
 |i+1=>upd (o5 s d i) (i/8) (l7 .u64 (o5 s d i (i/8)) (TG .u64 (IntKind.u64.wrap (d i)) (8*((i:Int)%8))))
theorem F6{s d d'} : ∀{n},(∀i,i<n->d i=d' i)->o5 s d n=o5 s d' n
 |0,_=>rfl
 |n+1,h=>by
  unfold o5;rw[F6 (n:=n) fun i hi=>h i aa,h n aa]
theorem Ro(i:Nat):((i:Int)/8).toNat=i/8:=by omega
theorem CD(a b)(hb:b.size=136):ak prog 407 [.agg (bh .u64 25 a),.d (Sb b)] σ (.agg (bh .u64 25 (nB (o5 a (nX b) 136) 24))):=by
 refine ak.bd true func407 fun hwf=> ?_;simp[go_sem,hb];refine mA (α:=Nat) true [1,2,4,7,8] (fun i=>[(8,.d (I i))]) (fun i=>σ++[.var (bh .u64 25 (o5 a (nX b) i)),.var (bh .u64 25 fun _=>0)]) (fun i=>i<=136) (fun i=>136-i) 0 au (rfl) an ?_;rintro i hi;refine gc [1,2,4,7,8] ?_ ?_<;>intro d0
 ·have hi5:i<136:=aa;have hd:i/8<25:=aa;have hd4:i/8<=24:=aa;have h1:(i:Int).tdiv 8=(i:Int)/8:=wo aa;have h2:IntKind.i64.wrap ((i:Int)/8)=(i:Int)/8:=aS aa aa;have h3:(i:Int).tmod 8=(i:Int)%8:=mu aa;have h4:IntKind.i64.wrap (8*((i:Int)%8))=8*((i:Int)%8):=aS aa aa;have hau:o5 a (nX b) (i+1)=upd (o5 a (nX b) i) (i/8) (l7 .u64 (o5 a (nX b) i (i/8)) (TG .u64 (IntKind.u64.wrap (((b[i]?).getD 0).toNat:Int)) (8*((i:Int)%8)))):=rfl;simp[go_sem];refine T.dr 13 fun K hK=> ?_;simp[go_sem,Ro,hb,hi5,hd,hd4,h1,h2,h3,h4];refine wK hK ?_;refine wC ?_;refine bF (i+1) aa (h:=aR) (hσ:=aP) (hb:=ae au)
 ·obtain rfl:i=136:=by omega
  refine wL ?_;refine az.mk (x5 _ _) ?_;refine wA ?_;simp[go_sem];grind [iq]
def xZ(s:Nat->Int)(rest:ByteArray)(n:Int):List AV:=bh .u64 25 s++[.d (Sb rest),.d (I n)]
def RI(p:ByteArray)(i:Nat):ByteArray:=if i=0 then⟨#[]⟩ else p
def ZG(p:ByteArray)(i:Nat):Int:=if i=0 then 0 else(p.size:Int)
theorem G0:CS prog 359 [] σ (fun r σ' X=>r= .ptr σ.length 0/\σ'=σ++[.var (xZ (fun _=>0) ⟨#[]⟩ 0)]/\X=[]):=by
 refine CS.bsW true func359 fun hwf=> ?_;refine af ?_;simp[go_sem,xZ];rfl
theorem GR(p:ByteArray)(hp:p.size<=100):CS prog 360 [.ptr σ.length 0,.d (SL (some 1) 1 (fun s:ByteArray=>[Sb s]) 1 (fun _=>p))] (σ++[.var (xZ (fun _=>0) ⟨#[]⟩ 0)]) (fun r σ' X=>r= .d (I p.size)/\σ'=σ++[.var (xZ (fun _=>0) p p.size)]/\X=[]):=by
 refine CS.Ik true func360 fun hwf=> ?_;simp[go_sem,xZ];refine mA (α:=Nat) true [0,7,8,9] (fun i=>[(9,.d (I i))]) (fun i=>σ++[.var (bh .u64 25 (fun _=>0)++[.d (Sb (RI p i)),.d (I (ZG p i))])]) (fun i=>i<=1) (fun i=>1-i) 0 au (rfl) an ?_;rintro i hi;refine gc [0,7,8,9] ?_ ?_<;>intro d0
 ·have hi0:i=0:=aa;subst hi0;have h0:RI p 0=⟨#[]⟩:=rfl;have h1:ZG p 0=0:=rfl;have h2:RI p 1=p:=rfl;have h3:ZG p 1=p.size:=rfl;have h4:IntKind.i64.wrap (p.size:Int)=p.size:=aS aa aa;have h5:(⟨#[]⟩:ByteArray)++p=p:=ByteArray.ext aP;simp(disch:=first|omega|simp) [go_sem,h0,h1,h4,h5];repeat refine⟨aa,?_⟩
  refine mA (α:=Nat) true [0,7,8,9] (fun q=>[(9,.d (I 0))]) (fun q=>σ++[.var (bh .u64 25 (fun _=>0)++[.d (Sb p),.d (I p.size)])]) (fun q=>q=0) (fun q=>0) 0 au (rfl) an ?_;rintro q hq1;refine gc [0,7,8,9] ?_ ?_<;>intro d1
  ·omega
  ·refine wT ?_;refine bF (1) aa (h:=by simp[go_sem,h0,h1]<;>omega) (hσ:=aP) (hb:=ae au)
 ·obtain rfl:i=1:=by omega
  have h2:RI p 1=p:=rfl;have h3:ZG p 1=p.size:=rfl;simp[go_sem,h2,h3];refine wJ ?_;simp[go_sem]<;>omega
def pw(p:ByteArray)(q:Nat):Int:=if q<p.size then nX p q else if q=p.size then 6 else 0
def lL(p:ByteArray)(q:Nat):Int:=if q=135 then orI .u8 (pw p 135) 128 else pw p q
def p8(f:Nat->Int)(q:Nat):List D:=[.v (.int .u8 (f q))]
theorem E4(f q):XR (p8 f q)=true:=rfl
def stS(p:ByteArray):Nat->Int:=nB (o5 (fun _=>0) (lL p) 136) 24
def JH(p:ByteArray)(q:Nat):Int:=IntKind.u8.wrap (TF .u64 (stS p (q/8)) (8*((q:Int)%8)))
def YD(p:ByteArray):ByteArray:=gX 32 (p8 (JH p))
theorem YM(b i):0<=nX b i/\nX b i<256:=by
 grind [nX,UInt8.toNat_lt]
theorem Z7(p q):0<=pw p q/\pw p q<256:=by
 unfold pw;split
 ·exact YM p q
 grind
theorem aeC(a b):0<=orI .u8 a b/\orI .u8 a b<256:=by
 grind [orI,IntKind.wrap_u8]
theorem Z6(p q):0<=lL p q/\lL p q<256:=by
 unfold lL;split;all_goals simp_all [aeC,Z7]
theorem Bw(n row):(gX n row).size=n:=by
 grind [gX,strOfNums_size]
theorem U1{n f}(hf: ∀q,0<=f q/\f q<256){i}(h:i<n):nX (gX n (p8 f)) i=f i:=by
 unfold nX;have hs:i<(gX n (p8 f)).size:=by grind [Bw]
 rw[getElem?_pos _ i hs];have e:(gX n (p8 f))[i]=UInt8.ofNat (f i).toNat:=by
  show(gX n (p8 f)).data[i]=_
  simp[gX,strOfNums,p8];rfl
 rw[Option.getD_some,e];have:=hf i;simp;omega
theorem aby(s p):o5 s (nX (gX 136 (p8 (lL p)))) 136=o5 s (lL p) 136:=
 F6 fun i hi=>U1 (Z6 p) hi
def TX(c:Nat):ByteArray:=⟨(Lib.repeatL (⟨#[0]⟩:ByteArray).data.toList c).toArray⟩
def AY(p:ByteArray):ByteArray:=p++⟨#[6]⟩++TX (135-p.size)
theorem YV(b:ByteArray)(i:Nat):b[i]? =b.data[i]? :=by
 by_cases h:i<b.size
 ·have h':i<b.data.size:=h;rw[getElem?_pos b i h,getElem?_pos b.data i h'];rfl
 simp_all
theorem Hy(c):(TX c).data=(List.replicate c (0:UInt8)).toArray:=by
 have:=Lib.repeatL_replicate 0 1 c;simp only[List.replicate_one,Nat.mul_one] at this;show(Lib.repeatL [0] c).toArray=_
 grind
theorem TW(c):(TX c).size=c:=by
 show(TX c).data.size=c
 rw[Hy];simp
theorem EZ(p):(AY p).data=p.data++ #[6]++(List.replicate (135-p.size) (0:UInt8)).toArray:=by
 grind [AY,ByteArray.data_append,Hy]
theorem Qc{p}(h:p.size<=100):(AY p).size=136:=by
 show(AY p).data.size=136
 rw[EZ];have e:p.data.size=p.size:=rfl;grind
theorem HU{p}(h:p.size<=100){i}(hi:i<136):strRow (AY p) i=p8 (pw p) i:=by
 have e:p.data.size=p.size:=rfl;have key:(((AY p)[i]?).getD 0).toNat=pw p i:=by
  rw[YV,EZ];unfold pw;by_cases h1:i<p.size
  ·grind [nX,YV]
  ·rw[if_neg h1];by_cases h2:i=p.size
   ·rw[if_pos h2,Array.getElem?_append_left ai,Array.getElem?_append_right aa,h2,e,Nat.sub_self];rfl
   ·rw[if_neg h2,Array.getElem?_append_right ai];have h3:i-(p.data++ #[6]).size<135-p.size:=ai;simp_all
 grind [strRow,p8]
theorem NN(p:ByteArray)(hp:p.size<=100):ak prog 361 [.ptr σ.length 0] (σ++[.var (xZ (fun _=>0) p p.size)]) (.d (Sb (YD p))):=by
 have hs:IntKind.i64.wrap (135-(p.size:Int))=((135-p.size:Nat):Int):=by grind [aS]
 have hrz:=TW (135-p.size);have h6:(⟨#[6]⟩:ByteArray).size=1:=rfl;have h0:(⟨#[0]⟩:ByteArray).size=1:=rfl;have hrp:(⟨(Lib.repeatL [0] (135-p.size)).toArray⟩:ByteArray)=TX (135-p.size):=rfl;have hls:p++⟨#[6]⟩++TX (135-p.size)=AY p:=rfl;have hl:=Qc hp;have hst:nB (o5 (fun _=>0) (nX (gX 136 (p8 (lL p)))) 136) 24=stS p:=by rw[aby];rfl
 have hsz:=ByteArray.size_append (a:=p) (b:=⟨#[6]⟩);have hr5:strRow (AY p) 135=[.v (.int .u8 (pw p 135))]:=HU hp aH;refine ak.bd true func361 fun hwf=> ?_;simp[go_sem,xZ];refine T.dr 13 fun K hK=> ?_;simp[go_sem,hs,h6];repeat refine⟨aa,?_⟩
 refine bK.mk (TV _ ⟨#[0]⟩ (135-p.size) aa aa ai aa) ?_;simp[go_sem,hrz,h6,hrp,hls,hl,hsz];refine wK hK ?_;simp[go_sem,hr5];refine ax (σ.length+1) (p8 (lL p)) bj (by
  grind [p8,lL,HU]) aN ?_
 apply cU 8 7 9 T.mixed aD
 ·intro τ K hK;simp[go_sem,E4];refine bK.mk (CD _ (fun _=>0) (gX 136 (p8 (lL p))) (Bw _ _)) ?_;simp[go_sem,hst];exact hK _ _
 intro K hK;refine wD hK ?_;refine wM ?_;refine bq 5 1 (p8 (JH p)) au aN ?_;refine wa ?_;refine JQ (α:=Nat) false [4,5,33] [σ.length+3] (fun i=>[(5,.ms (σ.length+3) 1 0 i),(33,.d (I i))]) (fun i=>σ++[.var (xZ (fun _=>0) p p.size),.arr 1 136 (p8 (lL p)),.var (bh .u64 25 (stS p)),.arr 1 i (p8 (JH p))]) (fun i=>i<=32) (fun i=>32-i) 0 au (rfl) an an ?_;rintro i hi;simp[go_sem,xZ];refine go false ?_;refine gc [4,5,33] ?_ ?_<;>intro d0
 ·have hi5:i<32:=aa;have hd:i/8<25:=aa;have hd4:i/8<=24:=aa;have h1:(i:Int).tdiv 8=(i:Int)/8:=wo aa;have h2:IntKind.i64.wrap ((i:Int)/8)=(i:Int)/8:=aS aa aa;have h3:(i:Int).tmod 8=(i:Int)%8:=mu aa;have h4:IntKind.i64.wrap (8*((i:Int)%8))=8*((i:Int)%8):=aS aa aa;have hsc:σ.map (bP [σ.length+3])=σ:=by
   have h:=(gJ.parts hwf 2).1;simp_all
  refine wH ?_;simp(disch:=first|omega|simp) [go_sem,hd4,h1,h2,h3,h4,Ro,hsc];repeat refine⟨aa,?_⟩
  refine ax (σ.length+3) (p8 (JH p)) bj (by intro q hq;unfold aO;split;rfl;rw[show q=i by omega];simp[rowsOf,p8,JH]) aN ?_;refine wW ?_;refine bF (i+1) aa (h:=aR) (hσ:=aP) (hb:=ae au)
 ·obtain rfl:i=32:=by omega
  refine wR ?_;simp[go_sem,E4];refine af ?_;simp[go_sem];rfl
theorem GZ(p)(hp:p.size<=100):ak prog 287 [.d (Sb p)] σ (.d (Sb (YD p))):=by
 refine ak.bt func287 ?_;refine az.gen (G0 _) ?_;rintro r σ' X ⟨rfl,rfl,rfl⟩;simp[go_sem];refine az.gen ((GR σ p hp).sub (by simp_all [mY,my,Go.aI.aK,rowsOf])) ?_;rintro r σ' X ⟨rfl,rfl,rfl⟩;simp[go_sem];refine az.mk (NN σ p hp) (sm ?_);exact af so
def CG(a b:Int):Int:=if a<b then-1 else if b<a then 1 else 0
def JP(a b:ByteArray):Bool:=Op.bytesLess a.toList b.toList
def vJ(a b:ByteArray):Int:=if JP a b=true then-1 else if(JP a b||a.toList==b.toList)=false then 1 else 0
theorem aa6{n} : ∀{k},0<k->n<10^k->(Lib.decDigits n).length<=k:=by
 induction n using Nat.strongRecOn with
 |_ n ih=>
 intro k hk hn;rw[Lib.decDigits];split
 ·grind
 ·rcases k with _|_|k
  ·omega
  ·grind
  ·have:=ih (n/10) aa (k:=k+1) aa ai;grind
theorem kX{n}(h:n<=1073741824):(E2 n).size<=10:=by
 have:=aa6 (n:=n) (k:=10) aH aa;show(Lib.decDigits n).toArray.size<=10
 grind
def textS(ID rd u:Nat):ByteArray:=E2 ID++⟨#[32]⟩++E2 rd++⟨#[32]⟩++E2 u
theorem qd:(⟨#[32]⟩:ByteArray).size=1:=rfl
theorem Dt{ID rd u}(h1:ID<=1073741824)(h2:rd<=1073741824)(h3:u<=1073741824):(textS ID rd u).size<=100:=by
 grind [kX,textS,qd]
def keyS(ID rd u:Nat):ByteArray:=YD (textS ID rd u)
def T9(ID rd:Nat)(x y:Nat):Int:=if vJ (keyS ID rd x) (keyS ID rd y)≠0 then vJ (keyS ID rd x) (keyS ID rd y) else CG x y
theorem xU(a):ak prog 345 [.d (I a)] σ (.d (B false)):=by
 refine ak.bt func345 ?_;exact af so
theorem QE(a b):ak prog 292 [.d (I a),.d (I b)] σ (.d (I (CG a b))):=by
 refine ak.bt func292 ?_;refine az.mk (xU _ a) (sm ?_);refine az.mk (xU _ b) (sm ?_);refine cn [0,1,6] rfl ?_ ?_<;>intro c0 d0<;>try simp at d0
 ·simp[go_sem];refine cn [0,1] rfl ?_ ?_<;>intro c1 d1<;>try simp at d1
  ·simp[go_sem];refine km [0,1] ?_ ?_<;>intro c2 d2
   ·have hz:CG a b= -1:=by grind [CG]
    exact sx hz
   ·simp[go_sem];refine km [] ?_ ?_<;>intro c3 d3
    ·have hz:CG a b=1:=by grind [CG]
     exact sx hz
    ·have hz:CG a b=0:=by grind [CG]
     exact sx hz
theorem xT(a):ak prog 363 [.d (Sb a)] σ (.d (B false)):=by
 refine ak.bt func363 ?_;exact af so
theorem QD(a b):ak prog 291 [.d (Sb a),.d (Sb b)] σ (.d (I (vJ a b))):=by
 refine ak.bt func291 ?_;refine az.mk (xT _ a) (sm ?_);refine az.mk (xT _ b) (sm ?_);refine cn [0,1,6] rfl ?_ ?_<;>intro c0 d0<;>try simp at d0
 ·simp[go_sem];refine cn [0,1] rfl ?_ ?_<;>intro c1 d1<;>try simp at d1
  ·simp[go_sem];refine km [0,1] ?_ ?_<;>intro c2 d2
   ·have hz:vJ a b= -1:=by grind [vJ,JP]
    exact sx hz
   ·simp[go_sem];refine km [] ?_ ?_<;>intro c3 d3
    ·have hz:vJ a b=1:=by
      grind [vJ,JP]
     exact sx hz
    ·have hz:vJ a b=0:=by
      grind [vJ,JP]
     exact sx hz
theorem UW(c n g)(hn:n<1000000000):ak prog 290 [.d (SL c 1 encI n g)] σ (.d (I (aA g 0 n))):=by
 refine ak.bt func290 ?_;refine dm (α:=Nat) true [3,6,7,8] (fun i=>[(8,.d (I i))]) (fun i=>_) (fun i=>i<=n/\aA g 0 n=aA g i (n-i)) (fun i=>n-i) 0 ?_ (hx:=⟨Nat.zero_le _,rfl⟩);rintro i ⟨hi,hx⟩;simp[go_sem];refine km [3,6,7,8] ?_ ?_<;>intro c0 d0
 ·have hst:aA g i (n-i)=if g i≠0 then g i else aA g (i+1) (n-(i+1)):=by rw[show n-i=(n-(i+1))+1 by omega,aA]
  refine wB ?_;refine km [3,5,6,7,8] ?_ ?_<;>intro c1 d1
  ·have hz:aA g 0 n=g i:=ai;exact sx hz
  ·refine wC ?_;refine bF (i+1) ⟨aa,ai⟩ (h:=aR)
 ·have hz:aA g 0 n=0:=by rw[hx,show n-i=0 by omega];rfl
  refine wF ?_;exact sy hz
theorem Kd(ID rd u:Nat)(h1:ID<=1073741824)(h2:rd<=1073741824)(h3:u<=1073741824)(hσ:σ[0]? =some (.tab 0 dG)):ak prog 286 [.d (I u),.el [I ID],.el [I rd]] σ (.d (Sb (keyS ID rd u))):=by
 have s1:=kX h1;have s2:=kX h2;have s3:=kX h3;have ht:E2 ID++⟨#[32]⟩++E2 rd++⟨#[32]⟩++E2 u=textS ID rd u:=rfl;refine ak.bd true func286 fun hwf=> ?_;simp[go_sem];refine T.dr 12 fun K hK=> ?_;simp[go_sem];refine bK.mk (tw _ ID h1 hσ) ?_;simp[go_sem,qd];repeat refine⟨aa,?_⟩
 refine bK.mk (tw _ rd h2 hσ) ?_;simp[go_sem,ByteArray.size_append,qd];repeat refine⟨aa,?_⟩
 refine bK.mk (tw _ u h3 hσ) ?_;simp[go_sem,ByteArray.size_append,qd,ht];repeat refine⟨aa,?_⟩
 refine bK.mk (GZ _ (textS ID rd u) (Dt h1 h2 h3)) ?_;refine wQ hK ?_;simp[go_sem,keyS]<;>omega
theorem Ke(ID rd x y:Nat)(pB pR)(hx:ak prog 286 [.d (I x),.d (.v pB),.d (.v pR)] σ (.d (Sb (keyS ID rd x))))(hy:ak prog 286 [.d (I y),.d (.v pB),.d (.v pR)] σ (.d (Sb (keyS ID rd y)))):ak prog 289 [.d (I x),.d (I y),.el [.v (.func (.func 286) #[] #[pB,pR])]] σ (.d (I (T9 ID rd x y))):=by
 refine ak.bt func289 ?_;refine T.dr 12 fun K hK=>sm ?_;refine bK.mk (hx) (sm ?_);refine bK.mk (hy) (sm ?_);refine bK.mk (QD _ (keyS ID rd x) (keyS ID rd y)) (sm ?_);refine bK.mk (QE _ x y) (sm ?_);refine bK.mk ((UW _ none 2 (fun i=>if i=0 then vJ (keyS ID rd x) (keyS ID rd y) else CG x y) aa).sub (by simp[go_sem,mY,my,Go.aI.aK]<;>(intro i hi;obtain rfl|rfl:i=0\/i=1:=aa;all_goals rfl))) ?_;refine wD hK ?_;refine go true (sm ?_);refine af ?_;have hz:aA (fun i=>if i=0 then vJ (keyS ID rd x) (keyS ID rd y) else CG x y) 0 2=T9 ID rd x y:=by
  grind [aA,T9]
 simp[go_sem,hz]
end Go.Proofs.YthpplckmbbachaaGreatDoor
