/- Lemmas, no conditions. -/
import Derived.Test.YthpplckmbbachaaGreatDoorKB13
set_option linter.unusedVariables false
set_option linter.unusedSimpArgs false
set_option maxHeartbeats 400000
set_option maxRecDepth 100000
namespace Go.Proofs.YthpplckmbbachaaGreatDoor
open Go.aI Go.bI Go.Proofs.Tryz
variable (σ : List aZ)
structure fM where
 ID:Int
 dg:Int
 Until:Int
 Strict:Bool
 In:Span
instance:Inhabited fM:=⟨⟨0,0,0,false,⟨0,0⟩⟩⟩
def fM.enc(r:fM):List D:=[I r.ID,I r.dg,I r.Until,B r.Strict,I r.In.From,I r.In.Until]
instance:Inhabited Ground:=⟨⟨0,0,0,0⟩⟩
attribute [go_sem] fM.enc
def aA(e:Nat->Int)(i:Nat):Nat->Int
 |0=>0
 |k+1=>if e i≠0 then e i else aA e (i+1) k
theorem dc{e} : ∀{k i},aA e i k=0->∀q,i<=q->q<i+k->e q=0
 |0,i,_,q,h1,h2=>by omega
 |k+1,i,h,q,h1,h2=>by
  rw[aA] at h;by_cases he:e i=0
  ·rw[if_neg ai] at h;by_cases hq:q=i
   ·grind
   ·exact dc h q aa aa
  grind
theorem tD{e} : ∀{k i},(∀q,i<=q->q<i+k->e q=0)->aA e i k=0
 |0,i,_=>rfl
 |k+1,i,h=>by
  rw[aA,if_neg ai];exact tD fun q h1 h2=>h q aa aa
def BE(a:fM):Bool:=decide (1<=a.ID)&&decide (a.ID<=1073741824)&&decide (1<=a.dg)&&decide (a.dg<=1073741824)&&decide (0<=a.Until)&&decide (a.Until<=1048576)&&jA a.In
def rB(g:Nat->fM)(i:Nat):Int:=if BE (g i)=false then 2 else if 0<i/\(g i).ID<=(g (i-1)).ID then 5 else 0
def dA(n:Nat)(g:Nat->fM):Int:=if 64<n then 8 else aA (rB g) 0 n
theorem mD(a):ak prog 263 [.agg (a.enc.map .d)] σ (.d (B (BE a))):=by
 refine ak.bt func263 ?_;refine af ?_;simp[go_sem,BE,jA,Bool.and_assoc]<;>omega
theorem fK(c n g)(hn:n<1000000000):ak prog 185 [.d (SL c 6 fM.enc n g)] σ (.d (I (dA n g))):=by
 refine ak.bt func185 ?_;refine dH [0] ?_ ?_<;>intro d0
 ·refine wA ?_;simp[go_sem,dA]<;>omega
 ·simp[go_sem];refine dm (α:=Nat) true [0,8,9,10] (fun i=>[(10,.d (I i))]) (fun i=>_) (fun i=>i<=n/\aA (rB g) 0 n=aA (rB g) i (n-i)) (fun i=>n-i) 0 ?_;rintro i ⟨hi,hx⟩;refine gc [0,8,9,10] ?_ ?_<;>intro d1
  ·obtain⟨k,hk⟩: ∃k,n-i=k+1:=⟨n-i-1,aa⟩;have hk':n-(i+1)=k:=aa;rw[hk,aA] at hx;refine wB ?_;refine az.mk (mD _ _) ?_;refine gc [0,3,4,8,9,10] ?_ ?_<;>intro d2
   ·have he:rB g i=2:=by grind [rB]
    rw[he] at hx;simp at hx;refine wA ?_;simp[go_sem,dA,hx]<;>omega
   ·simp[go_sem];refine T.dr 14 fun K hK=> ?_;simp[go_sem,aT (i:=i) aa];refine wK hK ?_;refine gc [0,8,9,10] ?_ ?_<;>intro d3
    ·have he:rB g i=5:=by grind [rB]
     rw[he] at hx;simp at hx;refine wA ?_;simp[go_sem,dA,hx]<;>omega
    ·have he:rB g i=0:=by grind [rB]
     rw[he] at hx;simp at hx;refine wC ?_;refine bF (i+1) ⟨aa,ai⟩ (h:=aR)
  ·obtain rfl:i=n:=by omega
   rw[Nat.sub_self,aA] at hx;refine wO ?_;simp[go_sem,dA,hx]<;>omega
theorem Ju(c n g):ak prog 57 [.d (SL c 6 fM.enc n g)] σ (.d (B (decide ((n:Int)<=20)))):=by
 refine ak.bt func57 ?_;exact af so
def Iu(a:fM)(k d:Int):Bool:=BE a&&(a.dg==k)&&decide (a.In.From<=d)&&decide (d<a.In.Until)&&decide (d<a.Until)
theorem uj(a k d):ak prog 525 [.agg (a.enc.map .d),.d (I k),.d (I d)] σ (.d (B (Iu a k d))):=by
 refine ak.bt func525 ?_;refine az.mk (mD _ a) (sm ?_);refine af ?_;simp[go_sem,Iu]<;>omega
theorem yD(a:fM):ak prog 524 [.agg (a.enc.map .d)] σ (.d (I (min a.Until a.In.Until))):=by
 refine ak.bt func524 ?_;exact af so
def gather{β:Type}(f:Nat->List β):Nat->List β
 |0=>[]
 |i+1=>gather f i++f i
theorem fF{β}{f:Nat->List β}(h: ∀i,(f i).length<=1): ∀i,(gather f i).length<=i
 |0=>by simp[gather]
 |i+1=>by have:=fF h i;grind [gather]
def yE(a:fM):Ground:=⟨3,a.ID,0,min a.Until a.In.Until⟩
def gj(g:Nat->fM)(k d:Int)(i:Nat):List Ground:=if Iu (g i) k d=true then[yE (g i)] else[]
theorem zY(g k d i):(gj g k d i).length<=1:=by grind [gj]
def kD(n:Nat)(g:Nat->fM)(k d:Int):List Ground:=if dA n g≠0 then[] else gather (gj g k d) n
theorem S7{n g}(h0:dA n g=0):n<=64/\∀i,i<n->BE (g i)=true/\∀j,j<i->(g j).ID<(g i).ID:=by
 unfold dA at h0;split at h0
 ·omega
 ·rename_i hn;refine⟨aa,?_⟩;have he: ∀i,i<n->BE (g i)=true/\(0<i->(g (i-1)).ID<(g i).ID):=fun i hi=>by
   have:=dc h0 i aa aa;grind [rB]
  intro i;induction i<;>grind
def Ty(k:Int)(a:fM):Bool:=(a.ID==k)&&a.Strict
def o4(n:Nat)(g:Nat->fM)(k:Int):Bool:=decide (dA n g=0)&&(lst n g).any (Ty k)
theorem acU{n g}(h0:dA n g=0){i}(hi:i<n){k}(hk:(g i).ID=k):o4 n g k=(g i).Strict:=by
 unfold o4;rw[h0];simp only[decide_true,Bool.true_and];rw[Bool.eq_iff_iff,List.any_eq_true];simp only[lst,List.mem_map,List.mem_range,Ty,Bool.and_eq_true,beq_iff_eq];constructor
 ·rintro⟨a,⟨j,hj,rfl⟩,h1,h2⟩;have:j=i:=by
   rcases Nat.lt_trichotomy j i with h|h|h
   ·have:=((S7 h0).2 i hi).2 j h;omega
   ·exact h
   ·have:=((S7 h0).2 j hj).2 i h;omega
  grind
 grind
theorem acT{n g k}(h: ∀i,i<n->(g i).ID≠k):o4 n g k=false:=by
 grind [o4,lst,Ty]
def LA(g:Nat->fM)(k d:Int):Nat->Int
 |0=>d
 |i+1=>if Iu (g i) k d=true then max (LA g k d i) (min (g i).Until (g i).In.Until) else LA g k d i
def JK(n:Nat)(g:Nat->fM)(k d:Int):Int:=if h:d<LA g k d n/\LA g k d n<=1048576 then JK n g k (LA g k d n) else d
termination_by (1048576-d).toNat
decreasing_by omega
theorem NI(c n g f cap p)(hn:n<1000000000)(hf: ∀i,i<n->ak prog f (.agg ((g i).enc.map .d)::cap) σ (.d (B (p (g i))))):ak prog 511 [.d (SL c 6 fM.enc n g),.clo (.func f) [] cap] σ (.d (I (idxFrom p (lst n g) 0))):=by
 refine ak.bt func511 ?_;refine dm (α:=Nat) true [0,1,7,8] (fun i=>[(8,.d (I i))]) (fun i=>_) (fun i=>i<=n/\idxFrom p (lst n g) 0=idxFrom p ((lst n g).drop i) i) (fun i=>n-i) 0 ?_;rintro i ⟨hi,hx⟩;refine gc [0,1,7,8] ?_ ?_<;>intro d0
 ·rw[bU d0,idxFrom] at hx;refine wB ?_;refine az.mk (hf i d0) (sm ?_);refine km [0,1,5,7,8] ?_ ?_<;>intro c1 d1
  ·refine wA ?_;simp[go_sem,hx,c1]<;>omega
  ·refine wC ?_;refine bF (i+1) ⟨aa,ai⟩ (h:=aR)
 ·rw[bV d0,idxFrom] at hx;refine wN ?_;simp[go_sem,hx]<;>omega
theorem FD(c n g f cap p)(hn:n<1000000000)(hf: ∀i,i<n->ak prog f (.agg ((g i).enc.map .d)::cap) σ (.d (B (p (g i))))):ak prog 481 [.d (SL c 6 fM.enc n g),.clo (.func f) [] cap] σ (.d (B ((lst n g).any p))):=by
 refine ak.bt func481 ?_;refine az.mk (NI _ c n g f cap p hn hf) (sm ?_);refine af ?_;simp[go_sem,gE]<;>omega
theorem qR(a):ak prog 523 [.agg (a.enc.map .d)] σ (.agg ((yE a).enc.map .d)):=by
 refine ak.bt func523 ?_;refine T.dr 5 fun K hK=>sm ?_;refine bK.mk (yD _ _) (sm ?_);refine hK _ ?_;refine go true (sm ?_);refine af ?_;simp[go_sem,yE]<;>omega
theorem s6(c n g k d)(hn:n<1000000000):ak prog 506 [.d (SL c 6 fM.enc n g),.d (I k),.d (I d)] σ (.d (SL none 4 Ground.enc (kD n g k d).length (nth (kD n g k d)))):=by
 refine ak.bs false func506 fun hwf=> ?_;refine go false (sm ?_);refine az.mk (fK _ _ _ _ ai) (sm ?_);refine go false (gc [0,1,2] ?_ ?_)<;>intro d0
 ·have hz:kD n g k d=[]:=by grind [kD]
  refine wF ?_;exact sy hz
 ·have hz:kD n g k d=gather (gj g k d) n:=by grind [kD]
  simp[go_sem];refine go false (sm ?_);refine bq 8 4 (fun i=>Ground.enc (nth ([]:List Ground) i)) au aN ?_;refine go false (sm ?_);refine go true (sm ?_);refine JQ (α:=Nat) false [1,2,7,8,14,15,16] [σ.length] (fun i=>[(8,.ms σ.length 4 0 (gather (gj g k d) i).length),(16,.d (I i))]) (fun i=>σ++[.arr 4 (gather (gj g k d) i).length (fun q=>Ground.enc (nth (gather (gj g k d) i) q))]) (fun i=>i<=n) (fun i=>n-i) 0 Dk (rfl) an an ?_;rintro i hi;simp[go_sem];refine go false (gc [1,2,7,8,14,15,16] ?_ ?_)<;>intro d1
  ·have hl:=fF (zY g k d) i;refine wB ?_;refine go false (sm ?_);refine az.mk (uj _ _ _ _) (sm ?_);refine go false (gc [1,2,7,8,10,14,15,16] ?_ ?_)<;>intro d2
   ·have ha:gather (gj g k d) (i+1)=gather (gj g k d) i++[yE (g i)]:=by grind [gather,gj]
    simp[go_sem];refine az.mk (qR _ (g i)) ?_;simp[go_sem,hwf.zero];repeat refine⟨aa,?_⟩
    refine ax σ.length (fun q=>Ground.enc (nth (gather (gj g k d) i++[yE (g i)]) q)) bj (by exact fun q hq=>fH (enc:=Ground.enc) (x:=yE (g i)) rfl hq) aN ?_;refine wW ?_;refine bF (i+1) aa (h:=by simp[go_sem,ha]<;>omega) (hσ:=aP) (hb:=ae au)
   ·have ha:gather (gj g k d) (i+1)=gather (gj g k d) i:=by grind [gather,gj]
    refine wC ?_;refine bF (i+1) aa (h:=by simp[go_sem,ha]<;>omega) (hσ:=aP) (hb:=ae au)
  ·obtain rfl:i=n:=by omega
   refine wF ?_;refine bg (σ.length) bj aN eS ?_;exact sy hz
theorem rA(τ a k):ak prog 482 [.agg (a.enc.map .d),.ptr σ.length 0] (σ++ .var [.d (I k)]::τ) (.d (B (Ty k a))):=by
 refine ak.bt func482 ?_;refine af ?_;simp[go_sem,Ty]<;>omega
theorem ui(c n g k)(hn:n<1000000000):ak prog 457 [.d (SL c 6 fM.enc n g),.d (I k)] σ (.d (B (o4 n g k))):=by
 refine ak.bt func457 ?_;refine az.mk (fK _ _ _ _ ai) (sm ?_);refine cE.mk (FD _ c n g _ _ (Ty k) hn (fun i hi=>rA σ [] (g i) k)) (sm ?_);refine af ?_;simp[go_sem,o4];rfl
structure fu where
 ID:Int
 Reader:Int
 Unit:Int
 Kinds:Int
 In:Span
instance:Inhabited fu:=⟨⟨0,0,0,0,⟨0,0⟩⟩⟩
def fu.enc(r:fu):List D:=[I r.ID,I r.Reader,I r.Unit,I r.Kinds,I r.In.From,I r.In.Until]
def encI(x:Int):List D:=[I x]
attribute [go_sem] fu.enc encI
def kZ(n:Int):Bool:=decide (1<=n)&&decide (n<=1073741824)
def sj(a:fu):Bool:=kZ a.ID&&kZ a.Reader&&kZ a.Unit&&decide (1<=a.Kinds)&&decide (a.Kinds<=7)&&jA a.In
def ql(g:Nat->fu)(i:Nat):Int:=if sj (g i)=false then 2 else if 0<i/\(g i).ID<=(g (i-1)).ID then 5 else 0
def dq(n:Nat)(g:Nat->fu):Int:=if 64<n then 8 else aA (ql g) 0 n
theorem qm(n):ak prog 349 [.d (I n)] σ (.d (B (kZ n))):=by
 refine ak.bt func349 ?_;refine af ?_;simp[go_sem,kZ]<;>omega
theorem qk(n):ak prog 63 [.d (I n)] σ (.d (B (kZ n))):=by
 refine ak.bt func63 ?_;refine af ?_;simp[go_sem,kZ]<;>omega
theorem kU(a):ak prog 264 [.agg (a.enc.map .d)] σ (.d (B (sj a))):=by
 refine ak.bt func264 ?_;refine az.mk (qm _ _) (sm ?_);refine cE.mk (qm _ _) (sm ?_);refine cE.mk (qm _ _) (sm ?_);refine af ?_;simp[go_sem,sj,jA,Bool.and_assoc]<;>omega
theorem iP(c n g)(hn:n<1000000000):ak prog 186 [.d (SL c 6 fu.enc n g)] σ (.d (I (dq n g))):=by
 refine ak.bt func186 ?_;refine dH [0] ?_ ?_<;>intro d0
 ·refine wA ?_;simp[go_sem,dq]<;>omega
 ·simp[go_sem];refine dm (α:=Nat) true [0,8,9,10] (fun i=>[(10,.d (I i))]) (fun i=>_) (fun i=>i<=n/\aA (ql g) 0 n=aA (ql g) i (n-i)) (fun i=>n-i) 0 ?_;rintro i ⟨hi,hx⟩;refine gc [0,8,9,10] ?_ ?_<;>intro d1
  ·obtain⟨k,hk⟩: ∃k,n-i=k+1:=⟨n-i-1,aa⟩;have hk':n-(i+1)=k:=aa;rw[hk,aA] at hx;refine wB ?_;refine az.mk (kU _ _) ?_;refine gc [0,3,4,8,9,10] ?_ ?_<;>intro d2
   ·have he:ql g i=2:=by grind [ql]
    rw[he] at hx;simp at hx;refine wA ?_;simp[go_sem,dq,hx]<;>omega
   ·simp[go_sem];refine T.dr 14 fun K hK=> ?_;simp[go_sem,aT (i:=i) aa];refine wK hK ?_;refine gc [0,8,9,10] ?_ ?_<;>intro d3
    ·have he:ql g i=5:=by grind [ql]
     rw[he] at hx;simp at hx;refine wA ?_;simp[go_sem,dq,hx]<;>omega
    ·have he:ql g i=0:=by grind [ql]
     rw[he] at hx;simp at hx;refine wC ?_;refine bF (i+1) ⟨aa,ai⟩ (h:=aR)
  ·obtain rfl:i=n:=by omega
   rw[Nat.sub_self,aA] at hx;refine wO ?_;simp[go_sem,dq,hx]<;>omega
theorem Jt(c c' n n' g g'):ak prog 58 [.d (SL c 6 fu.enc n g),.d (SL c' 1 encI n' g')] σ (.d (B (decide ((n:Int)<=20)&&decide ((n':Int)<=20)))):=by
 refine ak.bt func58 ?_;exact af so
theorem Qf(c n g k)(hn:n<1000000000):ak prog 358 [.d (SL c 1 encI n g),.d (I k)] σ (.d (I (idxFrom (fun x=>k==x) (lst n g) 0))):=by
 refine ak.bt func358 ?_;refine dm (α:=Nat) true [0,1,7,8] (fun i=>[(8,.d (I i))]) (fun i=>_) (fun i=>i<=n/\idxFrom (fun x=>k==x) (lst n g) 0=idxFrom (fun x=>k==x) ((lst n g).drop i) i) (fun i=>n-i) 0 ?_;rintro i ⟨hi,hx⟩;refine gc [0,1,7,8] ?_ ?_<;>intro d0
 ·rw[bU d0,idxFrom] at hx;refine wB ?_;refine km [0,1,5,7,8] ?_ ?_<;>intro c1 d1
  ·simp[go_sem];rw[hx,if_pos c1];exact af sc
  ·refine wC ?_;refine bF (i+1) ⟨aa,ai⟩ (h:=aR)
 ·rw[bV d0,idxFrom] at hx;refine wN ?_;simp[go_sem,hx]<;>omega
theorem u3(c n g k)(hn:n<1000000000):ak prog 285 [.d (SL c 1 encI n g),.d (I k)] σ (.d (B ((lst n g).any fun x=>k==x))):=by
 refine ak.bt func285 ?_;refine az.mk (Qf _ _ _ _ _ ai) (sm ?_);refine af ?_;simp[go_sem,gE]<;>omega
def xy(a:fu)(n:Nat)(g:Nat->Int)(d:Int):Bool:=sj a&&((lst n g).any fun x=>a.Unit==x)&&decide (a.In.From<=d)&&decide (d<a.In.Until)
theorem Ew(a c n g d)(hn:n<1000000000):ak prog 509 [.agg (a.enc.map .d),.d (SL c 1 encI n g),.d (I d)] σ (.d (B (xy a n g d))):=by
 refine ak.bt func509 ?_;refine az.mk (kU _ a) (sm ?_);refine cE.mk (u3 _ c n g a.Unit hn) (sm ?_);refine af ?_;simp[go_sem,xy]<;>omega
def JT(K k:Int):Int:=IntKind.i64.wrap ↑(BitVec.ofInt 64 (K.fdiv (2^min (IntKind.i64.wrap (k-1)).toNat 64))&&&1#64).toNat
def JV(a:fu)(k:Int):Bool:=decide (1<=k)&&decide (k<=3)&&(JT a.Kinds k==1)
theorem Cp(a k):ak prog 510 [.agg (a.enc.map .d),.d (I k)] σ (.d (B (JV a k))):=by
 refine ak.bd true func510 fun hwf=> ?_;refine wI ?_;refine⟨fun h1 h2=>by grind [aS],?_⟩;refine af (sm ?_);rfl
def ye(a:fu)(r:Int)(n:Nat)(g:Nat->Int)(k d:Int):Bool:=(a.Reader==r)&&xy a n g d&&JV a k
theorem zr(a r c n g k d)(hn:n<1000000000):ak prog 480 [.agg (a.enc.map .d),.d (I r),.d (SL c 1 encI n g),.d (I k),.d (I d)] σ (.d (B (ye a r n g k d))):=by
 refine ak.bt func480 ?_;refine cE.mk (Ew _ a c n g d hn) (sm ?_);refine cE.mk (Cp _ a k) (sm ?_);refine af ?_;simp[go_sem,ye]<;>omega
theorem A1(c n g f cap p)(hn:n<1000000000)(hf: ∀i,i<n->ak prog f (.agg ((g i).enc.map .d)::cap) σ (.d (B (p (g i))))):ak prog 367 [.d (SL c 6 fu.enc n g),.clo (.func f) [] cap] σ (.d (I (idxFrom p (lst n g) 0))):=by
 refine ak.bt func367 ?_;refine dm (α:=Nat) true [0,1,7,8] (fun i=>[(8,.d (I i))]) (fun i=>_) (fun i=>i<=n/\idxFrom p (lst n g) 0=idxFrom p ((lst n g).drop i) i) (fun i=>n-i) 0 ?_;rintro i ⟨hi,hx⟩;refine gc [0,1,7,8] ?_ ?_<;>intro d0
 ·rw[bU d0,idxFrom] at hx;refine wB ?_;refine az.mk (hf i d0) (sm ?_);refine km [0,1,5,7,8] ?_ ?_<;>intro c1 d1
  ·refine wA ?_;simp[go_sem,hx,c1]<;>omega
  ·refine wC ?_;refine bF (i+1) ⟨aa,ai⟩ (h:=aR)
 ·rw[bV d0,idxFrom] at hx;refine wN ?_;simp[go_sem,hx]<;>omega
theorem xC(τ a r c n g k d)(hn:n<1000000000):ak prog 479 [.agg (a.enc.map .d),.ptr σ.length 0,.ptr (σ.length+1) 0,.ptr (σ.length+2) 0,.ptr (σ.length+3) 0] (σ++ .var [.d (I r)]:: .var [.d (SL c 1 encI n g)]:: .var [.d (I k)]:: .var [.d (I d)]::τ) (.d (B (ye a r n g k d))):=by
 refine ak.bt func479 ?_;refine az.mk (zr _ a r c n g k d hn) (sm ?_);exact af so
def ez(N:Nat)(G:Nat->fu)(r:Int)(n:Nat)(g:Nat->Int)(k d:Int):Int×Bool:=
 if idxFrom (fun a=>ye a r n g k d) (lst N G) 0<0\/dq N G≠0 then(0,false) else((G (idxFrom (fun a=>ye a r n g k d) (lst N G) 0).toNat).ID,true)
theorem Cr(C N G r c n g k d)(hN:N<1000000000)(hn:n<1000000000):ak prog 456 [.d (SL C 6 fu.enc N G),.d (I r),.d (SL c 1 encI n g),.d (I k),.d (I d)] σ (.cj [.d (I (ez N G r n g k d).1),.d (B (ez N G r n g k d).2)]):=by
 have hlt:=iR (fun a=>ye a r n g k d) N G;refine ak.bt func456 ?_;refine az.mk (A1 _ C N G _ _ (fun a=>ye a r n g k d) hN (fun i hi=>xC σ [] (G i) r c n g k d hn)) (sm ?_);refine cE.mk (iP _ C N G hN) (gc [0,12] ?_ ?_)<;>intro d0
 ·have hz:ez N G r n g k d=(0,false):=by grind [ez]
  exact sx hz
 ·have hz:ez N G r n g k d=((G (idxFrom (fun a=>ye a r n g k d) (lst N G) 0).toNat).ID,true):=by grind [ez]
  refine wB ?_;exact sy hz
theorem ae3{K k}(h1:1<=K)(h2:K<=7)(h3:1<=k)(h4:k<=3):JT K k=K/(if k=1 then 1 else if k=2 then 2 else 4)%2:=by
 have hK:K=1\/K=2\/K=3\/K=4\/K=5\/K=6\/K=7:=aa;have hk:k=1\/k=2\/k=3:=aa;rcases hK with rfl|rfl|rfl|rfl|rfl|rfl|rfl<;>rcases hk with rfl|rfl|rfl<;>decide
def kd(k:Int):Int:=if k=1 then 1 else if k=2 then 2 else 4
theorem T5{a} :sj a=true↔1<=a.ID/\a.ID<=1073741824/\1<=a.Reader/\a.Reader<=1073741824/\1<=a.Unit/\a.Unit<=1073741824/\1<=a.Kinds/\a.Kinds<=7/\0<=a.In.From/\a.In.From<a.In.Until/\a.In.Until<=1048576:=by
 grind [sj,kZ,jA]
theorem aah{K k}(h1:1<=K)(h2:K<=7)(h3:1<=k)(h4:k<=3):(IntKind.i64.wrap (K.tdiv (kd k))).tmod 2=JT K k:=by
 have hK:K=1\/K=2\/K=3\/K=4\/K=5\/K=6\/K=7:=aa;have hk:k=1\/k=2\/k=3:=aa;rcases hK with rfl|rfl|rfl|rfl|rfl|rfl|rfl<;>rcases hk with rfl|rfl|rfl<;>decide
structure Row where
 Unit:Int
 Parent:Int
 dg:Int
instance:Inhabited Row:=⟨⟨0,0,0⟩⟩
def Row.enc(r:Row):List D:=[I r.Unit,I r.Parent,I r.dg]
attribute [go_sem] Row.enc
def dL(n:Nat)(g:Nat->Row)(u:Int):Int:=idxFrom (fun r=>r.Unit==u) (lst n g) 0
theorem NC(c n g f cap p)(hn:n<1000000000)(hf: ∀i,i<n->ak prog f (.agg ((g i).enc.map .d)::cap) σ (.d (B (p (g i))))):ak prog 141 [.d (SL c 3 Row.enc n g),.clo (.func f) [] cap] σ (.d (I (idxFrom p (lst n g) 0))):=by
 refine ak.bt func141 ?_;refine dm (α:=Nat) true [0,1,7,8] (fun i=>[(8,.d (I i))]) (fun i=>_) (fun i=>i<=n/\idxFrom p (lst n g) 0=idxFrom p ((lst n g).drop i) i) (fun i=>n-i) 0 ?_;rintro i ⟨hi,hx⟩;refine gc [0,1,7,8] ?_ ?_<;>intro d0
 ·rw[bU d0,idxFrom] at hx;refine wB ?_;refine az.mk (hf i d0) (sm ?_);refine km [0,1,5,7,8] ?_ ?_<;>intro c1 d1
  ·refine wA ?_;simp[go_sem,hx,c1]<;>omega
  ·refine wC ?_;refine bF (i+1) ⟨aa,ai⟩ (h:=aR)
 ·rw[bV d0,idxFrom] at hx;refine wN ?_;simp[go_sem,hx]<;>omega
theorem Bs(c n g)(hn:n<1000000000):ak prog 10 [.d (SL c 3 Row.enc n g)] σ (.d (SL none 3 Row.enc n g)):=by
 refine ak.bd true func10 fun hwf=> ?_;simp[go_sem,-Bool.forall_bool];try intro b1 hb1
 refine fX ?_ ?_<;>intro c0 d0
 ·refine wA ?_;have:=hb1 c0;simp[go_sem,this]
 ·refine wB ?_;refine bg (σ.length) bj aN eS ?_;exact af so
theorem zn(τ)(r:Row)(u):ak prog 142 [.agg (r.enc.map .d),.ptr σ.length 0] (σ++ .var [.d (I u)]::τ) (.d (B (r.Unit==u))):=by
 refine ak.bt func142 ?_;exact af so
theorem gQ(c n g u)(hn:n<1000000000):ak prog 64 [.d (SL c 3 Row.enc n g),.d (I u)] σ (.d (I (dL n g u))):=by
 refine ak.bt func64 ?_;refine az.mk (NC _ c n g _ _ (fun r=>r.Unit==u) hn (fun i hi=>zn σ [] (g i) u)) (sm ?_);refine af ?_;simp[go_sem,dL]<;>omega
theorem mg(c n g u):CS prog 65 [.d (SL c 3 Row.enc n g),.d (I u)] σ (fun r σ' X=>r= .clo (.func 143) [] [.ptr σ.length 0,.ptr (σ.length+1) 0]/\σ'=σ++[.var [.d (SL c 3 Row.enc n g)],.var [.d (I u)]]/\X=[]):=by
 refine CS.bsW true func65 fun hwf=> ?_;exact af so
structure Ze(S:Nat->List aZ)(c:Option Nat)(n:Nat)(g:Nat->Row)(u:Int)(K:Nat)(x:Nat->Nat)(t:Bool)(y a b o:Nat):Prop where
 ha: ∀i,(S i)[a]? =some (.var [.d (SL c 3 Row.enc n g)])
 ha0: ∀i,(S i)[a]? =some (.var [.d (SL c 3 Row.enc n g)])
 hb: ∀i,(S i)[b]? =some (.var [.d (I u)])
 hb0: ∀i,(S i)[b]? =some (.var [.d (I u)])
 hlv: ∀i,aI.Leaves (S 0) (S i)
 hls: ∀i,aI.Leaves (S i) (S (i+1))
 hol: ∀i,¬(S i).length=o
 hyo: ¬y=o
 hao: ¬a=o
 hbo: ¬b=o
 first:dL n g u=if 0=K then-1 else(x 0:Int)
 lt: ∀i,i<K->x i<n
 mid: ∀i,i+1<K->(g (x i)).Parent≠0/\dL n g (g (x i)).Parent=(x (i+1):Int)
 yes: ∀i,i+1<K->YS prog y [.agg ((g (x i)).enc.map .d)] (S i) (fun r σ' X=>X=[o]/\r= .d (B true)/\σ'=S (i+1))
 last: ∀i,i+1=K->YS prog y [.agg ((g (x i)).enc.map .d)] (S i) (fun r σ' X=>X=[o]/\r= .d (B t)/\σ'=S (i+1))
 fin: ∀i,i+1=K->t=true->(g (x i)).Parent≠0->dL n g (g (x i)).Parent= -1
theorem gC(σ:List aZ)(S c n g u K' x t y a b o)(h:Ze S c n g u K' x t y a b o)(hn:n<1000000000):CS prog 143 [.rl y,.ptr a 0,.ptr b 0] (S 0) (fun r σ' X'=>X'=[o]/\r= .cj []/\σ'=S K'):=by
 refine CS.beD [o] func143 fun hwf=> ?_;refine aj fun K hK=> ?_;simp[go_sem,h.ha,h.hb];refine az.mk (gQ _ c n g u hn) ?_;refine wD hK ?_;refine aB ?_;refine ba [0,1,4] eE ?_;refine mo [o] an ?_;refine bB (α:=Nat) (fun i=>[(4,.d (I (if i=K' then-1 else(x i:Int))))]) (fun i=>S i) (fun i=>i<=K') (fun i=>K'-i) 0 (by simp[go_sem,h.first]) rfl an ?_;rintro i hi;refine aq ?_;refine wE ?_;refine gF [0,1,4,9] ?_;refine s5 rfl (fun c0=> ?_) (fun c0=> ?_)
 ·have hik: ¬i=K':=fun he=>by grind
  have hxl:=h.lt i aa;refine aJ ?_;refine aq ?_;refine aB ?_;refine aj fun K hK=> ?_;simp[go_sem,h.ha,hik];repeat refine⟨aa,?_⟩
  by_cases hl:i+1=K'
  ·have hl1:=h.last i hl;refine YSk.gen hl1 ?_;rintro r σ' X ⟨rfl,rfl,rfl⟩;simp[go_sem,h.ha,h.hyo,h.hao];refine wG hK ?_;refine gF [0,1,4,31] ?_;refine s5 rfl (fun c1=> ?_) (fun c1=> ?_)
   ·refine af ?_;rw[hl];simp[go_sem];exact h.hlv _
   ·have d1:=c1;simp at d1;have hf:=h.fin i hl d1.1 d1.2;refine aJ ?_;refine T.dr 7 fun K hK=> ?_;simp[go_sem,h.ha];repeat refine⟨aa,?_⟩
    refine bK.mk (gQ _ c n g _ hn) ?_;simp[go_sem,hf];refine hK _ ?_;refine⟨i+1,bp an (h.hls i) (by(simp[go_sem,hik,hl]<;>omega)),aa,ai⟩
  ·obtain⟨hp,hf⟩:=h.mid i aa;have hl1:=h.yes i aa;refine YSk.gen hl1 ?_;rintro r σ' X ⟨rfl,rfl,rfl⟩;simp[go_sem,h.ha,h.hyo,h.hao];refine wG hK ?_;refine gF [0,1,4,31] ?_;refine s5 rfl (fun c1=> ?_) (fun c1=> ?_)
   ·simp[hp] at c1
   ·refine aJ ?_;refine T.dr 7 fun K hK=> ?_;simp[go_sem,h.ha];repeat refine⟨aa,?_⟩
    refine bK.mk (gQ _ c n g _ hn) ?_;simp[go_sem,hf];refine hK _ ?_;refine⟨i+1,bp an (h.hls i) (by(simp[go_sem,hik,hl]<;>omega)),aa,ai⟩
 ·have he:i=K':=Classical.byContradiction fun hn=>by grind
  subst he;refine bN (sm ?_);exact h.hlv _
structure KV(n:Nat)(g:Nat->Row)(u:Int)(K:Nat)(x:Nat->Nat):Prop where
 first:dL n g u=if 0=K then-1 else(x 0:Int)
 lt: ∀i,i<K->x i<n
 mid: ∀i,i+1<K->(g (x i)).Parent≠0/\dL n g (g (x i)).Parent=(x (i+1):Int)
 fin: ∀i,i+1=K->(g (x i)).Parent≠0->dL n g (g (x i)).Parent= -1
theorem abe{f:Nat->Int}{k ds}(h:ds.take 1=encI (f k)){q}(hq:q<k+1):aO k (fun q=>encI (f q)) (rowsOf 1 ds) q=encI (f q):=by
 unfold aO;split
 ·rfl
 ·have:q=k:=aa;simp_all [rowsOf]
theorem Eu(σ c n g u K' x)(hP:KV n g u K' x)(hn:n<1000000000)(hK:K'<1000000000):ak prog 454 [.d (SL c 3 Row.enc n g),.d (I u)] σ (.d (SL none 1 encI K' (fun i=>(g (x i)).Unit))):=by
 refine ak.be func454 fun hwf=> ?_;refine we ?_;refine Iq σ.length 1 (fun i=>encI (g (x i)).Unit) ai aN ?_;refine aq ?_;refine aj fun K hK=>sm ?_;have hcl:=nP (mg (σ++[.var [.ms (σ.length+1) 1 0 0],.arr 1 0 (fun i=>encI (g (x i)).Unit)]) c n g u);refine az.gen hcl ?_;rintro r σ' X ⟨rfl,rfl,rfl⟩;refine wD hK ?_;refine aB ?_;refine qO rfl [(5,.ptr σ.length 0)] au ?_;intro La hLa;have iY: ∀i,i<K'->YS prog (σ.length+4) [.agg ((g (x i)).enc.map .d)] (σ++[.var [.ms (σ.length+1) 1 0 i],.arr 1 i (fun q=>encI (g (x q)).Unit),.var [.d (SL c 3 Row.enc n g)],.var [.d (I u)],.lp La .ready none]) (fun r σ' X=>X=[σ.length+1]/\r= .d (B true)/\σ'=σ++[.var [.ms (σ.length+1) 1 0 (i+1)],.arr 1 (i+1) (fun q=>encI (g (x q)).Unit),.var [.d (SL c 3 Row.enc n g)],.var [.d (I u)],.lp La .ready none]):=by
  intro i hi;refine YS.JL (L:=La) (pd:=none) ai ai ?_;intro hwf';have eN:=congrArg gH.N hLa;have et:=congrArg gH.t hLa;have ep:=congrArg gH.ps hLa;have ea:=congrArg gH.assign hLa;have eb:=congrArg gH.body hLa;dsimp only at eN et ep ea eb;have h1:cq [σ.length+1] La.t=La.t:=by grind [cq,AV.avoids]
  rw[eN,et,ep,ea,eb];clear eN et ep ea eb hLa hcl;refine aE fun K hK=> ?_;simp[go_sem,St.Eo];refine hK _ ?_;simp[zQ,go_sem,jQ];refine aB ?_;refine yz ?_;refine aE fun K hK=> ?_;simp[go_sem,hwf.one,h1];refine wG hK ?_;refine⟨_,Lw (σ.length+1) (fun q=>encI (g (x q)).Unit) bj (by exact fun q hq=>abe (f:=fun q=>(g (x q)).Unit) rfl hq) aN,?_⟩;simp[go_sem,vc,vz,jQ,nC];exact ae au
 have hR:Ze (fun i=>σ++[.var [.ms (σ.length+1) 1 0 i],.arr 1 i (fun q=>encI (g (x q)).Unit),.var [.d (SL c 3 Row.enc n g)],.var [.d (I u)],.lp La .ready none]) c n g u K' x true (σ.length+4) (σ.length+2) (σ.length+3) (σ.length+1):=by
  refine⟨fun i=>ai,fun i=>ai,fun i=>ai,fun i=>ai,fun i=>ae au,fun i=>ae au,fun i=>an,aa,aa,aa,hP.first,hP.lt,hP.mid,fun i hi=>iY i aa,fun i hi=>iY i aa,fun i hi _=>hP.fin i hi⟩
 have h3:=gC σ _ c n g u K' x true _ _ _ _ hR hn;refine CS.mono (Q:=fun r σ' X'=>X'=[σ.length+1]/\r= .cj []/\σ'=_) (by simpa[go_sem] using h3) ?_;rintro r σ' X ⟨rfl,rfl,rfl⟩;clear h3 hR iY hLa hcl;refine⟨σ++[.var [.ms (σ.length+1) 1 0 K'],.arr 1 K' (fun q=>encI (g (x q)).Unit),.var [.d (SL c 3 Row.enc n g)],.var [.d (I u)]],La,.ready,none,au,ae au,an,by simp[jQ],?_⟩;simp[HW,go_sem,cq,AV.avoids,cH];refine wP ?_;refine aF hwf (σ.length+1) ?_;exact af sc
def fZ(g:Nat->Int):Nat->Bool
 |0=>true
 |1=>true
 |i+2=>fZ g (i+1)&&decide (g i<g (i+1))
theorem pW(g): ∀n,fZ g n=true↔∀i,0<i->i<n->g (i-1)<g i
 |0=>by simp[fZ]
 |1=>by grind [fZ]
 |n+2=>by
  rw[fZ,Bool.and_eq_true,pW g (n+1)];grind
theorem pV{g:Nat->Int}{i}(hx: ∀q,0<q->q<i->g (q-1)<g q)(h:0<i->g (i-1)<g i): ∀q,0<q->q<i+1->g (q-1)<g q:=by
 grind
theorem tJ{g n}(h: ∀q,0<q->q<n->g (q-1)<g q):fZ g n=true:=(pW g n).2 h
theorem zV{g n i}(hi:i<n)(hp:0<i)(h:g i<=g (i-1)):fZ g n=false:=by
 grind [pW]
theorem vn(c n g)(hn:n<1000000000):ak prog 266 [.d (SL c 1 encI n g)] σ (.d (B (fZ g n))):=by
 refine ak.bt func266 ?_;refine dm (α:=Nat) true [0,5,6] (fun i=>[(6,.d (I i))]) (fun i=>_) (fun i=>i<=n/\∀q,0<q->q<i->g (q-1)<g q) (fun i=>n-i) 0 ?_;rintro i ⟨hi,hx⟩;refine gc [0,5,6] ?_ ?_<;>intro d0
 ·simp[go_sem];refine T.dr 14 fun K hK=> ?_;simp[go_sem,aT (i:=i) aa];refine wK hK ?_;refine gc [0,5,6] ?_ ?_<;>intro d1
  ·simp[go_sem];rw[zV d0 d1.1 d1.2];exact af sc
  ·refine wC ?_;refine bF (i+1) ⟨aa,pV hx d1⟩ (h:=aR)
 ·obtain rfl:i=n:=by omega
  refine wR ?_;exact sx (tJ hx)
theorem acC(c n g)(hn:n<1000000000):ak prog 109 [.d (SL c 6 fM.enc n g)] σ (.d (SL none 6 fM.enc n g)):=by
 refine ak.bd true func109 fun hwf=> ?_;simp[go_sem,-Bool.forall_bool];try intro b1 hb1
 refine fX ?_ ?_<;>intro c0 d0
 ·refine wA ?_;have:=hb1 c0;simp[go_sem,this]
 ·refine wB ?_;refine bg (σ.length) bj aN eS ?_;exact af so
theorem lV(c n g)(hn:n<1000000000):ak prog 34 [.d (SL c 1 encI n g)] σ (.d (SL none 1 encI n g)):=by
 refine ak.bd true func34 fun hwf=> ?_;simp[go_sem,-Bool.forall_bool];try intro b1 hb1
 refine fX ?_ ?_<;>intro c0 d0
 ·refine wA ?_;have:=hb1 c0;simp[go_sem,this]
 ·refine wB ?_;refine bg (σ.length) bj aN eS ?_;exact af so
end Go.Proofs.YthpplckmbbachaaGreatDoor
namespace Go.Proofs.YthpplckmbbachaaGreatDoor
open Go.aI Go.bI
theorem PY: ∀(n K) (x:Nat->Nat),(∀i,i<K->x i<n)->(∀i j,i<j->j<K->x i≠x j)->K<=n
 |0,K,x,h1,_=>by
  simp_all
 |n+1,K,x,h1,h2=>by
  by_cases he: ∃i,i<K/\x i=n
  ·obtain⟨i,hi,hx⟩:=he;have:=PY n (K-1) (fun k=>if k<i then x k else x (k+1)) (fun k hk=>by
    grind) (fun a b hab hb=>by
    grind)
   omega
  ·have:=PY n K x (fun k hk=>by
    grind) h2
   omega
def aeB(n:Nat)(g:Nat->Row)(i:Nat):Nat:=(dL n g (g i).Parent).toNat
def cS(n:Nat)(g:Nat->Row)(i:Nat):Nat->Nat
 |0=>i
 |k+1=>aeB n g (cS n g i k)
theorem zM(n g i a): ∀b,cS n g i (a+b)=cS n g (cS n g i a) b
 |0=>rfl
 |b+1=>by rw[←Nat.add_assoc,cS,zM n g i a b,cS]
def rowOk(r:Row):Bool:=kZ r.Unit&&decide (0<=r.Parent)&&decide (r.Parent<=1073741824)&&decide (0<=r.dg)&&decide (r.dg<=1073741824)
def mF(g:Nat->Row)(i:Nat):Int:=if rowOk (g i)=false then 2 else if 0<i/\(g i).Unit<=(g (i-1)).Unit then 5 else 0
def qp(n:Nat)(g:Nat->Row)(i:Nat):Int:=if(g i).Parent≠0/\dL n g (g i).Parent<0 then 7 else 0
def Cyc(n:Nat)(g:Nat->Row)(i:Nat):Prop:= ∀k,k<=n->(g (cS n g i k)).Parent≠0
open Classical in
noncomputable def bC(n:Nat)(g:Nat->Row):Int:=
 if 256<n then 8 else if aA (mF g) 0 n≠0 then aA (mF g) 0 n else if aA (qp n g) 0 n≠0 then aA (qp n g) 0 n
 else if ∃i,i<n/\Cyc n g i then 17 else 0
theorem afr(n g u):dL n g u<n:=iR _ n g
theorem nL{n g u}(h:0<=dL n g u):(dL n g u).toNat<n/\(g (dL n g u).toNat).Unit=u/\dL n g u=((dL n g u).toNat:Int):=by
 grind [fT,dL,cd,qv]
theorem Yd(n g u): -1<=dL n g u:=by
 all_goals grind [fT,dL]
structure Good(n:Nat)(g:Nat->Row):Prop where
 le:n<=256
 ok: ∀i,i<n->rowOk (g i)=true
 Y2: ∀i j,j<i->i<n->(g j).Unit<(g i).Unit
 par: ∀i,i<n->(g i).Parent≠0->0<=dL n g (g i).Parent
theorem J3{n g}(h0:n<=256)(h1:aA (mF g) 0 n=0)(h2:aA (qp n g) 0 n=0):Good n g:=by
 have he: ∀i,i<n->rowOk (g i)=true/\(0<i->(g (i-1)).Unit<(g i).Unit):=fun i hi=>by
  have:=dc h1 i aa aa;grind [mF]
 refine⟨h0,fun i hi=>(he i hi).1,?_,fun i hi hp=> ?_⟩
 ·intro i;induction i<;>grind
 ·have:=dc h2 i aa aa;grind [qp]
theorem Good.find{n g}(h:Good n g){i}(hi:i<n):dL n g (g i).Unit=(i:Int):=by
 have h1:0<=dL n g (g i).Unit:=by
  grind [fT,lst,dL]
 obtain⟨h2,h3,h4⟩:=nL h1;rw[h4];congr 1
 rcases Nat.lt_trichotomy (dL n g (g i).Unit).toNat i with h5|h5|h5
 ·have:=h.Y2 _ _ h5 hi;omega
 ·exact h5
 ·have:=h.Y2 _ _ h5 h2;omega
theorem Good.nW{n g}(h:Good n g){i}(hi:i<n): ∀k,(∀q,q<k->(g (cS n g i q)).Parent≠0)->cS n g i k<n
 |0,_=>hi
 |k+1,hk=>by
  have h1:=h.nW hi k fun q hq=>hk q aa;rw[cS,aeB];exact(nL (h.par _ h1 (hk k aa))).1
theorem Good.qJ{n g}(h:Good n g){i}(hi:i<n){k}(hk: ∀q,q<=k->(g (cS n g i q)).Parent≠0):dL n g (g (cS n g i k)).Parent=(cS n g i (k+1):Int)/\(g (cS n g i (k+1))).Unit=(g (cS n g i k)).Parent:=by
 have h1:=h.nW hi k fun q hq=>hk q aa;have h2:=nL (h.par _ h1 (hk k aa));exact⟨h2.2.2,h2.2.1⟩
theorem NS{p:Nat->Prop} : ∀k,p k->∃q,q<=k/\p q/\∀r,r<q->¬p r
 |0,h=>⟨0,aa,h,fun r hr=>aa⟩
 |k+1,h=>by
  by_cases h0: ∃r,r<=k/\p r
  ·obtain⟨r,hr,hp⟩:=h0;obtain⟨q,h1,h2,h3⟩:=NS (p:=fun j=>p j/\j<=r) r ⟨hp,aa⟩;grind
  grind
theorem Good.ends{n g}(h:Good n g){i}(hi:i<n){k}(hk:(g (cS n g i k)).Parent=0): ∃K,K<n/\K<=k/\(g (cS n g i K)).Parent=0/\∀q,q<K->(g (cS n g i q)).Parent≠0:=by
 obtain⟨K,h1,h2,h3⟩:=NS (p:=fun k=>(g (cS n g i k)).Parent=0) k hk;refine⟨K,?_,h1,h2,h3⟩;have:=PY n (K+1) (cS n g i) (fun q hq=>h.nW hi q fun r hr=>h3 r aa) (fun a b hab hb he=>by
  have e1:=zM n g i b (K-b);have e2:=zM n g i a (K-b);grind)
 omega
theorem kO{n g}(h:bC n g=0):Good n g/\∀i,i<n->∃K,K<n/\(g (cS n g i K)).Parent=0/\∀q,q<K->(g (cS n g i q)).Parent≠0:=by
 unfold bC at h;split at h
 ·omega
 rename_i h0;split at h
 ·omega
 rename_i h1;split at h
 ·omega
 rename_i h2;split at h
 ·omega
 rename_i h3;have hg:=J3 aa (Decidable.not_not.1 h1) (Decidable.not_not.1 h2);refine⟨hg,fun i hi=> ?_⟩;apply Classical.byContradiction;intro hn;refine h3 ⟨i,hi,fun k hk he=> ?_⟩;obtain⟨K,h4,_,h5,h6⟩:=hg.ends hi he;grind
def bY(n:Nat)(g:Nat->Row)(u:Int):Nat->Nat:=cS n g (dL n g u).toNat
noncomputable def dt(n:Nat)(g:Nat->Row)(u:Int):Nat:=Classical.epsilon fun K=>K<=n/\KV n g u K (bY n g u)
theorem rL{n g}(h:bC n g=0)(u):dt n g u<=n/\KV n g u (dt n g u) (bY n g u):=by
 obtain⟨hg,hc⟩:=kO h;refine Classical.epsilon_spec (p:=fun K=>K<=n/\KV n g u K (bY n g u)) ?_;by_cases hf:0<=dL n g u
 ·obtain⟨h1,h2,h3⟩:=nL hf;obtain⟨K,h4,h5,h6⟩:=hc _ h1;refine⟨K+1,aa,?_,fun i hi=>hg.nW h1 i fun q hq=>h6 q aa,fun i hi=>⟨h6 i aa,(hg.qJ h1 fun q hq=>h6 q aa).1⟩,fun i hi he=> ?_⟩
  ·rw[if_neg aa];exact h3
  ·obtain rfl:i=K:=by omega
   exact absurd h5 he
 ·have:=Yd n g u;refine⟨0,aa,ai,fun i hi=>aa,fun i hi=>aa,fun i hi=>aa⟩
theorem V6{n g}(h:bC n g=0)(u):dt n g u=0↔dL n g u<0:=by
 have h1:=(rL h u).2.first;grind
theorem Ti{n g}(h:bC n g=0)(u):(0<dt n g u->(g (bY n g u 0)).Unit=u)/\(∀i,i+1<dt n g u->(g (bY n g u (i+1))).Unit=(g (bY n g u i)).Parent/\(g (bY n g u i)).Parent≠0)/\∀i,i+1=dt n g u->(g (bY n g u i)).Parent=0:=by
 obtain⟨hk,hp⟩:=rL h u;obtain⟨hg,hc⟩:=kO h;refine⟨fun h0=> ?_,fun i hi=> ?_,fun i hi=> ?_⟩
 ·have h1:=hp.first;rw[if_neg aa] at h1;have h2:=nL (n:=n) (g:=g) (u:=u) aa;grind
 ·have h1:=hp.mid i hi;have h2:=nL (n:=n) (g:=g) (u:=(g (bY n g u i)).Parent) aa;grind
 ·apply Classical.byContradiction;intro hn;have h1:=hp.fin i hi hn;have h2:=hg.par _ (hp.lt i aa) hn;omega
end Go.Proofs.YthpplckmbbachaaGreatDoor
