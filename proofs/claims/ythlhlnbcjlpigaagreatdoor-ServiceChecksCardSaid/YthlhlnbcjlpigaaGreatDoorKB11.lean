/- Contracts and lemmas, joined out of smaller texts by a program; no conditions. -/
import Derived.Test.YthlhlnbcjlpigaaGreatDoorKB9
import Derived.Test.YthlhlnbcjlpigaaGreatDoorKB10
set_option linter.unusedVariables false
set_option linter.unusedSimpArgs false
set_option maxHeartbeats 400000
set_option maxRecDepth 100000
namespace Go.Proofs.YthlhlnbcjlpigaaGreatDoor
open Go.aU Go.bY Go.Proofs.Tryz
variable (σ : List aC)
structure kP where
 ID:Int
 fK:Int
 Until:Int
 Strict:Bool
 In:Span
instance:Inhabited kP:=⟨⟨0,0,0,false,⟨0,0⟩⟩⟩
def kP.enc(r:kP):List D:=[I r.ID,I r.fK,I r.Until,B r.Strict,I r.In.From,I r.In.Until]
instance:Inhabited Ground:=⟨⟨0,0,0,0⟩⟩
attribute [go_sem] kP.enc
def aI(e:Nat->Int)(i:Nat):Nat->Int
 |0=>0
 |k+1=>if e i≠0 then e i else aI e (i+1) k
theorem iM{e:Nat->Int} : ∀{k i:Nat},aI e i k=0->∀q,i<=q->q<i+k->e q=0
 |0,i,_,q,h1,h2=>by omega
 |k+1,i,h,q,h1,h2=>by
  rw[aI] at h;by_cases he:e i=0
  ·rw[if_neg (by simp[he])] at h;by_cases hq:q=i
   ·rw[hq];exact he
   ·exact iM h q (by omega) (by omega)
  ·rw[if_pos he] at h;exact absurd h he
theorem IU{e:Nat->Int} : ∀{k i:Nat},(∀q,i<=q->q<i+k->e q=0)->aI e i k=0
 |0,i,_=>rfl
 |k+1,i,h=>by
  rw[aI,if_neg (by simp[h i (by omega) (by omega)])];exact IU fun q h1 h2=>h q (by omega) (by omega)
def TG(a:kP):Bool:=decide (1<=a.ID)&&decide (a.ID<=1073741824)&&decide (1<=a.fK)&&decide (a.fK<=1073741824)&&decide (0<=a.Until)&&decide (a.Until<=1048576)&&qW a.In
def Bv(g:Nat->kP)(i:Nat):Int:=if TG (g i)=false then 2 else if 0<i/\(g i).ID<=(g (i-1)).ID then 5 else 0
def kR(n:Nat)(g:Nat->kP):Int:=if 64<n then 8 else aI (Bv g) 0 n
theorem qp(a:kP):ay prog 218 [.agg (a.enc.map .d)] σ (.d (B (TG a))):=by
 refine ay.bs true func218 fun hwf=> ?_;refine aj ?_;simp[go_sem,TG,qW,Bool.and_assoc]<;>omega
theorem lW(c:Option Nat)(n:Nat)(g:Nat->kP)(hn:n<1000000000):ay prog 157 [.d (SL c 6 kP.enc n g)] σ (.d (I (kR n g))):=by
 refine ay.bs true func157 fun hwf=> ?_;refine aH [0] ?_ ?_<;>intro c0 d0
 ·simp[go_sem];refine aj ?_;simp[go_sem,kR]<;>omega
 ·simp[go_sem];refine gy (α:=Nat) true [0,8,9,10] (fun i=>[(10,.d (I i))]) (fun i=>_) (fun i=>i<=n/\aI (Bv g) 0 n=aI (Bv g) i (n-i)) (fun i=>n-i) 0 ?_;rintro i ⟨hi,hx⟩;simp[go_sem];refine aH [0,8,9,10] ?_ ?_<;>intro c1 d1
  ·obtain⟨k,hk⟩: ∃k,n-i=k+1:=⟨n-i-1,by omega⟩;have hk':n-(i+1)=k:=by omega
   rw[hk,aI] at hx;simp[go_sem];repeat refine⟨by omega,?_⟩
   refine aW.mk (qp _ _) ?_;simp[go_sem];refine aH [0,3,4,8,9,10] ?_ ?_<;>intro c2 d2
   ·have he:Bv g i=2:=by unfold Bv;rw[if_pos d2]
    rw[he] at hx;simp at hx;simp[go_sem];refine aj ?_;simp[go_sem,kR,hx]<;>omega
   ·simp[go_sem];refine T.dr 14 fun K hK=> ?_;simp[go_sem,aZ (i:=i) (by omega)];repeat refine⟨by omega,?_⟩
    refine hK _ ?_;refine go true ?_;simp[go_sem];refine aH [0,8,9,10] ?_ ?_<;>intro c3 d3
    ·have he:Bv g i=5:=by unfold Bv;rw[if_neg (by simp[d2]),if_pos d3]
     rw[he] at hx;simp at hx;simp[go_sem];refine aj ?_;simp[go_sem,kR,hx]<;>omega
    ·have he:Bv g i=0:=by unfold Bv;rw[if_neg (by simp[d2]),if_neg (by omega)]
     rw[he] at hx;simp at hx;simp(disch:=first|omega|simp) [go_sem,aA];refine dB (i+1) ⟨by omega,by rw[hx,hk']⟩ (h:=by simp[go_sem]<;>omega)
  ·obtain rfl:i=n:=by omega
   rw[Nat.sub_self,aI] at hx;simp[go_sem];refine go true ?_;simp[go_sem];refine aj ?_;simp[go_sem,kR,hx]<;>omega
theorem Uw(c:Option Nat)(n:Nat)(g:Nat->kP):ay prog 59 [.d (SL c 6 kP.enc n g)] σ (.d (B (decide ((n:Int)<=20)))):=by
 refine ay.bs true func59 fun hwf=> ?_;exact aj so
def agrCl(a:kP)(k d:Int):Bool:=TG a&&(a.fK==k)&&decide (a.In.From<=d)&&decide (d<a.In.Until)&&decide (d<a.Until)
theorem Dt(a:kP)(k d:Int):ay prog 460 [.agg (a.enc.map .d),.d (I k),.d (I d)] σ (.d (B (agrCl a k d))):=by
 refine ay.bs true func460 fun hwf=> ?_;refine aW.mk (qp _ a) (sm ?_);refine aj ?_;simp[go_sem,agrCl]<;>omega
theorem Ho(a:kP):ay prog 459 [.agg (a.enc.map .d)] σ (.d (I (min a.Until a.In.Until))):=by
 refine ay.bs true func459 fun hwf=> ?_;exact aj so
def gather{β:Type}(f:Nat->List β):Nat->List β
 |0=>[]
 |i+1=>gather f i++f i
theorem iT{β:Type}{f:Nat->List β}(h: ∀i,(f i).length<=1): ∀i,(gather f i).length<=i
 |0=>by simp[gather]
 |i+1=>by have:=iT h i;have:=h i;simp only[gather,List.length_append];omega
def TJ(a:kP):Ground:=⟨3,a.ID,0,min a.Until a.In.Until⟩
def ug(g:Nat->kP)(k d:Int)(i:Nat):List Ground:=if agrCl (g i) k d=true then[TJ (g i)] else[]
theorem TI(g:Nat->kP)(k d:Int)(i:Nat):(ug g k d i).length<=1:=by unfold ug;split<;>simp
def Bq(n:Nat)(g:Nat->kP)(k d:Int):List Ground:=if kR n g≠0 then[] else gather (ug g k d) n
def strP(k:Int)(a:kP):Bool:=(a.ID==k)&&a.Strict
def agrStr(n:Nat)(g:Nat->kP)(k:Int):Bool:=decide (kR n g=0)&&(lst n g).any (strP k)
def WV(g:Nat->kP)(k d:Int):Nat->Int
 |0=>d
 |i+1=>if agrCl (g i) k d=true then max (WV g k d i) (min (g i).Until (g i).In.Until) else WV g k d i
def UK(n:Nat)(g:Nat->kP)(k d:Int):Int:=if h:d<WV g k d n/\WV g k d n<=1048576 then UK n g k (WV g k d n) else d
termination_by (1048576-d).toNat
decreasing_by omega
theorem Yb(c:Option Nat)(n:Nat)(g:Nat->kP)(f:FuncId)(cap:List AV)(p:kP->Bool)(hn:n<1000000000)(hf: ∀i,i<n->ay prog f (.agg ((g i).enc.map .d)::cap) σ (.d (B (p (g i))))):ay prog 448 [.d (SL c 6 kP.enc n g),.clo (.func f) [] cap] σ (.d (I (idxFrom p (lst n g) 0))):=by
 refine ay.bs true func448 fun hwf=> ?_;refine gy (α:=Nat) true [0,1,7,8] (fun i=>[(8,.d (I i))]) (fun i=>_) (fun i=>i<=n/\idxFrom p (lst n g) 0=idxFrom p ((lst n g).drop i) i) (fun i=>n-i) 0 ?_;rintro i ⟨hi,hx⟩;simp[go_sem];refine aH [0,1,7,8] ?_ ?_<;>intro c0 d0
 ·rw[fE d0,idxFrom] at hx;simp[go_sem];repeat refine⟨by omega,?_⟩
  refine aW.mk (hf i d0) (sm ?_);refine aH [0,1,5,7,8] ?_ ?_<;>intro c1 d1
  ·simp[go_sem];refine aj ?_;simp[go_sem,hx,c1]<;>omega
  ·simp(disch:=first|omega|simp) [go_sem,aA];refine dB (i+1) ⟨by omega,by rw[hx,c1];simp⟩ (h:=by simp[go_sem]<;>omega)
 ·rw[fF d0,idxFrom] at hx;simp[go_sem];refine go true (sm ?_);refine aj ?_;simp[go_sem,hx]<;>omega
theorem Py(c:Option Nat)(n:Nat)(g:Nat->kP)(f:FuncId)(cap:List AV)(p:kP->Bool)(hn:n<1000000000)(hf: ∀i,i<n->ay prog f (.agg ((g i).enc.map .d)::cap) σ (.d (B (p (g i))))):ay prog 424 [.d (SL c 6 kP.enc n g),.clo (.func f) [] cap] σ (.d (B ((lst n g).any p))):=by
 refine ay.bs true func424 fun hwf=> ?_;refine aW.mk (Yb _ c n g f cap p hn hf) (sm ?_);refine aj ?_;simp[go_sem,lC]<;>omega
theorem xW(a:kP):ay prog 458 [.agg (a.enc.map .d)] σ (.agg ((TJ a).enc.map .d)):=by
 refine ay.bs true func458 fun hwf=> ?_;refine T.dr 5 fun K hK=>sm ?_;refine dS.mk (Ho _ _) (sm ?_);refine hK _ ?_;refine go true (sm ?_);refine aj ?_;simp[go_sem,TJ]<;>omega
theorem A8(c:Option Nat)(n:Nat)(g:Nat->kP)(k d:Int)(hn:n<1000000000):ay prog 443 [.d (SL c 6 kP.enc n g),.d (I k),.d (I d)] σ (.d (SL none 4 Ground.enc (Bq n g k d).length (nth (Bq n g k d)))):=by
 refine ay.bs false func443 fun hwf=> ?_;refine go false (sm ?_);refine aW.mk (lW _ _ _ _ (by first|assumption|exact aO (by assumption)|omega|simp_all)) (sm ?_);refine go false (sm ?_);refine aH [0,1,2] ?_ ?_<;>intro c0 d0
 ·have hz:Bq n g k d=[]:=by unfold Bq;rw[if_pos d0]
  simp[go_sem];refine go true (sm ?_);rw[hz];exact aj sc
 ·have hz:Bq n g k d=gather (ug g k d) n:=by unfold Bq;rw[if_neg (by simp[d0])]
  simp[go_sem];refine go false (sm ?_);refine dn 8 4 (fun i=>Ground.enc (nth ([]:List Ground) i)) (by simp[go_sem]) (by simp[go_sem];rfl) ?_;refine go false (sm ?_);refine go true (sm ?_);refine lpU (α:=Nat) false [1,2,7,8,14,15,16] [σ.length] (fun i=>[(8,.ms σ.length 4 0 (gather (ug g k d) i).length),(16,.d (I i))]) (fun i=>σ++[.arr 4 (gather (ug g k d) i).length (fun q=>Ground.enc (nth (gather (ug g k d) i) q))]) (fun i=>i<=n) (fun i=>n-i) 0 (by simp[go_sem,gather]) (rfl) (by simp) (by simp) ?_;rintro i hi;simp[go_sem];refine go false (sm ?_);refine aH [1,2,7,8,14,15,16] ?_ ?_<;>intro c1 d1
  ·have hl:=iT (TI g k d) i;simp[go_sem];repeat refine⟨by omega,?_⟩
   refine go false (sm ?_);refine aW.mk (Dt _ _ _ _) (sm ?_);refine go false (sm ?_);refine aH [1,2,7,8,10,14,15,16] ?_ ?_<;>intro c2 d2
   ·have ha:gather (ug g k d) (i+1)=gather (ug g k d) i++[TJ (g i)]:=by rw[gather,ug,if_pos c2]
    simp[go_sem];refine aW.mk (xW _ (g i)) ?_;simp[go_sem,hwf.zero];repeat refine⟨by omega,?_⟩
    refine bC σ.length (fun q=>Ground.enc (nth (gather (ug g k d) i++[TJ (g i)]) q)) (by simp[go_sem];exact⟨rfl,rfl,rfl⟩) (by exact fun q hq=>qF (enc:=Ground.enc) (x:=TJ (g i)) rfl hq) (by simp[go_sem];rfl) ?_;refine go false ?_;simp(disch:=first|omega|simp) [go_sem,aA];refine dB (i+1) (by omega) (h:=by simp[go_sem,ha]<;>omega) (hσ:=by simp[go_sem,ha]) (hb:=au (by simp[go_sem]))
   ·have ha:gather (ug g k d) (i+1)=gather (ug g k d) i:=by rw[gather,ug,if_neg (by simp[c2])];simp
    simp(disch:=first|omega|simp) [go_sem,aA];refine dB (i+1) (by omega) (h:=by simp[go_sem,ha]<;>omega) (hσ:=by simp[go_sem,ha]) (hb:=au (by simp[go_sem]))
  ·obtain rfl:i=n:=by omega
   simp[go_sem];refine go true (sm ?_);refine dM (σ.length) (by simp[go_sem];exact⟨rfl,rfl,rfl⟩) (by simp[go_sem];rfl) (by simp[go_sem,hwf.uN,hwf.yL];rfl) ?_;rw[hz];exact aj sc
theorem yO(τ:List aC)(a:kP)(k:Int):ay prog 425 [.agg (a.enc.map .d),.ptr σ.length 0] (σ++ .var [.d (I k)]::τ) (.d (B (strP k a))):=by
 refine ay.bs true func425 fun hwf=> ?_;refine aj ?_;simp[go_sem,strP]<;>omega
theorem Dq(c:Option Nat)(n:Nat)(g:Nat->kP)(k:Int)(hn:n<1000000000):ay prog 405 [.d (SL c 6 kP.enc n g),.d (I k)] σ (.d (B (agrStr n g k))):=by
 refine ay.bs true func405 fun hwf=> ?_;refine aW.mk (lW _ _ _ _ (by first|assumption|exact aO (by assumption)|omega|simp_all)) (sm ?_);refine fA.mk (Py _ c n g _ _ (strP k) hn (fun i hi=>yO σ [] (g i) k)) (sm ?_);refine aj ?_;simp[go_sem,agrStr];rfl
structure qJ where
 ID:Int
 Reader:Int
 Unit:Int
 Kinds:Int
 In:Span
instance:Inhabited qJ:=⟨⟨0,0,0,0,⟨0,0⟩⟩⟩
def qJ.enc(r:qJ):List D:=[I r.ID,I r.Reader,I r.Unit,I r.Kinds,I r.In.From,I r.In.Until]
def encI(x:Int):List D:=[I x]
attribute [go_sem] qJ.enc encI
def yK(n:Int):Bool:=decide (1<=n)&&decide (n<=1073741824)
def RG(a:qJ):Bool:=yK a.ID&&yK a.Reader&&yK a.Unit&&decide (1<=a.Kinds)&&decide (a.Kinds<=7)&&qW a.In
def zF(g:Nat->qJ)(i:Nat):Int:=if RG (g i)=false then 2 else if 0<i/\(g i).ID<=(g (i-1)).ID then 5 else 0
def lJ(n:Nat)(g:Nat->qJ):Int:=if 64<n then 8 else aI (zF g) 0 n
theorem wW(n:Int):ay prog 301 [.d (I n)] σ (.d (B (yK n))):=by
 refine ay.bs true func301 fun hwf=> ?_;refine aj ?_;simp[go_sem,yK]<;>omega
theorem wR(n:Int):ay prog 92 [.d (I n)] σ (.d (B (yK n))):=by
 refine ay.bs true func92 fun hwf=> ?_;refine aj ?_;simp[go_sem,yK]<;>omega
theorem vF(a:qJ):ay prog 219 [.agg (a.enc.map .d)] σ (.d (B (RG a))):=by
 refine ay.bs true func219 fun hwf=> ?_;refine aW.mk (wW _ _) (sm ?_);refine fA.mk (wW _ _) (sm ?_);refine fA.mk (wW _ _) (sm ?_);refine aj ?_;simp[go_sem,RG,qW,Bool.and_assoc]<;>omega
theorem yA(c:Option Nat)(n:Nat)(g:Nat->qJ)(hn:n<1000000000):ay prog 158 [.d (SL c 6 qJ.enc n g)] σ (.d (I (lJ n g))):=by
 refine ay.bs true func158 fun hwf=> ?_;refine aH [0] ?_ ?_<;>intro c0 d0
 ·simp[go_sem];refine aj ?_;simp[go_sem,lJ]<;>omega
 ·simp[go_sem];refine gy (α:=Nat) true [0,8,9,10] (fun i=>[(10,.d (I i))]) (fun i=>_) (fun i=>i<=n/\aI (zF g) 0 n=aI (zF g) i (n-i)) (fun i=>n-i) 0 ?_;rintro i ⟨hi,hx⟩;simp[go_sem];refine aH [0,8,9,10] ?_ ?_<;>intro c1 d1
  ·obtain⟨k,hk⟩: ∃k,n-i=k+1:=⟨n-i-1,by omega⟩;have hk':n-(i+1)=k:=by omega
   rw[hk,aI] at hx;simp[go_sem];repeat refine⟨by omega,?_⟩
   refine aW.mk (vF _ _) ?_;simp[go_sem];refine aH [0,3,4,8,9,10] ?_ ?_<;>intro c2 d2
   ·have he:zF g i=2:=by unfold zF;rw[if_pos d2]
    rw[he] at hx;simp at hx;simp[go_sem];refine aj ?_;simp[go_sem,lJ,hx]<;>omega
   ·simp[go_sem];refine T.dr 14 fun K hK=> ?_;simp[go_sem,aZ (i:=i) (by omega)];repeat refine⟨by omega,?_⟩
    refine hK _ ?_;refine go true ?_;simp[go_sem];refine aH [0,8,9,10] ?_ ?_<;>intro c3 d3
    ·have he:zF g i=5:=by unfold zF;rw[if_neg (by simp[d2]),if_pos d3]
     rw[he] at hx;simp at hx;simp[go_sem];refine aj ?_;simp[go_sem,lJ,hx]<;>omega
    ·have he:zF g i=0:=by unfold zF;rw[if_neg (by simp[d2]),if_neg (by omega)]
     rw[he] at hx;simp at hx;simp(disch:=first|omega|simp) [go_sem,aA];refine dB (i+1) ⟨by omega,by rw[hx,hk']⟩ (h:=by simp[go_sem]<;>omega)
  ·obtain rfl:i=n:=by omega
   rw[Nat.sub_self,aI] at hx;simp[go_sem];refine go true ?_;simp[go_sem];refine aj ?_;simp[go_sem,lJ,hx]<;>omega
theorem Uu(c c':Option Nat)(n n':Nat)(g:Nat->qJ)(g':Nat->Int):ay prog 60 [.d (SL c 6 qJ.enc n g),.d (SL c' 1 encI n' g')] σ (.d (B (decide ((n:Int)<=20)&&decide ((n':Int)<=20)))):=by
 refine ay.bs true func60 fun hwf=> ?_;exact aj so
theorem indexOf_cs(c:Option Nat)(n:Nat)(g:Nat->Int)(k:Int)(hn:n<1000000000):ay prog 310 [.d (SL c 1 encI n g),.d (I k)] σ (.d (I (idxFrom (fun x=>k==x) (lst n g) 0))):=by
 refine ay.bs true func310 fun hwf=> ?_;refine gy (α:=Nat) true [0,1,7,8] (fun i=>[(8,.d (I i))]) (fun i=>_) (fun i=>i<=n/\idxFrom (fun x=>k==x) (lst n g) 0=idxFrom (fun x=>k==x) ((lst n g).drop i) i) (fun i=>n-i) 0 ?_;rintro i ⟨hi,hx⟩;simp[go_sem];refine aH [0,1,7,8] ?_ ?_<;>intro c0 d0
 ·rw[fE d0,idxFrom] at hx;simp[go_sem];repeat refine⟨by omega,?_⟩
  refine aH [0,1,5,7,8] ?_ ?_<;>intro c1 d1
  ·simp[go_sem];rw[hx,if_pos c1];exact aj sc
  ·simp(disch:=first|omega|simp) [go_sem,aA];refine dB (i+1) ⟨by omega,by rw[hx,c1];simp⟩ (h:=by simp[go_sem]<;>omega)
 ·rw[fF d0,idxFrom] at hx;simp[go_sem];refine go true (sm ?_);refine aj ?_;simp[go_sem,hx]<;>omega
theorem DY(c:Option Nat)(n:Nat)(g:Nat->Int)(k:Int)(hn:n<1000000000):ay prog 240 [.d (SL c 1 encI n g),.d (I k)] σ (.d (B ((lst n g).any fun x=>k==x))):=by
 refine ay.bs true func240 fun hwf=> ?_;refine aW.mk (indexOf_cs _ _ _ _ _ (by first|assumption|exact aO (by assumption)|omega|simp_all)) (sm ?_);refine aj ?_;simp[go_sem,lC]<;>omega
def UC(a:qJ)(n:Nat)(g:Nat->Int)(d:Int):Bool:=RG a&&((lst n g).any fun x=>a.Unit==x)&&decide (a.In.From<=d)&&decide (d<a.In.Until)
theorem N7(a:qJ)(c:Option Nat)(n:Nat)(g:Nat->Int)(d:Int)(hn:n<1000000000):ay prog 446 [.agg (a.enc.map .d),.d (SL c 1 encI n g),.d (I d)] σ (.d (B (UC a n g d))):=by
 refine ay.bs true func446 fun hwf=> ?_;refine aW.mk (vF _ a) (sm ?_);refine fA.mk (DY _ c n g a.Unit hn) (sm ?_);refine aj ?_;simp[go_sem,UC]<;>omega
def kindBit(K k:Int):Int:=IntKind.i64.wrap ↑(BitVec.ofInt 64 (K.fdiv (2^min (IntKind.i64.wrap (k-1)).toNat 64))&&&1#64).toNat
def isForB(a:qJ)(k:Int):Bool:=decide (1<=k)&&decide (k<=3)&&(kindBit a.Kinds k==1)
theorem KI(a:qJ)(k:Int):ay prog 447 [.agg (a.enc.map .d),.d (I k)] σ (.d (B (isForB a k))):=by
 refine ay.bd true func447 fun hwf=> ?_;simp(disch:=first|omega|simp) [go_sem];refine⟨fun h1 h2=>by rw[aA (by omega) (by omega)];omega,?_⟩;refine aj (sm ?_);rfl
def YR(a:qJ)(r:Int)(n:Nat)(g:Nat->Int)(k d:Int):Bool:=(a.Reader==r)&&UC a n g d&&isForB a k
theorem Iz(a:qJ)(r:Int)(c:Option Nat)(n:Nat)(g:Nat->Int)(k d:Int)(hn:n<1000000000):ay prog 423 [.agg (a.enc.map .d),.d (I r),.d (SL c 1 encI n g),.d (I k),.d (I d)] σ (.d (B (YR a r n g k d))):=by
 refine ay.bs true func423 fun hwf=> ?_;refine fA.mk (N7 _ a c n g d hn) (sm ?_);refine fA.mk (KI _ a k) (sm ?_);refine aj ?_;simp[go_sem,YR]<;>omega
theorem X7(c:Option Nat)(n:Nat)(g:Nat->qJ)(f:FuncId)(cap:List AV)(p:qJ->Bool)(hn:n<1000000000)(hf: ∀i,i<n->ay prog f (.agg ((g i).enc.map .d)::cap) σ (.d (B (p (g i))))):ay prog 324 [.d (SL c 6 qJ.enc n g),.clo (.func f) [] cap] σ (.d (I (idxFrom p (lst n g) 0))):=by
 refine ay.bs true func324 fun hwf=> ?_;refine gy (α:=Nat) true [0,1,7,8] (fun i=>[(8,.d (I i))]) (fun i=>_) (fun i=>i<=n/\idxFrom p (lst n g) 0=idxFrom p ((lst n g).drop i) i) (fun i=>n-i) 0 ?_;rintro i ⟨hi,hx⟩;simp[go_sem];refine aH [0,1,7,8] ?_ ?_<;>intro c0 d0
 ·rw[fE d0,idxFrom] at hx;simp[go_sem];repeat refine⟨by omega,?_⟩
  refine aW.mk (hf i d0) (sm ?_);refine aH [0,1,5,7,8] ?_ ?_<;>intro c1 d1
  ·simp[go_sem];refine aj ?_;simp[go_sem,hx,c1]<;>omega
  ·simp(disch:=first|omega|simp) [go_sem,aA];refine dB (i+1) ⟨by omega,by rw[hx,c1];simp⟩ (h:=by simp[go_sem]<;>omega)
 ·rw[fF d0,idxFrom] at hx;simp[go_sem];refine go true (sm ?_);refine aj ?_;simp[go_sem,hx]<;>omega
theorem FP(τ:List aC)(a:qJ)(r:Int)(c:Option Nat)(n:Nat)(g:Nat->Int)(k d:Int)(hn:n<1000000000):ay prog 422 [.agg (a.enc.map .d),.ptr σ.length 0,.ptr (σ.length+1) 0,.ptr (σ.length+2) 0,.ptr (σ.length+3) 0] (σ++ .var [.d (I r)]:: .var [.d (SL c 1 encI n g)]:: .var [.d (I k)]:: .var [.d (I d)]::τ) (.d (B (YR a r n g k d))):=by
 refine ay.bs true func422 fun hwf=> ?_;refine aW.mk (Iz _ a r c n g k d hn) (sm ?_);exact aj so
def uF(N:Nat)(G:Nat->qJ)(r:Int)(n:Nat)(g:Nat->Int)(k d:Int):Int×Bool:=
 if idxFrom (fun a=>YR a r n g k d) (lst N G) 0<0\/lJ N G≠0 then(0,false) else((G (idxFrom (fun a=>YR a r n g k d) (lst N G) 0).toNat).ID,true)
theorem KJ(C:Option Nat)(N:Nat)(G:Nat->qJ)(r:Int)(c:Option Nat)(n:Nat)(g:Nat->Int)(k d:Int)(hN:N<1000000000)(hn:n<1000000000):ay prog 404 [.d (SL C 6 qJ.enc N G),.d (I r),.d (SL c 1 encI n g),.d (I k),.d (I d)] σ (.eX [.d (I (uF N G r n g k d).1),.d (B (uF N G r n g k d).2)]):=by
 have hlt:=qB (fun a=>YR a r n g k d) N G;refine ay.bs true func404 fun hwf=> ?_;refine aW.mk (X7 _ C N G _ _ (fun a=>YR a r n g k d) hN (fun i hi=>FP σ [] (G i) r c n g k d hn)) (sm ?_);refine fA.mk (yA _ C N G hN) (sm ?_);refine aH [0,12] ?_ ?_<;>intro c0 d0
 ·have hz:uF N G r n g k d=(0,false):=by unfold uF;rw[if_pos d0]
  simp[go_sem];rw[hz];exact aj sc
 ·have hz:uF N G r n g k d=((G (idxFrom (fun a=>YR a r n g k d) (lst N G) 0).toNat).ID,true):=by unfold uF;rw[if_neg (by omega)]
  simp[go_sem];repeat refine⟨by omega,?_⟩
  rw[hz];exact aj sc
def kd(k:Int):Int:=if k=1 then 1 else if k=2 then 2 else 4
structure Row where
 Unit:Int
 Parent:Int
 fK:Int
instance:Inhabited Row:=⟨⟨0,0,0⟩⟩
def Row.enc(r:Row):List D:=[I r.Unit,I r.Parent,I r.fK]
attribute [go_sem] Row.enc
def gX(n:Nat)(g:Nat->Row)(u:Int):Int:=idxFrom (fun r=>r.Unit==u) (lst n g) 0
theorem X6(c:Option Nat)(n:Nat)(g:Nat->Row)(f:FuncId)(cap:List AV)(p:Row->Bool)(hn:n<1000000000)(hf: ∀i,i<n->ay prog f (.agg ((g i).enc.map .d)::cap) σ (.d (B (p (g i))))):ay prog 151 [.d (SL c 3 Row.enc n g),.clo (.func f) [] cap] σ (.d (I (idxFrom p (lst n g) 0))):=by
 refine ay.bs true func151 fun hwf=> ?_;refine gy (α:=Nat) true [0,1,7,8] (fun i=>[(8,.d (I i))]) (fun i=>_) (fun i=>i<=n/\idxFrom p (lst n g) 0=idxFrom p ((lst n g).drop i) i) (fun i=>n-i) 0 ?_;rintro i ⟨hi,hx⟩;simp[go_sem];refine aH [0,1,7,8] ?_ ?_<;>intro c0 d0
 ·rw[fE d0,idxFrom] at hx;simp[go_sem];repeat refine⟨by omega,?_⟩
  refine aW.mk (hf i d0) (sm ?_);refine aH [0,1,5,7,8] ?_ ?_<;>intro c1 d1
  ·simp[go_sem];refine aj ?_;simp[go_sem,hx,c1]<;>omega
  ·simp(disch:=first|omega|simp) [go_sem,aA];refine dB (i+1) ⟨by omega,by rw[hx,c1];simp⟩ (h:=by simp[go_sem]<;>omega)
 ·rw[fF d0,idxFrom] at hx;simp[go_sem];refine go true (sm ?_);refine aj ?_;simp[go_sem,hx]<;>omega
theorem Iu(τ:List aC)(r:Row)(u:Int):ay prog 152 [.agg (r.enc.map .d),.ptr σ.length 0] (σ++ .var [.d (I u)]::τ) (.d (B (r.Unit==u))):=by
 refine ay.bs true func152 fun hwf=> ?_;exact aj so
theorem jV(c:Option Nat)(n:Nat)(g:Nat->Row)(u:Int)(hn:n<1000000000):ay prog 93 [.d (SL c 3 Row.enc n g),.d (I u)] σ (.d (I (gX n g u))):=by
 refine ay.bs true func93 fun hwf=> ?_;refine aW.mk (X6 _ c n g _ _ (fun r=>r.Unit==u) hn (fun i hi=>Iu σ [] (g i) u)) (sm ?_);refine aj ?_;simp[go_sem,gX]<;>omega
theorem pK(c:Option Nat)(n:Nat)(g:Nat->Row)(u:Int):CS prog 94 [.d (SL c 3 Row.enc n g),.d (I u)] σ (fun r σ' X=>r= .clo (.func 153) [] [.ptr σ.length 0,.ptr (σ.length+1) 0]/\σ'=σ++[.var [.d (SL c 3 Row.enc n g)],.var [.d (I u)]]/\X=[]):=by
 refine CS.bsW true func94 fun hwf=> ?_;exact aj so
structure Ways(S:Nat->List aC)(c:Option Nat)(n:Nat)(g:Nat->Row)(u:Int)(K:Nat)(x:Nat->Nat)(t:Bool)(y a b o:Nat):Prop where
 ha: ∀i,(S i)[a]? =some (.var [.d (SL c 3 Row.enc n g)])
 ha0: ∀i,(S i)[a]? =some (.var [.d (SL c 3 Row.enc n g)])
 hb: ∀i,(S i)[b]? =some (.var [.d (I u)])
 hb0: ∀i,(S i)[b]? =some (.var [.d (I u)])
 hlv: ∀i,aU.Leaves (S 0) (S i)
 hls: ∀i,aU.Leaves (S i) (S (i+1))
 hol: ∀i,¬(S i).length=o
 hyo: ¬y=o
 hao: ¬a=o
 hbo: ¬b=o
 first:gX n g u=if 0=K then-1 else(x 0:Int)
 lt: ∀i,i<K->x i<n
 mid: ∀i,i+1<K->(g (x i)).Parent≠0/\gX n g (g (x i)).Parent=(x (i+1):Int)
 yes: ∀i,i+1<K->YS prog y [.agg ((g (x i)).enc.map .d)] (S i) (fun r σ' X=>X=[o]/\r= .d (B true)/\σ'=S (i+1))
 last: ∀i,i+1=K->YS prog y [.agg ((g (x i)).enc.map .d)] (S i) (fun r σ' X=>X=[o]/\r= .d (B t)/\σ'=S (i+1))
 fin: ∀i,i+1=K->t=true->(g (x i)).Parent≠0->gX n g (g (x i)).Parent= -1
theorem jQ(σ:List aC)(S:Nat->List aC)(c:Option Nat)(n:Nat)(g:Nat->Row)(u:Int)(K':Nat)(x:Nat->Nat)(t:Bool)(y a b o:Nat)(h:Ways S c n g u K' x t y a b o)(hn:n<1000000000):CS prog 153 [.xX y,.ptr a 0,.ptr b 0] (S 0) (fun r σ' X'=>X'=[o]/\r= .eX []/\σ'=S K'):=by
 refine CS.beD [o] func153 fun hwf=> ?_;refine ak fun K hK=> ?_;simp[go_sem,h.ha,h.hb];refine aW.mk (jV _ c n g u hn) ?_;simp[go_sem];refine hK _ ?_;refine aN ?_;refine bF [0,1,4] (by simp[go_sem,bf];rfl) ?_;refine qg [o] (by simp) ?_;refine bU (α:=Nat) (fun i=>[(4,.d (I (if i=K' then-1 else(x i:Int))))]) (fun i=>S i) (fun i=>i<=K') (fun i=>K'-i) 0 (by simp[go_sem,h.first]) rfl (by simp) ?_;rintro i hi;refine aK ?_;refine ak fun K hK=> ?_;simp[go_sem];refine hK _ ?_;refine pW [0,1,4,9] ?_;refine AX rfl (fun c0=> ?_) (fun c0=> ?_)
 ·have hik: ¬i=K':=fun he=>by rw[if_pos he] at c0;simp at c0
  have hxl:=h.lt i (by omega);refine aV ?_;refine aK ?_;refine aN ?_;refine ak fun K hK=> ?_;simp[go_sem,h.ha,hik];repeat refine⟨by omega,?_⟩
  by_cases hl:i+1=K'
  ·have hl1:=h.last i hl;refine YSk.gen hl1 ?_;rintro r σ' X ⟨rfl,rfl,rfl⟩;simp[go_sem,h.ha,h.hyo,h.hao];repeat refine⟨by omega,?_⟩
   refine hK _ ?_;refine pW [0,1,4,31] ?_;refine AX rfl (fun c1=> ?_) (fun c1=> ?_)
   ·refine aj ?_;rw[hl];simp[go_sem];exact h.hlv _
   ·have d1:=c1;simp at d1;have hf:=h.fin i hl d1.1 d1.2;refine aV ?_;refine T.dr 7 fun K hK=> ?_;simp[go_sem,h.ha];repeat refine⟨by omega,?_⟩
    refine dS.mk (jV _ c n g _ hn) ?_;simp[go_sem,hf];refine hK _ ?_;refine⟨i+1,bK (by simp) (h.hls i) (by(simp[go_sem,hik,hl]<;>omega)),by omega,by first|omega|(dsimp only;omega)⟩
  ·obtain⟨hp,hf⟩:=h.mid i (by omega);have hl1:=h.yes i (by omega);refine YSk.gen hl1 ?_;rintro r σ' X ⟨rfl,rfl,rfl⟩;simp[go_sem,h.ha,h.hyo,h.hao];repeat refine⟨by omega,?_⟩
   refine hK _ ?_;refine pW [0,1,4,31] ?_;refine AX rfl (fun c1=> ?_) (fun c1=> ?_)
   ·simp[hp] at c1
   ·refine aV ?_;refine T.dr 7 fun K hK=> ?_;simp[go_sem,h.ha];repeat refine⟨by omega,?_⟩
    refine dS.mk (jV _ c n g _ hn) ?_;simp[go_sem,hf];refine hK _ ?_;refine⟨i+1,bK (by simp) (h.hls i) (by(simp[go_sem,hik,hl]<;>omega)),by omega,by first|omega|(dsimp only;omega)⟩
 ·have he:i=K':=Classical.byContradiction fun hn=>by rw[if_neg hn] at c0;simp at c0
  subst he;refine dh (sm ?_);exact h.hlv _
structure Wl(n:Nat)(g:Nat->Row)(u:Int)(K:Nat)(x:Nat->Nat):Prop where
 first:gX n g u=if 0=K then-1 else(x 0:Int)
 lt: ∀i,i<K->x i<n
 mid: ∀i,i+1<K->(g (x i)).Parent≠0/\gX n g (g (x i)).Parent=(x (i+1):Int)
 fin: ∀i,i+1=K->(g (x i)).Parent≠0->gX n g (g (x i)).Parent= -1
theorem cat_fun{f:Nat->Int}{k:Nat}{ds:List D}(h:ds.take 1=encI (f k)){q:Nat}(hq:q<k+1):aX k (fun q=>encI (f q)) (rowsOf 1 ds) q=encI (f q):=by
 unfold aX;split
 ·rfl
 ·have:q=k:=by omega
  subst this;simp[rowsOf,h]
theorem NY(σ:List aC)(c:Option Nat)(n:Nat)(g:Nat->Row)(u:Int)(K':Nat)(x:Nat->Nat)(hP:Wl n g u K' x)(hn:n<1000000000)(hK:K'<1000000000):ay prog 402 [.d (SL c 3 Row.enc n g),.d (I u)] σ (.d (SL none 1 encI K' (fun i=>(g (x i)).Unit))):=by
 refine ay.be func402 fun hwf=> ?_;refine ak fun K hK=>sm ?_;refine hK _ ?_;refine ak fun K hK=>sm ?_;refine hK _ ?_;refine Tz σ.length 1 (fun i=>encI (g (x i)).Unit) (by simp[go_sem]) (by simp[go_sem];rfl) ?_;refine aK ?_;refine ak fun K hK=>sm ?_;have hcl:=nP (pK (σ++[.var [.ms (σ.length+1) 1 0 0],.arr 1 0 (fun i=>encI (g (x i)).Unit)]) c n g u);refine aW.gen hcl ?_;rintro r σ' X ⟨rfl,rfl,rfl⟩;simp[go_sem];refine hK _ ?_;refine aN ?_;refine xR rfl [(5,.ptr σ.length 0)] (by simp[go_sem]) ?_;intro La hLa;have lQ: ∀i,i<K'->YS prog (σ.length+4) [.agg ((g (x i)).enc.map .d)] (σ++[.var [.ms (σ.length+1) 1 0 i],.arr 1 i (fun q=>encI (g (x q)).Unit),.var [.d (SL c 3 Row.enc n g)],.var [.d (I u)],.lp La .ready none]) (fun r σ' X=>X=[σ.length+1]/\r= .d (B true)/\σ'=σ++[.var [.ms (σ.length+1) 1 0 (i+1)],.arr 1 (i+1) (fun q=>encI (g (x q)).Unit),.var [.d (SL c 3 Row.enc n g)],.var [.d (I u)],.lp La .ready none]):=by
  intro i hi;refine YS.UL (L:=La) (pd:=none) (by simp[go_sem]) (by rw[hLa];rfl) ?_;intro hwf';have eN:=congrArg jo.N hLa;have et:=congrArg jo.t hLa;have ep:=congrArg jo.ps hLa;have ea:=congrArg jo.assign hLa;have eb:=congrArg jo.body hLa;dsimp only at eN et ep ea eb;have h1:cO [σ.length+1] La.t=La.t:=by rw[et];simp[cO,AV.avoids]
  rw[eN,et,ep,ea,eb];clear eN et ep ea eb hLa hcl;refine aQ fun K hK=> ?_;simp[go_sem,St.NV];refine hK _ ?_;simp[I7,go_sem,mY];refine aN ?_;refine G9 ?_;refine aQ fun K hK=> ?_;simp[go_sem,hwf.one,h1];repeat refine⟨by omega,?_⟩
  refine hK _ ?_;refine⟨_,WQ (σ.length+1) (fun q=>encI (g (x q)).Unit) (by simp[go_sem];exact⟨rfl,rfl,rfl⟩) (by exact fun q hq=>cat_fun (f:=fun q=>(g (x q)).Unit) rfl hq) (by simp[go_sem];rfl),?_⟩;simp[go_sem,Ec,Ey,mY,rF];exact au (by simp[go_sem])
 have hR:Ways (fun i=>σ++[.var [.ms (σ.length+1) 1 0 i],.arr 1 i (fun q=>encI (g (x q)).Unit),.var [.d (SL c 3 Row.enc n g)],.var [.d (I u)],.lp La .ready none]) c n g u K' x true (σ.length+4) (σ.length+2) (σ.length+3) (σ.length+1):=by
  refine⟨fun i=>by simp[go_sem],fun i=>by simp[go_sem],fun i=>by simp[go_sem],fun i=>by simp[go_sem],fun i=>au (by simp[go_sem]),fun i=>au (by simp[go_sem]),fun i=>by simp,by omega,by omega,by omega,hP.first,hP.lt,hP.mid,fun i hi=>lQ i (by omega),fun i hi=>lQ i (by omega),fun i hi _=>hP.fin i hi⟩
 have h3:=jQ σ _ c n g u K' x true _ _ _ _ hR hn;refine CS.mono (Q:=fun r σ' X'=>X'=[σ.length+1]/\r= .eX []/\σ'=_) (by simpa[go_sem] using h3) ?_;rintro r σ' X ⟨rfl,rfl,rfl⟩;clear h3 hR lQ hLa hcl;refine⟨σ++[.var [.ms (σ.length+1) 1 0 K'],.arr 1 K' (fun q=>encI (g (x q)).Unit),.var [.d (SL c 3 Row.enc n g)],.var [.d (I u)]],La,.ready,none,by simp[go_sem],au (by simp[go_sem]),by simp,by simp[mY],?_⟩;simp[Sz,go_sem,cO,AV.avoids,dK];refine ak fun K hK=>sm ?_;refine hK _ ?_;refine aF hwf (σ.length+1) ?_;exact aj sc
def lV(g:Nat->Int):Nat->Bool
 |0=>true
 |1=>true
 |i+2=>lV g (i+1)&&decide (g i<g (i+1))
theorem Hg(g:Nat->Int): ∀n,lV g n=true↔∀i,0<i->i<n->g (i-1)<g i
 |0=>by simp[lV]
 |1=>by simp only[lV,true_iff];intro i h1 h2;omega
 |n+2=>by
  rw[lV,Bool.and_eq_true,Hg g (n+1)];constructor
  ·rintro⟨h1,h2⟩ i hp hi;by_cases he:i=n+1
   ·subst he;simpa using h2
   ·exact h1 i hp (by omega)
  ·intro h;exact⟨fun i hp hi=>h i hp (by omega),by simpa using h (n+1) (by omega) (by omega)⟩
theorem AY{g:Nat->Int}{i:Nat}(hx: ∀q,0<q->q<i->g (q-1)<g q)(h:0<i->g (i-1)<g i): ∀q,0<q->q<i+1->g (q-1)<g q:=by
 intro q hp hq;by_cases hqi:q=i
 ·subst hqi;exact h hp
 ·exact hx q hp (by omega)
theorem Hf{g:Nat->Int}{n:Nat}(h: ∀q,0<q->q<n->g (q-1)<g q):lV g n=true:=(Hg g n).2 h
theorem P6{g:Nat->Int}{n i:Nat}(hi:i<n)(hp:0<i)(h:g i<=g (i-1)):lV g n=false:=by
 cases hb:lV g n with
 |false=>rfl
 |true=>have:=(Hg g n).1 hb i hp hi;omega
theorem En(c:Option Nat)(n:Nat)(g:Nat->Int)(hn:n<1000000000):ay prog 221 [.d (SL c 1 encI n g)] σ (.d (B (lV g n))):=by
 refine ay.bs true func221 fun hwf=> ?_;refine gy (α:=Nat) true [0,5,6] (fun i=>[(6,.d (I i))]) (fun i=>_) (fun i=>i<=n/\∀q,0<q->q<i->g (q-1)<g q) (fun i=>n-i) 0 ?_;rintro i ⟨hi,hx⟩;simp[go_sem];refine aH [0,5,6] ?_ ?_<;>intro c0 d0
 ·simp[go_sem];refine T.dr 14 fun K hK=> ?_;simp[go_sem,aZ (i:=i) (by omega)];repeat refine⟨by omega,?_⟩
  refine hK _ ?_;refine go true ?_;simp[go_sem];refine aH [0,5,6] ?_ ?_<;>intro c1 d1
  ·simp[go_sem];rw[P6 d0 d1.1 d1.2];exact aj sc
  ·simp(disch:=first|omega|simp) [go_sem,aA];refine dB (i+1) ⟨by omega,AY hx d1⟩ (h:=by simp[go_sem]<;>omega)
 ·obtain rfl:i=n:=by omega
  simp[go_sem];refine go true ?_;simp[go_sem];rw[Hf hx];exact aj sc
end Go.Proofs.YthlhlnbcjlpigaaGreatDoor
namespace Go.Proofs.YthlhlnbcjlpigaaGreatDoor
open Go.aU Go.bY
theorem aam: ∀(n K:Nat) (x:Nat->Nat),(∀i,i<K->x i<n)->(∀i j,i<j->j<K->x i≠x j)->K<=n
 |0,K,x,h1,_=>by
  cases K with
  |zero=>omega
  |succ K=>exact absurd (h1 0 (by omega)) (by omega)
 |n+1,K,x,h1,h2=>by
  by_cases he: ∃i,i<K/\x i=n
  ·obtain⟨i,hi,hx⟩:=he;have:=aam n (K-1) (fun k=>if k<i then x k else x (k+1)) (fun k hk=>by
    by_cases hki:k<i
    ·simp only[hki,if_true];have:=h1 k (by omega);have:=h2 k i hki hi;omega
    ·simp only[hki,if_false];have:=h1 (k+1) (by omega);have:=h2 i (k+1) (by omega) (by omega);omega) (fun a b hab hb=>by
    by_cases ha:a<i
    ·by_cases hbi:b<i
     ·simp only[ha,hbi,if_true];exact h2 a b hab (by omega)
     ·simp only[ha,hbi,if_true,if_false];exact h2 a (b+1) (by omega) (by omega)
    ·simp only[ha,show ¬b<i by omega,if_false];exact h2 (a+1) (b+1) (by omega) (by omega))
   omega
  ·have:=aam n K x (fun k hk=>by
    have:=h1 k hk;have:x k≠n:=fun h=>he ⟨k,hk,h⟩;omega) h2
   omega
def parI(n:Nat)(g:Nat->Row)(i:Nat):Nat:=(gX n g (g i).Parent).toNat
def eP(n:Nat)(g:Nat->Row)(i:Nat):Nat->Nat
 |0=>i
 |k+1=>parI n g (eP n g i k)
theorem IZ(n:Nat)(g:Nat->Row)(i a:Nat): ∀b,eP n g i (a+b)=eP n g (eP n g i a) b
 |0=>rfl
 |b+1=>by rw[←Nat.add_assoc,eP,IZ n g i a b,eP]
def rowOk(r:Row):Bool:=yK r.Unit&&decide (0<=r.Parent)&&decide (r.Parent<=1073741824)&&decide (0<=r.fK)&&decide (r.fK<=1073741824)
def CP(g:Nat->Row)(i:Nat):Int:=if rowOk (g i)=false then 2 else if 0<i/\(g i).Unit<=(g (i-1)).Unit then 5 else 0
def IB(n:Nat)(g:Nat->Row)(i:Nat):Int:=if(g i).Parent≠0/\gX n g (g i).Parent<0 then 7 else 0
def Cyc(n:Nat)(g:Nat->Row)(i:Nat):Prop:= ∀k,k<=n->(g (eP n g i k)).Parent≠0
open Classical in
noncomputable def dH(n:Nat)(g:Nat->Row):Int:=
 if 256<n then 8 else if aI (CP g) 0 n≠0 then aI (CP g) 0 n else if aI (IB n g) 0 n≠0 then aI (IB n g) 0 n
 else if ∃i,i<n/\Cyc n g i then 17 else 0
theorem findR_lt(n:Nat)(g:Nat->Row)(u:Int):gX n g u<n:=qB _ n g
theorem Gq{n:Nat}{g:Nat->Row}{u:Int}(h:0<=gX n g u):(gX n g u).toNat<n/\(g (gX n g u).toNat).Unit=u/\gX n g u=((gX n g u).toNat:Int):=by
 have h1:=findR_lt n g u;refine⟨by omega,?_,by omega⟩;rcases o7 (fun r:Row=>r.Unit==u) (lst n g) 0 with⟨h2,_⟩|⟨q,h2,h3,x,h4,h5,_⟩
 ·unfold gX at h;omega
 ·have e:(gX n g u).toNat=q:=by unfold gX;rw[h3];omega
  rw[bP] at h2;rw[xg h2] at h4;rw[e];cases h4;simpa using h5
theorem findR_ge(n:Nat)(g:Nat->Row)(u:Int): -1<=gX n g u:=by
 rcases o7 (fun r:Row=>r.Unit==u) (lst n g) 0 with⟨h2,_⟩|⟨q,h2,h3,_⟩<;>unfold gX<;>omega
structure Good(n:Nat)(g:Nat->Row):Prop where
 le:n<=256
 ok: ∀i,i<n->rowOk (g i)=true
 asc: ∀i j,j<i->i<n->(g j).Unit<(g i).Unit
 par: ∀i,i<n->(g i).Parent≠0->0<=gX n g (g i).Parent
theorem good_of{n:Nat}{g:Nat->Row}(h0:n<=256)(h1:aI (CP g) 0 n=0)(h2:aI (IB n g) 0 n=0):Good n g:=by
 have he: ∀i,i<n->rowOk (g i)=true/\(0<i->(g (i-1)).Unit<(g i).Unit):=fun i hi=>by
  have:=iM h1 i (by omega) (by omega);unfold CP at this;split at this
  ·omega
  ·rename_i h1;split at this
   ·omega
   ·exact⟨by simpa using h1,fun hp=>by omega⟩
 refine⟨h0,fun i hi=>(he i hi).1,?_,fun i hi hp=> ?_⟩
 ·intro i;induction i with
  |zero=>intro j hj;omega
  |succ i ih=>
   intro j hj hi;have h1:=(he (i+1) hi).2 (by omega);simp only[Nat.add_sub_cancel] at h1;rcases Nat.lt_or_eq_of_le (Nat.le_of_lt_succ hj) with h|h
   ·have:=ih j h (by omega);omega
   ·rw[h];exact h1
 ·have:=iM h2 i (by omega) (by omega);unfold IB at this;split at this
  ·omega
  ·rename_i h;omega
theorem Good.find{n:Nat}{g:Nat->Row}(h:Good n g){i:Nat}(hi:i<n):gX n g (g i).Unit=(i:Int):=by
 have h1:0<=gX n g (g i).Unit:=by
  rcases o7 (fun r:Row=>r.Unit==(g i).Unit) (lst n g) 0 with⟨h2,h3⟩|⟨q,h2,h3,_⟩
  ·have:=h3 (g i) (by simp only[lst,List.mem_map,List.mem_range];exact⟨i,hi,rfl⟩);simp at this
  ·unfold gX;omega
 obtain⟨h2,h3,h4⟩:=Gq h1;rw[h4];congr 1
 rcases Nat.lt_trichotomy (gX n g (g i).Unit).toNat i with h5|h5|h5
 ·have:=h.asc _ _ h5 hi;omega
 ·exact h5
 ·have:=h.asc _ _ h5 h2;omega
theorem Good.wu{n:Nat}{g:Nat->Row}(h:Good n g){i:Nat}(hi:i<n): ∀k,(∀q,q<k->(g (eP n g i q)).Parent≠0)->eP n g i k<n
 |0,_=>hi
 |k+1,hk=>by
  have h1:=h.wu hi k fun q hq=>hk q (by omega);rw[eP,parI];exact(Gq (h.par _ h1 (hk k (by omega)))).1
theorem Good.EK{n:Nat}{g:Nat->Row}(h:Good n g){i:Nat}(hi:i<n){k:Nat}(hk: ∀q,q<=k->(g (eP n g i q)).Parent≠0):gX n g (g (eP n g i k)).Parent=(eP n g i (k+1):Int)/\(g (eP n g i (k+1))).Unit=(g (eP n g i k)).Parent:=by
 have h1:=h.wu hi k fun q hq=>hk q (by omega);have h2:=Gq (h.par _ h1 (hk k (by omega)));exact⟨h2.2.2,h2.2.1⟩
theorem Yn{p:Nat->Prop} : ∀(k:Nat),p k->∃q,q<=k/\p q/\∀r,r<q->¬p r
 |0,h=>⟨0,by omega,h,fun r hr=>by omega⟩
 |k+1,h=>by
  by_cases h0: ∃r,r<=k/\p r
  ·obtain⟨r,hr,hp⟩:=h0;obtain⟨q,h1,h2,h3⟩:=Yn (p:=fun j=>p j/\j<=r) r ⟨hp,by omega⟩;exact⟨q,by omega,h2.1,fun j hj hpj=>h3 j hj ⟨hpj,by omega⟩⟩
  ·exact⟨k+1,by omega,h,fun r hr hp=>h0 ⟨r,by omega,hp⟩⟩
theorem Good.ends{n:Nat}{g:Nat->Row}(h:Good n g){i:Nat}(hi:i<n){k:Nat}(hk:(g (eP n g i k)).Parent=0): ∃K,K<n/\K<=k/\(g (eP n g i K)).Parent=0/\∀q,q<K->(g (eP n g i q)).Parent≠0:=by
 obtain⟨K,h1,h2,h3⟩:=Yn (p:=fun k=>(g (eP n g i k)).Parent=0) k hk;refine⟨K,?_,h1,h2,h3⟩;have:=aam n (K+1) (eP n g i) (fun q hq=>h.wu hi q fun r hr=>h3 r (by omega)) (fun a b hab hb he=>by
  have e1:=IZ n g i b (K-b);have e2:=IZ n g i a (K-b);rw[←he,←e2,show b+(K-b)=K by omega] at e1;rw[e1] at h2;exact h3 _ (by omega) h2)
 omega
theorem Ru{n:Nat}{g:Nat->Row}(h:dH n g=0):Good n g/\∀i,i<n->∃K,K<n/\(g (eP n g i K)).Parent=0/\∀q,q<K->(g (eP n g i q)).Parent≠0:=by
 unfold dH at h;split at h
 ·omega
 rename_i h0;split at h
 ·omega
 rename_i h1;split at h
 ·omega
 rename_i h2;split at h
 ·omega
 rename_i h3;have hg:=good_of (by omega) (Decidable.not_not.1 h1) (Decidable.not_not.1 h2);refine⟨hg,fun i hi=> ?_⟩;apply Classical.byContradiction;intro hn;refine h3 ⟨i,hi,fun k hk he=> ?_⟩;obtain⟨K,h4,_,h5,h6⟩:=hg.ends hi he;exact hn ⟨K,h4,h5,h6⟩
def fZ(n:Nat)(g:Nat->Row)(u:Int):Nat->Nat:=eP n g (gX n g u).toNat
noncomputable def qQ(n:Nat)(g:Nat->Row)(u:Int):Nat:=Classical.epsilon fun K=>K<=n/\Wl n g u K (fZ n g u)
theorem ZI{n:Nat}{g:Nat->Row}(h:dH n g=0)(u:Int):qQ n g u<=n/\Wl n g u (qQ n g u) (fZ n g u):=by
 obtain⟨hg,hc⟩:=Ru h;refine Classical.epsilon_spec (p:=fun K=>K<=n/\Wl n g u K (fZ n g u)) ?_;by_cases hf:0<=gX n g u
 ·obtain⟨h1,h2,h3⟩:=Gq hf;obtain⟨K,h4,h5,h6⟩:=hc _ h1;refine⟨K+1,by omega,?_,fun i hi=>hg.wu h1 i fun q hq=>h6 q (by omega),fun i hi=>⟨h6 i (by omega),(hg.EK h1 fun q hq=>h6 q (by omega)).1⟩,fun i hi he=> ?_⟩
  ·rw[if_neg (by omega)];exact h3
  ·obtain rfl:i=K:=by omega
   exact absurd h5 he
 ·have:=findR_ge n g u;refine⟨0,by omega,by rw[if_pos rfl];omega,fun i hi=>by omega,fun i hi=>by omega,fun i hi=>by omega⟩
end Go.Proofs.YthlhlnbcjlpigaaGreatDoor
