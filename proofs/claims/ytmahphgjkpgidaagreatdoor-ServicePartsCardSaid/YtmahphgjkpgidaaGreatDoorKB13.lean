/- Contracts and lemmas, joined out of smaller texts by a program; no conditions. -/
import Derived.Test.YtmahphgjkpgidaaGreatDoorKB5
set_option linter.unusedVariables false
set_option linter.unusedSimpArgs false
set_option maxHeartbeats 400000
set_option maxRecDepth 100000
namespace Go.Proofs.YtmahphgjkpgidaaGreatDoor
open Go.aU Go.dh Go.Proofs.Tryz
variable (σ : List aG)
structure jW where
 ID:Int
 fP:Int
 Until:Int
 Strict:Bool
 In:Span
instance:Inhabited jW:=⟨⟨0,0,0,false,⟨0,0⟩⟩⟩
def jW.enc(r:jW):List D:=[I r.ID,I r.fP,I r.Until,B r.Strict,I r.In.From,I r.In.Until]
instance:Inhabited Ground:=⟨⟨0,0,0,0⟩⟩
attribute [go_sem] jW.enc
def aQ(e:Nat->Int)(i:Nat):Nat->Int
 |0=>0
 |k+1=>if e i≠0 then e i else aQ e (i+1) k
theorem wz{e:Nat->Int} : ∀{k i:Nat},aQ e i k=0->∀q,i<=q->q<i+k->e q=0
 |0,i,_,q,h1,h2=>by omega
 |k+1,i,h,q,h1,h2=>by
  rw[aQ] at h;by_cases he:e i=0
  ·rw[if_neg (by simp[he])] at h;by_cases hq:q=i
   ·rw[hq];exact he
   ·exact wz h q (by omega) (by omega)
  ·rw[if_pos he] at h;exact absurd h he
theorem Lh{e:Nat->Int} : ∀{k i:Nat},(∀q,i<=q->q<i+k->e q=0)->aQ e i k=0
 |0,i,_=>rfl
 |k+1,i,h=>by
  rw[aQ,if_neg (by simp[h i (by omega) (by omega)])];exact Lh fun q h1 h2=>h q (by omega) (by omega)
def agrOk(a:jW):Bool:=decide (1<=a.ID)&&decide (a.ID<=1073741824)&&decide (1<=a.fP)&&decide (a.fP<=1073741824)&&decide (0<=a.Until)&&decide (a.Until<=1048576)&&yM a.In
def Yf(g:Nat->jW)(i:Nat):Int:=if agrOk (g i)=false then 2 else if 0<i/\(g i).ID<=(g (i-1)).ID then 5 else 0
def lC(n:Nat)(g:Nat->jW):Int:=if 64<n then 8 else aQ (Yf g) 0 n
theorem tu(a:jW):aA prog 188 [.agg (a.enc.map .d)] σ (.d (B (agrOk a))):=by
 refine aA.bs true func188 fun hwf=> ?_;refine aj ?_;simp[go_sem,agrOk,yM,Bool.and_assoc]<;>omega
theorem jV(c:Option Nat)(n:Nat)(g:Nat->jW)(hn:n<1000000000):aA prog 126 [.d (SL c 6 jW.enc n g)] σ (.d (I (lC n g))):=by
 refine aA.bs true func126 fun hwf=> ?_;refine aJ [0] ?_ ?_<;>intro c0 d0
 ·simp[go_sem];refine aj ?_;simp[go_sem,lC]<;>omega
 ·simp[go_sem];refine kQ (α:=Nat) true [0,8,9,10] (fun i=>[(10,.d (I i))]) (fun i=>_) (fun i=>i<=n/\aQ (Yf g) 0 n=aQ (Yf g) i (n-i)) (fun i=>n-i) 0 ?_;rintro i ⟨hi,hx⟩;simp[go_sem];refine aJ [0,8,9,10] ?_ ?_<;>intro c1 d1
  ·obtain⟨k,hk⟩: ∃k,n-i=k+1:=⟨n-i-1,by omega⟩;have hk':n-(i+1)=k:=by omega
   rw[hk,aQ] at hx;simp[go_sem];repeat refine⟨by omega,?_⟩
   refine aO.mk (tu _ _) ?_;simp[go_sem];refine aJ [0,3,4,8,9,10] ?_ ?_<;>intro c2 d2
   ·have he:Yf g i=2:=by unfold Yf;rw[if_pos d2]
    rw[he] at hx;simp at hx;simp[go_sem];refine aj ?_;simp[go_sem,lC,hx]<;>omega
   ·simp[go_sem];refine T.dr 14 fun K hK=> ?_;simp[go_sem,dn (i:=i) (by omega)];repeat refine⟨by omega,?_⟩
    refine hK _ ?_;refine go true ?_;simp[go_sem];refine aJ [0,8,9,10] ?_ ?_<;>intro c3 d3
    ·have he:Yf g i=5:=by unfold Yf;rw[if_neg (by simp[d2]),if_pos d3]
     rw[he] at hx;simp at hx;simp[go_sem];refine aj ?_;simp[go_sem,lC,hx]<;>omega
    ·have he:Yf g i=0:=by unfold Yf;rw[if_neg (by simp[d2]),if_neg (by omega)]
     rw[he] at hx;simp at hx;simp(disch:=first|omega|simp) [go_sem,aH];refine gB (i+1) ⟨by omega,by rw[hx,hk']⟩ (h:=by simp[go_sem]<;>omega)
  ·obtain rfl:i=n:=by omega
   rw[Nat.sub_self,aQ] at hx;simp[go_sem];refine go true ?_;simp[go_sem];refine aj ?_;simp[go_sem,lC,hx]<;>omega
theorem WL(c:Option Nat)(n:Nat)(g:Nat->jW):aA prog 61 [.d (SL c 6 jW.enc n g)] σ (.d (B (decide ((n:Int)<=20)))):=by
 refine aA.bs true func61 fun hwf=> ?_;exact aj so
def agrCl(a:jW)(k d:Int):Bool:=agrOk a&&(a.fP==k)&&decide (a.In.From<=d)&&decide (d<a.In.Until)&&decide (d<a.Until)
theorem EP(a:jW)(k d:Int):aA prog 296 [.agg (a.enc.map .d),.d (I k),.d (I d)] σ (.d (B (agrCl a k d))):=by
 refine aA.bs true func296 fun hwf=> ?_;refine aO.mk (tu _ a) (sm ?_);refine aj ?_;simp[go_sem,agrCl]<;>omega
theorem JZ(a:jW):aA prog 295 [.agg (a.enc.map .d)] σ (.d (I (min a.Until a.In.Until))):=by
 refine aA.bs true func295 fun hwf=> ?_;exact aj so
def gather{β:Type}(f:Nat->List β):Nat->List β
 |0=>[]
 |i+1=>gather f i++f i
theorem nJ{β:Type}{f:Nat->List β}(h: ∀i,(f i).length<=1): ∀i,(gather f i).length<=i
 |0=>by simp[gather]
 |i+1=>by have:=nJ h i;have:=h i;simp only[gather,List.length_append];omega
def VO(a:jW):Ground:=⟨3,a.ID,0,min a.Until a.In.Until⟩
def wK(g:Nat->jW)(k d:Int)(i:Nat):List Ground:=if agrCl (g i) k d=true then[VO (g i)] else[]
theorem VN(g:Nat->jW)(k d:Int)(i:Nat):(wK g k d i).length<=1:=by unfold wK;split<;>simp
def DL(n:Nat)(g:Nat->jW)(k d:Int):List Ground:=if lC n g≠0 then[] else gather (wK g k d) n
def strP(k:Int)(a:jW):Bool:=(a.ID==k)&&a.Strict
def agrStr(n:Nat)(g:Nat->jW)(k:Int):Bool:=decide (lC n g=0)&&(lst n g).any (strP k)
def YN(g:Nat->jW)(k d:Int):Nat->Int
 |0=>d
 |i+1=>if agrCl (g i) k d=true then max (YN g k d i) (min (g i).Until (g i).In.Until) else YN g k d i
def WY(n:Nat)(g:Nat->jW)(k d:Int):Int:=if h:d<YN g k d n/\YN g k d n<=1048576 then WY n g k (YN g k d n) else d
termination_by (1048576-d).toNat
decreasing_by omega
theorem ZW(c:Option Nat)(n:Nat)(g:Nat->jW)(f:FuncId)(cap:List AV)(p:jW->Bool)(hn:n<1000000000)(hf: ∀i,i<n->aA prog f (.agg ((g i).enc.map .d)::cap) σ (.d (B (p (g i))))):aA prog 208 [.d (SL c 6 jW.enc n g),.clo (.func f) [] cap] σ (.d (I (idxFrom p (lst n g) 0))):=by
 refine aA.bs true func208 fun hwf=> ?_;refine kQ (α:=Nat) true [0,1,7,8] (fun i=>[(8,.d (I i))]) (fun i=>_) (fun i=>i<=n/\idxFrom p (lst n g) 0=idxFrom p ((lst n g).drop i) i) (fun i=>n-i) 0 ?_;rintro i ⟨hi,hx⟩;simp[go_sem];refine aJ [0,1,7,8] ?_ ?_<;>intro c0 d0
 ·rw[gX d0,idxFrom] at hx;simp[go_sem];repeat refine⟨by omega,?_⟩
  refine aO.mk (hf i d0) (sm ?_);refine aJ [0,1,5,7,8] ?_ ?_<;>intro c1 d1
  ·simp[go_sem];refine aj ?_;simp[go_sem,hx,c1]<;>omega
  ·simp(disch:=first|omega|simp) [go_sem,aH];refine gB (i+1) ⟨by omega,by rw[hx,c1];simp⟩ (h:=by simp[go_sem]<;>omega)
 ·rw[gY d0,idxFrom] at hx;simp[go_sem];refine go true (sm ?_);refine aj ?_;simp[go_sem,hx]<;>omega
theorem SH(c:Option Nat)(n:Nat)(g:Nat->jW)(f:FuncId)(cap:List AV)(p:jW->Bool)(hn:n<1000000000)(hf: ∀i,i<n->aA prog f (.agg ((g i).enc.map .d)::cap) σ (.d (B (p (g i))))):aA prog 133 [.d (SL c 6 jW.enc n g),.clo (.func f) [] cap] σ (.d (B ((lst n g).any p))):=by
 refine aA.bs true func133 fun hwf=> ?_;refine aO.mk (ZW _ c n g f cap p hn hf) (sm ?_);refine aj ?_;simp[go_sem,mY]<;>omega
theorem zK(a:jW):aA prog 294 [.agg (a.enc.map .d)] σ (.agg ((VO a).enc.map .d)):=by
 refine aA.bs true func294 fun hwf=> ?_;refine T.dr 5 fun K hK=>sm ?_;refine dF.mk (JZ _ _) (sm ?_);refine hK _ ?_;refine go true (sm ?_);refine aj ?_;simp[go_sem,VO]<;>omega
theorem DK(c:Option Nat)(n:Nat)(g:Nat->jW)(k d:Int)(hn:n<1000000000):aA prog 203 [.d (SL c 6 jW.enc n g),.d (I k),.d (I d)] σ (.d (SL none 4 Ground.enc (DL n g k d).length (nth (DL n g k d)))):=by
 refine aA.bs false func203 fun hwf=> ?_;refine go false (sm ?_);refine aO.mk (jV _ _ _ _ (by first|assumption|exact aC (by assumption)|omega|simp_all)) (sm ?_);refine go false (sm ?_);refine aJ [0,1,2] ?_ ?_<;>intro c0 d0
 ·have hz:DL n g k d=[]:=by unfold DL;rw[if_pos d0]
  simp[go_sem];refine go true (sm ?_);rw[hz];exact aj sc
 ·have hz:DL n g k d=gather (wK g k d) n:=by unfold DL;rw[if_neg (by simp[d0])]
  simp[go_sem];refine go false (sm ?_);refine dG 8 4 (fun i=>Ground.enc (nth ([]:List Ground) i)) (by simp[go_sem]) (by simp[go_sem];rfl) ?_;refine go false (sm ?_);refine go true (sm ?_);refine lpU (α:=Nat) false [1,2,7,8,14,15,16] [σ.length] (fun i=>[(8,.ms σ.length 4 0 (gather (wK g k d) i).length),(16,.d (I i))]) (fun i=>σ++[.arr 4 (gather (wK g k d) i).length (fun q=>Ground.enc (nth (gather (wK g k d) i) q))]) (fun i=>i<=n) (fun i=>n-i) 0 (by simp[go_sem,gather]) (rfl) (by simp) (by simp) ?_;rintro i hi;simp[go_sem];refine go false (sm ?_);refine aJ [1,2,7,8,14,15,16] ?_ ?_<;>intro c1 d1
  ·have hl:=nJ (VN g k d) i;simp[go_sem];repeat refine⟨by omega,?_⟩
   refine go false (sm ?_);refine aO.mk (EP _ _ _ _) (sm ?_);refine go false (sm ?_);refine aJ [1,2,7,8,10,14,15,16] ?_ ?_<;>intro c2 d2
   ·have ha:gather (wK g k d) (i+1)=gather (wK g k d) i++[VO (g i)]:=by rw[gather,wK,if_pos c2]
    simp[go_sem];refine aO.mk (zK _ (g i)) ?_;simp[go_sem,hwf.zero];repeat refine⟨by omega,?_⟩
    refine aY σ.length (fun q=>Ground.enc (nth (gather (wK g k d) i++[VO (g i)]) q)) (by simp[go_sem];exact⟨rfl,rfl,rfl⟩) (by exact fun q hq=>Ei (enc:=Ground.enc) (x:=VO (g i)) rfl hq) (by simp[go_sem];rfl) ?_;refine go false ?_;simp(disch:=first|omega|simp) [go_sem,aH];refine gB (i+1) (by omega) (h:=by simp[go_sem,ha]<;>omega) (hσ:=by simp[go_sem,ha]) (hb:=au (by simp[go_sem]))
   ·have ha:gather (wK g k d) (i+1)=gather (wK g k d) i:=by rw[gather,wK,if_neg (by simp[c2])];simp
    simp(disch:=first|omega|simp) [go_sem,aH];refine gB (i+1) (by omega) (h:=by simp[go_sem,ha]<;>omega) (hσ:=by simp[go_sem,ha]) (hb:=au (by simp[go_sem]))
  ·obtain rfl:i=n:=by omega
   simp[go_sem];refine go true (sm ?_);refine bK (σ.length) (by simp[go_sem];exact⟨rfl,rfl,rfl⟩) (by simp[go_sem];rfl) (by simp[go_sem,hwf.sZ,hwf.qH];rfl) ?_;rw[hz];exact aj sc
theorem AX(τ:List aG)(a:jW)(k:Int):aA prog 134 [.agg (a.enc.map .d),.ptr σ.length 0] (σ++ .var [.d (I k)]::τ) (.d (B (strP k a))):=by
 refine aA.bs true func134 fun hwf=> ?_;refine aj ?_;simp[go_sem,strP]<;>omega
theorem EO(c:Option Nat)(n:Nat)(g:Nat->jW)(k:Int)(hn:n<1000000000):aA prog 101 [.d (SL c 6 jW.enc n g),.d (I k)] σ (.d (B (agrStr n g k))):=by
 refine aA.bs true func101 fun hwf=> ?_;refine aO.mk (jV _ _ _ _ (by first|assumption|exact aC (by assumption)|omega|simp_all)) (sm ?_);refine fM.mk (SH _ c n g _ _ (strP k) hn (fun i hi=>AX σ [] (g i) k)) (sm ?_);refine aj ?_;simp[go_sem,agrStr];rfl
structure jG where
 ID:Int
 Reader:Int
 Unit:Int
 Kinds:Int
 In:Span
instance:Inhabited jG:=⟨⟨0,0,0,0,⟨0,0⟩⟩⟩
def jG.enc(r:jG):List D:=[I r.ID,I r.Reader,I r.Unit,I r.Kinds,I r.In.From,I r.In.Until]
def encI(x:Int):List D:=[I x]
attribute [go_sem] jG.enc encI
def IY(n:Int):Bool:=decide (1<=n)&&decide (n<=1073741824)
def MC(a:jG):Bool:=IY a.ID&&IY a.Reader&&IY a.Unit&&decide (1<=a.Kinds)&&decide (a.Kinds<=7)&&yM a.In
def QL(g:Nat->jG)(i:Nat):Int:=if MC (g i)=false then 2 else if 0<i/\(g i).ID<=(g (i-1)).ID then 5 else 0
def kT(n:Nat)(g:Nat->jG):Int:=if 64<n then 8 else aQ (QL g) 0 n
theorem yS(n:Int):aA prog 284 [.d (I n)] σ (.d (B (IY n))):=by
 refine aA.bs true func284 fun hwf=> ?_;refine aj ?_;simp[go_sem,IY]<;>omega
theorem yQ(n:Int):aA prog 67 [.d (I n)] σ (.d (B (IY n))):=by
 refine aA.bs true func67 fun hwf=> ?_;refine aj ?_;simp[go_sem,IY]<;>omega
theorem qE(a:jG):aA prog 189 [.agg (a.enc.map .d)] σ (.d (B (MC a))):=by
 refine aA.bs true func189 fun hwf=> ?_;refine aO.mk (yS _ _) (sm ?_);refine fM.mk (yS _ _) (sm ?_);refine fM.mk (yS _ _) (sm ?_);refine aj ?_;simp[go_sem,MC,yM,Bool.and_assoc]<;>omega
theorem mV(c:Option Nat)(n:Nat)(g:Nat->jG)(hn:n<1000000000):aA prog 127 [.d (SL c 6 jG.enc n g)] σ (.d (I (kT n g))):=by
 refine aA.bs true func127 fun hwf=> ?_;refine aJ [0] ?_ ?_<;>intro c0 d0
 ·simp[go_sem];refine aj ?_;simp[go_sem,kT]<;>omega
 ·simp[go_sem];refine kQ (α:=Nat) true [0,8,9,10] (fun i=>[(10,.d (I i))]) (fun i=>_) (fun i=>i<=n/\aQ (QL g) 0 n=aQ (QL g) i (n-i)) (fun i=>n-i) 0 ?_;rintro i ⟨hi,hx⟩;simp[go_sem];refine aJ [0,8,9,10] ?_ ?_<;>intro c1 d1
  ·obtain⟨k,hk⟩: ∃k,n-i=k+1:=⟨n-i-1,by omega⟩;have hk':n-(i+1)=k:=by omega
   rw[hk,aQ] at hx;simp[go_sem];repeat refine⟨by omega,?_⟩
   refine aO.mk (qE _ _) ?_;simp[go_sem];refine aJ [0,3,4,8,9,10] ?_ ?_<;>intro c2 d2
   ·have he:QL g i=2:=by unfold QL;rw[if_pos d2]
    rw[he] at hx;simp at hx;simp[go_sem];refine aj ?_;simp[go_sem,kT,hx]<;>omega
   ·simp[go_sem];refine T.dr 14 fun K hK=> ?_;simp[go_sem,dn (i:=i) (by omega)];repeat refine⟨by omega,?_⟩
    refine hK _ ?_;refine go true ?_;simp[go_sem];refine aJ [0,8,9,10] ?_ ?_<;>intro c3 d3
    ·have he:QL g i=5:=by unfold QL;rw[if_neg (by simp[d2]),if_pos d3]
     rw[he] at hx;simp at hx;simp[go_sem];refine aj ?_;simp[go_sem,kT,hx]<;>omega
    ·have he:QL g i=0:=by unfold QL;rw[if_neg (by simp[d2]),if_neg (by omega)]
     rw[he] at hx;simp at hx;simp(disch:=first|omega|simp) [go_sem,aH];refine gB (i+1) ⟨by omega,by rw[hx,hk']⟩ (h:=by simp[go_sem]<;>omega)
  ·obtain rfl:i=n:=by omega
   rw[Nat.sub_self,aQ] at hx;simp[go_sem];refine go true ?_;simp[go_sem];refine aj ?_;simp[go_sem,kT,hx]<;>omega
theorem WJ(c c':Option Nat)(n n':Nat)(g:Nat->jG)(g':Nat->Int):aA prog 62 [.d (SL c 6 jG.enc n g),.d (SL c' 1 encI n' g')] σ (.d (B (decide ((n:Int)<=20)&&decide ((n':Int)<=20)))):=by
 refine aA.bs true func62 fun hwf=> ?_;exact aj so
theorem indexOf_cs(c:Option Nat)(n:Nat)(g:Nat->Int)(k:Int)(hn:n<1000000000):aA prog 305 [.d (SL c 1 encI n g),.d (I k)] σ (.d (I (idxFrom (fun x=>k==x) (lst n g) 0))):=by
 refine aA.bs true func305 fun hwf=> ?_;refine kQ (α:=Nat) true [0,1,7,8] (fun i=>[(8,.d (I i))]) (fun i=>_) (fun i=>i<=n/\idxFrom (fun x=>k==x) (lst n g) 0=idxFrom (fun x=>k==x) ((lst n g).drop i) i) (fun i=>n-i) 0 ?_;rintro i ⟨hi,hx⟩;simp[go_sem];refine aJ [0,1,7,8] ?_ ?_<;>intro c0 d0
 ·rw[gX d0,idxFrom] at hx;simp[go_sem];repeat refine⟨by omega,?_⟩
  refine aJ [0,1,5,7,8] ?_ ?_<;>intro c1 d1
  ·simp[go_sem];rw[hx,if_pos c1];exact aj sc
  ·simp(disch:=first|omega|simp) [go_sem,aH];refine gB (i+1) ⟨by omega,by rw[hx,c1];simp⟩ (h:=by simp[go_sem]<;>omega)
 ·rw[gY d0,idxFrom] at hx;simp[go_sem];refine go true (sm ?_);refine aj ?_;simp[go_sem,hx]<;>omega
theorem Fv(c:Option Nat)(n:Nat)(g:Nat->Int)(k:Int)(hn:n<1000000000):aA prog 225 [.d (SL c 1 encI n g),.d (I k)] σ (.d (B ((lst n g).any fun x=>k==x))):=by
 refine aA.bs true func225 fun hwf=> ?_;refine aO.mk (indexOf_cs _ _ _ _ _ (by first|assumption|exact aC (by assumption)|omega|simp_all)) (sm ?_);refine aj ?_;simp[go_sem,mY]<;>omega
def WS(a:jG)(n:Nat)(g:Nat->Int)(d:Int):Bool:=MC a&&((lst n g).any fun x=>a.Unit==x)&&decide (a.In.From<=d)&&decide (d<a.In.Until)
theorem QN(a:jG)(c:Option Nat)(n:Nat)(g:Nat->Int)(d:Int)(hn:n<1000000000):aA prog 206 [.agg (a.enc.map .d),.d (SL c 1 encI n g),.d (I d)] σ (.d (B (WS a n g d))):=by
 refine aA.bs true func206 fun hwf=> ?_;refine aO.mk (qE _ a) (sm ?_);refine fM.mk (Fv _ c n g a.Unit hn) (sm ?_);refine aj ?_;simp[go_sem,WS]<;>omega
def kindBit(K k:Int):Int:=IntKind.i64.wrap ↑(BitVec.ofInt 64 (K.fdiv (2^min (IntKind.i64.wrap (k-1)).toNat 64))&&&1#64).toNat
def isForB(a:jG)(k:Int):Bool:=decide (1<=k)&&decide (k<=3)&&(kindBit a.Kinds k==1)
theorem OM(a:jG)(k:Int):aA prog 207 [.agg (a.enc.map .d),.d (I k)] σ (.d (B (isForB a k))):=by
 refine aA.bd true func207 fun hwf=> ?_;simp(disch:=first|omega|simp) [go_sem];refine⟨fun h1 h2=>by rw[aH (by omega) (by omega)];omega,?_⟩;refine aj (sm ?_);rfl
def covB(a:jG)(r:Int)(n:Nat)(g:Nat->Int)(k d:Int):Bool:=(a.Reader==r)&&WS a n g d&&isForB a k
theorem KT(a:jG)(r:Int)(c:Option Nat)(n:Nat)(g:Nat->Int)(k d:Int)(hn:n<1000000000):aA prog 132 [.agg (a.enc.map .d),.d (I r),.d (SL c 1 encI n g),.d (I k),.d (I d)] σ (.d (B (covB a r n g k d))):=by
 refine aA.bs true func132 fun hwf=> ?_;refine fM.mk (QN _ a c n g d hn) (sm ?_);refine fM.mk (OM _ a k) (sm ?_);refine aj ?_;simp[go_sem,covB]<;>omega
theorem MS(c:Option Nat)(n:Nat)(g:Nat->jG)(f:FuncId)(cap:List AV)(p:jG->Bool)(hn:n<1000000000)(hf: ∀i,i<n->aA prog f (.agg ((g i).enc.map .d)::cap) σ (.d (B (p (g i))))):aA prog 130 [.d (SL c 6 jG.enc n g),.clo (.func f) [] cap] σ (.d (I (idxFrom p (lst n g) 0))):=by
 refine aA.bs true func130 fun hwf=> ?_;refine kQ (α:=Nat) true [0,1,7,8] (fun i=>[(8,.d (I i))]) (fun i=>_) (fun i=>i<=n/\idxFrom p (lst n g) 0=idxFrom p ((lst n g).drop i) i) (fun i=>n-i) 0 ?_;rintro i ⟨hi,hx⟩;simp[go_sem];refine aJ [0,1,7,8] ?_ ?_<;>intro c0 d0
 ·rw[gX d0,idxFrom] at hx;simp[go_sem];repeat refine⟨by omega,?_⟩
  refine aO.mk (hf i d0) (sm ?_);refine aJ [0,1,5,7,8] ?_ ?_<;>intro c1 d1
  ·simp[go_sem];refine aj ?_;simp[go_sem,hx,c1]<;>omega
  ·simp(disch:=first|omega|simp) [go_sem,aH];refine gB (i+1) ⟨by omega,by rw[hx,c1];simp⟩ (h:=by simp[go_sem]<;>omega)
 ·rw[gY d0,idxFrom] at hx;simp[go_sem];refine go true (sm ?_);refine aj ?_;simp[go_sem,hx]<;>omega
theorem Il(τ:List aG)(a:jG)(r:Int)(c:Option Nat)(n:Nat)(g:Nat->Int)(k d:Int)(hn:n<1000000000):aA prog 131 [.agg (a.enc.map .d),.ptr σ.length 0,.ptr (σ.length+1) 0,.ptr (σ.length+2) 0,.ptr (σ.length+3) 0] (σ++ .var [.d (I r)]:: .var [.d (SL c 1 encI n g)]:: .var [.d (I k)]:: .var [.d (I d)]::τ) (.d (B (covB a r n g k d))):=by
 refine aA.bs true func131 fun hwf=> ?_;refine aO.mk (KT _ a r c n g k d hn) (sm ?_);exact aj so
def wW(N:Nat)(G:Nat->jG)(r:Int)(n:Nat)(g:Nat->Int)(k d:Int):Int×Bool:=
 if idxFrom (fun a=>covB a r n g k d) (lst N G) 0<0\/kT N G≠0 then(0,false) else((G (idxFrom (fun a=>covB a r n g k d) (lst N G) 0).toNat).ID,true)
theorem OQ(C:Option Nat)(N:Nat)(G:Nat->jG)(r:Int)(c:Option Nat)(n:Nat)(g:Nat->Int)(k d:Int)(hN:N<1000000000)(hn:n<1000000000):aA prog 100 [.d (SL C 6 jG.enc N G),.d (I r),.d (SL c 1 encI n g),.d (I k),.d (I d)] σ (.eU [.d (I (wW N G r n g k d).1),.d (B (wW N G r n g k d).2)]):=by
 have hlt:=mX (fun a=>covB a r n g k d) N G;refine aA.bs true func100 fun hwf=> ?_;refine aO.mk (MS _ C N G _ _ (fun a=>covB a r n g k d) hN (fun i hi=>Il σ [] (G i) r c n g k d hn)) (sm ?_);refine fM.mk (mV _ C N G hN) (sm ?_);refine aJ [0,12] ?_ ?_<;>intro c0 d0
 ·have hz:wW N G r n g k d=(0,false):=by unfold wW;rw[if_pos d0]
  simp[go_sem];rw[hz];exact aj sc
 ·have hz:wW N G r n g k d=((G (idxFrom (fun a=>covB a r n g k d) (lst N G) 0).toNat).ID,true):=by unfold wW;rw[if_neg (by omega)]
  simp[go_sem];repeat refine⟨by omega,?_⟩
  rw[hz];exact aj sc
def kd(k:Int):Int:=if k=1 then 1 else if k=2 then 2 else 4
structure Row where
 Unit:Int
 Parent:Int
 fP:Int
instance:Inhabited Row:=⟨⟨0,0,0⟩⟩
def Row.enc(r:Row):List D:=[I r.Unit,I r.Parent,I r.fP]
attribute [go_sem] Row.enc
def iK(n:Nat)(g:Nat->Row)(u:Int):Int:=idxFrom (fun r=>r.Unit==u) (lst n g) 0
theorem ZQ(c:Option Nat)(n:Nat)(g:Nat->Row)(f:FuncId)(cap:List AV)(p:Row->Bool)(hn:n<1000000000)(hf: ∀i,i<n->aA prog f (.agg ((g i).enc.map .d)::cap) σ (.d (B (p (g i))))):aA prog 114 [.d (SL c 3 Row.enc n g),.clo (.func f) [] cap] σ (.d (I (idxFrom p (lst n g) 0))):=by
 refine aA.bs true func114 fun hwf=> ?_;refine kQ (α:=Nat) true [0,1,7,8] (fun i=>[(8,.d (I i))]) (fun i=>_) (fun i=>i<=n/\idxFrom p (lst n g) 0=idxFrom p ((lst n g).drop i) i) (fun i=>n-i) 0 ?_;rintro i ⟨hi,hx⟩;simp[go_sem];refine aJ [0,1,7,8] ?_ ?_<;>intro c0 d0
 ·rw[gX d0,idxFrom] at hx;simp[go_sem];repeat refine⟨by omega,?_⟩
  refine aO.mk (hf i d0) (sm ?_);refine aJ [0,1,5,7,8] ?_ ?_<;>intro c1 d1
  ·simp[go_sem];refine aj ?_;simp[go_sem,hx,c1]<;>omega
  ·simp(disch:=first|omega|simp) [go_sem,aH];refine gB (i+1) ⟨by omega,by rw[hx,c1];simp⟩ (h:=by simp[go_sem]<;>omega)
 ·rw[gY d0,idxFrom] at hx;simp[go_sem];refine go true (sm ?_);refine aj ?_;simp[go_sem,hx]<;>omega
theorem kX(c:Option Nat)(n:Nat)(g:Nat->Row)(hn:n<1000000000):aA prog 12 [.d (SL c 3 Row.enc n g)] σ (.d (SL none 3 Row.enc n g)):=by
 refine aA.bd true func12 fun hwf=> ?_;simp[go_sem,-Bool.forall_bool];try intro b1 hb1
 refine fZ ?_ ?_<;>intro c0 d0
 ·simp[go_sem];refine aj ?_;have:=hb1 c0;simp[go_sem,this]
 ·simp[go_sem];repeat refine⟨by omega,?_⟩
  refine bK (σ.length) (by simp[go_sem];exact⟨rfl,rfl,rfl⟩) (by simp[go_sem];rfl) (by simp[go_sem,hwf.sZ,hwf.qH];rfl) ?_;exact aj so
theorem KO(τ:List aG)(r:Row)(u:Int):aA prog 115 [.agg (r.enc.map .d),.ptr σ.length 0] (σ++ .var [.d (I u)]::τ) (.d (B (r.Unit==u))):=by
 refine aA.bs true func115 fun hwf=> ?_;exact aj so
theorem kS(c:Option Nat)(n:Nat)(g:Nat->Row)(u:Int)(hn:n<1000000000):aA prog 68 [.d (SL c 3 Row.enc n g),.d (I u)] σ (.d (I (iK n g u))):=by
 refine aA.bs true func68 fun hwf=> ?_;refine aO.mk (ZQ _ c n g _ _ (fun r=>r.Unit==u) hn (fun i hi=>KO σ [] (g i) u)) (sm ?_);refine aj ?_;simp[go_sem,iK]<;>omega
theorem rW(c:Option Nat)(n:Nat)(g:Nat->Row)(u:Int):CS prog 69 [.d (SL c 3 Row.enc n g),.d (I u)] σ (fun r σ' X=>r= .clo (.func 116) [] [.ptr σ.length 0,.ptr (σ.length+1) 0]/\σ'=σ++[.var [.d (SL c 3 Row.enc n g)],.var [.d (I u)]]/\X=[]):=by
 refine CS.bsW true func69 fun hwf=> ?_;exact aj so
structure Ways(S:Nat->List aG)(c:Option Nat)(n:Nat)(g:Nat->Row)(u:Int)(K:Nat)(x:Nat->Nat)(t:Bool)(y a b o:Nat):Prop where
 ha: ∀i,(S i)[a]? =some (.var [.d (SL c 3 Row.enc n g)])
 ha0: ∀i,(S i)[a]? =some (.var [.d (SL c 3 Row.enc n g)])
 hb: ∀i,(S i)[b]? =some (.var [.d (I u)])
 hb0: ∀i,(S i)[b]? =some (.var [.d (I u)])
 hlv: ∀i,aU.Leaves (S 0) (S i)
 hls: ∀i,aU.Leaves (S i) (S (i+1))
 hol: ∀i,¬(S i).length=o
 hyo: ¬y=o
 hao: ¬a=o
 hbo: ¬b=o
 first:iK n g u=if 0=K then-1 else(x 0:Int)
 lt: ∀i,i<K->x i<n
 mid: ∀i,i+1<K->(g (x i)).Parent≠0/\iK n g (g (x i)).Parent=(x (i+1):Int)
 yes: ∀i,i+1<K->YS prog y [.agg ((g (x i)).enc.map .d)] (S i) (fun r σ' X=>X=[o]/\r= .d (B true)/\σ'=S (i+1))
 last: ∀i,i+1=K->YS prog y [.agg ((g (x i)).enc.map .d)] (S i) (fun r σ' X=>X=[o]/\r= .d (B t)/\σ'=S (i+1))
 fin: ∀i,i+1=K->t=true->(g (x i)).Parent≠0->iK n g (g (x i)).Parent= -1
theorem kM(σ:List aG)(S:Nat->List aG)(c:Option Nat)(n:Nat)(g:Nat->Row)(u:Int)(K':Nat)(x:Nat->Nat)(t:Bool)(y a b o:Nat)(h:Ways S c n g u K' x t y a b o)(hn:n<1000000000):CS prog 116 [.zL y,.ptr a 0,.ptr b 0] (S 0) (fun r σ' X'=>X'=[o]/\r= .eU []/\σ'=S K'):=by
 refine CS.beD [o] func116 fun hwf=> ?_;refine ak fun K hK=> ?_;simp[go_sem,h.ha,h.hb];refine aO.mk (kS _ c n g u hn) ?_;simp[go_sem];refine hK _ ?_;refine aS ?_;refine bZ [0,1,4] (by simp[go_sem,bD];rfl) ?_;refine zG [o] (by simp) ?_;refine dO (α:=Nat) (fun i=>[(4,.d (I (if i=K' then-1 else(x i:Int))))]) (fun i=>S i) (fun i=>i<=K') (fun i=>K'-i) 0 (by simp[go_sem,h.first]) rfl (by simp) ?_;rintro i hi;refine aK ?_;refine ak fun K hK=> ?_;simp[go_sem];refine hK _ ?_;refine tq [0,1,4,9] ?_;refine DF rfl (fun c0=> ?_) (fun c0=> ?_)
 ·have hik: ¬i=K':=fun he=>by rw[if_pos he] at c0;simp at c0
  have hxl:=h.lt i (by omega);refine aX ?_;refine aK ?_;refine aS ?_;refine ak fun K hK=> ?_;simp[go_sem,h.ha,hik];repeat refine⟨by omega,?_⟩
  by_cases hl:i+1=K'
  ·have hl1:=h.last i hl;refine YSk.gen hl1 ?_;rintro r σ' X ⟨rfl,rfl,rfl⟩;simp[go_sem,h.ha,h.hyo,h.hao];repeat refine⟨by omega,?_⟩
   refine hK _ ?_;refine tq [0,1,4,31] ?_;refine DF rfl (fun c1=> ?_) (fun c1=> ?_)
   ·refine aj ?_;rw[hl];simp[go_sem];exact h.hlv _
   ·have d1:=c1;simp at d1;have hf:=h.fin i hl d1.1 d1.2;refine aX ?_;refine T.dr 7 fun K hK=> ?_;simp[go_sem,h.ha];repeat refine⟨by omega,?_⟩
    refine dF.mk (kS _ c n g _ hn) ?_;simp[go_sem,hf];refine hK _ ?_;refine⟨i+1,dI (by simp) (h.hls i) (by(simp[go_sem,hik,hl]<;>omega)),by omega,by first|omega|(dsimp only;omega)⟩
  ·obtain⟨hp,hf⟩:=h.mid i (by omega);have hl1:=h.yes i (by omega);refine YSk.gen hl1 ?_;rintro r σ' X ⟨rfl,rfl,rfl⟩;simp[go_sem,h.ha,h.hyo,h.hao];repeat refine⟨by omega,?_⟩
   refine hK _ ?_;refine tq [0,1,4,31] ?_;refine DF rfl (fun c1=> ?_) (fun c1=> ?_)
   ·simp[hp] at c1
   ·refine aX ?_;refine T.dr 7 fun K hK=> ?_;simp[go_sem,h.ha];repeat refine⟨by omega,?_⟩
    refine dF.mk (kS _ c n g _ hn) ?_;simp[go_sem,hf];refine hK _ ?_;refine⟨i+1,dI (by simp) (h.hls i) (by(simp[go_sem,hik,hl]<;>omega)),by omega,by first|omega|(dsimp only;omega)⟩
 ·have he:i=K':=Classical.byContradiction fun hn=>by rw[if_neg hn] at c0;simp at c0
  subst he;refine fF (sm ?_);exact h.hlv _
end Go.Proofs.YtmahphgjkpgidaaGreatDoor
