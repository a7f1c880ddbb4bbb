/- Contracts and lemmas, joined out of smaller texts by a program; no conditions. -/
import Derived.Test.YtmahphgjkpgidaaGreatDoorKB22
import Derived.Test.YtmahphgjkpgidaaGreatDoorKB29
set_option linter.unusedVariables false
set_option linter.unusedSimpArgs false
set_option maxHeartbeats 1000000
set_option maxRecDepth 100000
namespace Go.Proofs.YtmahphgjkpgidaaGreatDoor
open Go.aU Go.dh Go.Proofs.Tryz
variable (σ : List aG)
structure jH where
 ID:Int
 Reader:Int
 In:Span
instance:Inhabited jH:=⟨⟨0,0,⟨0,0⟩⟩⟩
def jH.enc(b:jH):List D:=[I b.ID,I b.Reader,I b.In.From,I b.In.Until]
attribute [simp] jH.enc
def Qm(s:Span):Bool:=decide (0<=s.From)&&decide (s.From<s.Until)&&decide (s.Until<=1048576)
def U6(a b:Span):Bool:=decide (a.From<b.Until)&&decide (b.From<a.Until)
def loadP(d:Int)(b:jH):Bool:=Qm b.In&&decide (b.In.From<=d)&&decide (d<b.In.Until)
def l7(g:Nat->jH)(d:Int):Nat->Nat
 |0=>0
 |n+1=>if loadP d (g n) then l7 g d n+1 else l7 g d n
theorem ZB(g:Nat->jH)(d:Int): ∀n,l7 g d n<=n
 |0=>Nat.le_refl _
 |n+1=>by rw[l7];have:=ZB g d n;split<;>omega
def busyB(n:Nat)(g:Nat->jH)(r:Int)(s:Span):Bool:=(lst n g).any fun b=>b.Reader==r&&U6 b.In s
def stP(s:Span)(b:jH):Bool:=Qm b.In&&decide (s.From<b.In.From)&&decide (b.In.From<s.Until)
def BG(g:Nat->jH)(s:Span):Nat->List Int
 |0=>[s.From]
 |n+1=>if stP s (g n) then BG g s n++[(g n).In.From] else BG g s n
theorem Ph(g:Nat->jH)(s:Span): ∀n,0<(BG g s n).length/\(BG g s n).length<=n+1
 |0=>by simp[BG]
 |n+1=>by rw[BG];have:=Ph g s n;split<;>(try simp)<;>omega
theorem ZV(c:Option Nat)(n:Nat)(g:Nat->jH)(f:FuncId)(cap:List AV)(p:jH->Bool)(hn:n<1000000000)(hf: ∀i,i<n->aA prog f (.agg ((g i).enc.map .d)::cap) σ (.d (B (p (g i))))):aA prog 57 [.d (SL c 4 jH.enc n g),.clo (.func f) [] cap] σ (.d (I (idxFrom p (lst n g) 0))):=by
 refine aA.bs true func57 fun hwf=> ?_;refine kQ (α:=Nat) true [0,1,7,8] (fun i=>[(8,.d (I i))]) (fun i=>_) (fun i=>i<=n/\idxFrom p (lst n g) 0=idxFrom p ((lst n g).drop i) i) (fun i=>n-i) 0 ?_;rintro i ⟨hi,hx⟩;simp[go_sem];refine aJ [0,1,7,8] ?_ ?_<;>intro c0 d0
 ·rw[gX d0,idxFrom] at hx;simp[go_sem];repeat refine⟨by omega,?_⟩
  refine aO.mk (hf i d0) (sm ?_);refine aJ [0,1,5,7,8] ?_ ?_<;>intro c1 d1
  ·simp[go_sem];refine aj ?_;simp[go_sem,hx,c1]<;>omega
  ·simp(disch:=first|omega|simp) [go_sem,aH];refine gB (i+1) ⟨by omega,by rw[hx,c1];simp⟩ (h:=by simp[go_sem]<;>omega)
 ·rw[gY d0,idxFrom] at hx;simp[go_sem];refine go true (sm ?_);refine aj ?_;simp[go_sem,hx]<;>omega
theorem pI(c:Option Nat)(n:Nat)(g:Nat->jH)(f:FuncId)(cap:List AV)(p:jH->Bool)(hn:n<1000000000)(hf: ∀i,i<n->aA prog f (.agg ((g i).enc.map .d)::cap) σ (.d (B (p (g i))))):aA prog 26 [.d (SL c 4 jH.enc n g),.clo (.func f) [] cap] σ (.d (B ((lst n g).any p))):=by
 refine aA.bs true func26 fun hwf=> ?_;refine aO.mk (ZV _ c n g f cap p hn hf) (sm ?_);refine aj ?_;simp[go_sem,mY]<;>omega
theorem cloneBkg_cs(c:Option Nat)(n:Nat)(g:Nat->jH)(hn:n<1000000000):aA prog 86 [.d (SL c 4 jH.enc n g)] σ (.d (SL none 4 jH.enc n g)):=by
 refine aA.bd true func86 fun hwf=> ?_;simp[go_sem,-Bool.forall_bool];try intro b1 hb1
 refine fZ ?_ ?_<;>intro c0 d0
 ·simp[go_sem];refine aj ?_;have:=hb1 c0;simp[go_sem,this]
 ·simp[go_sem];repeat refine⟨by omega,?_⟩
  refine bK (σ.length) (by simp[go_sem];exact⟨rfl,rfl,rfl⟩) (by simp[go_sem];rfl) (by simp[go_sem,hwf.sZ,hwf.qH];rfl) ?_;exact aj so
theorem XQ(c:Option Nat)(n:Nat)(g:Nat->jH)(hn:n<1000000000):CS prog 86 [.d (SL c 4 jH.enc n g)] σ (fun r σ' X=>r= .ms σ.length 4 0 n/\σ'=σ++[.arr 4 n fun i=>jH.enc (g i)]/\X=[]):=by
 refine CS.VD true func86 fun hwf=> ?_;simp[go_sem,-Bool.forall_bool];try intro b1 hb1
 refine fZ ?_ ?_<;>intro c0 d0
 ·simp[go_sem];refine dG 2 4 (fun i=>jH.enc (g i)) (by simp[go_sem]) (by simp[go_sem];rfl) ?_;refine aj ?_;obtain rfl:=hb1 c0;simp[go_sem]
 ·simp[go_sem];repeat refine⟨by omega,?_⟩
  exact aj so
theorem E5(n:Int):aA prog 219 [.d (I n)] σ (.d (B (mD n))):=by
 refine aA.bs true func219 fun hwf=> ?_;refine aj ?_;simp[go_sem,mD,qc]<;>omega
theorem oU(s:Span):aA prog 220 [.agg [.d (I s.From),.d (I s.Until)]] σ (.d (B (Qm s))):=by
 refine aA.bs true func220 fun hwf=> ?_;refine aj ?_;simp[go_sem,Qm]
theorem OB(a b:Span):aA prog 301 [.agg [.d (I a.From),.d (I a.Until)],.agg [.d (I b.From),.d (I b.Until)]] σ (.d (B (U6 a b))):=by
 refine aA.bs true func301 fun hwf=> ?_;refine aj ?_;simp[go_sem,U6]<;>omega
theorem OE(c:Option Nat)(n:Nat)(g:Nat->jH)(d:Int)(hn:n<1000000000):aA prog 304 [.d (SL c 4 jH.enc n g),.d (I d)] σ (.d (I (l7 g d n))):=by
 refine aA.bs true func304 fun hwf=> ?_;refine Pz (α:=Nat) true [1,5,8,9,10] (fun i=>[(10,.d (I i)),(5,.d (I (l7 g d i)))]) (fun i=>_) (fun i=>i<=n) (fun i=>n-i) 0 (by simp[go_sem,l7]) (rfl) (by simp) ?_;rintro i hi;simp[go_sem];refine aJ [1,5,8,9,10] ?_ ?_<;>intro c0 d0
 ·simp[go_sem];repeat refine⟨by omega,?_⟩
  refine aO.mk (oU _ (g i).In) (sm ?_);refine aJ [1,5,8,9,10] ?_ ?_<;>intro c1 d1
  ·have hs:l7 g d (i+1)=l7 g d i+1:=by rw[l7,if_pos (by simpa[loadP] using c1)]
   have hw1:=wrap_succ (i:=l7 g d i) (by have:=ZB g d i;omega);simp(disch:=first|omega|simp) [go_sem,hw1,aH];refine gB (i+1) (by omega) (h:=by simp[go_sem,hs]<;>omega)
  ·have hs:l7 g d (i+1)=l7 g d i:=by rw[l7,if_neg (by simpa[loadP] using c1)]
   simp(disch:=first|omega|simp) [go_sem,aH];refine gB (i+1) (by omega) (h:=by simp[go_sem,hs]<;>omega)
 ·obtain rfl:i=n:=by omega
  simp[go_sem];refine go true (sm ?_);exact aj so
theorem Ic(τ:List aG)(b:jH)(r:Int)(s:Span):aA prog 300 [.agg (b.enc.map .d),.ptr σ.length 0,.ptr (σ.length+1) 0] (σ++ .var [.d (I r)]:: .var [.d (I s.From),.d (I s.Until)]::τ) (.d (B (b.Reader==r&&U6 b.In s))):=by
 refine aA.bs true func300 fun hwf=> ?_;refine fM.mk' (.d (B (U6 b.In s))) (fun _=>OB _ b.In s) (sm ?_);exact aj so
theorem OD(c:Option Nat)(n:Nat)(g:Nat->jH)(r:Int)(s:Span)(hn:n<1000000000):aA prog 221 [.d (SL c 4 jH.enc n g),.d (I r),.agg [.d (I s.From),.d (I s.Until)]] σ (.d (B (busyB n g r s))):=by
 refine aA.bs true func221 fun hwf=> ?_;refine aO.mk ((show aA prog 26 _ _ (.d (B (busyB n g r s))) from pI _ c n g _ _ (fun b=>b.Reader==r&&U6 b.In s) hn (fun i hi=>Ic σ [] (g i) r s))) (sm ?_);exact aj so
end Go.Proofs.YtmahphgjkpgidaaGreatDoor
