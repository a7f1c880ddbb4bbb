/- Contracts and lemmas, joined out of smaller texts by a program; no conditions. -/
import Derived.Test.YthlhlnbcjlpigaaGreatDoorKB22
set_option linter.unusedVariables false
set_option linter.unusedSimpArgs false
set_option maxHeartbeats 1000000
set_option maxRecDepth 100000
namespace Go.Proofs.YthlhlnbcjlpigaaGreatDoor
open Go.aU Go.Proofs.Tryz
variable (σ : List aC)
theorem LD{n:Int} :idB n=true↔1<=n/\n<=1073741824:=by simp[idB,QL]
def Lh(g:Nat->H6)(i:Nat):Prop:=(1<=(g i).BD/\(g i).BD<=1073741824)/\(1<=(g i).Unit/\(g i).Unit<=1073741824)/\(0<i->(g (i-1)).BD<(g i).BD)
open Classical in
noncomputable def yC(g:Nat->H6)(n:Nat):Bool:=decide ((∀i,i<n->Lh g i)/\n<=1024)
theorem IK{g:Nat->H6}{n:Nat} :yC g n=true↔(∀i,i<n->Lh g i)/\n<=1024:=by simp[yC]
theorem XQ{g:Nat->H6}{n i:Nat}(hi:i<n)(h: ¬Lh g i):yC g n=false:=by
 rw[←Bool.not_eq_true,IK];exact fun H=>h (H.1 i hi)
theorem Si{g:Nat->H6}{n:Nat}(h: ∀i,i<n->Lh g i):yC g n=decide (n<=1024):=by
 rw[Bool.eq_iff_iff,IK,decide_eq_true_eq];exact⟨fun H=>H.2,fun H=>⟨h,H⟩⟩
theorem XP{g:Nat->H6}{i:Nat}(h: ∀q,q<i->Lh g q)(hi:Lh g i): ∀q,q<i+1->Lh g q:=fun q hq=>by
 rcases Nat.lt_or_eq_of_le (Nat.le_of_lt_succ hq) with h9|h9
 ·exact h q h9
 ·rw[h9];exact hi
theorem digitize_linked_cs(c:Option Nat)(n:Nat)(g:Nat->H6)(hn:n<1000000000):ay prog 350 [.d (SL c 2 H6.enc n g)] σ (.d (B (yC g n))):=by
 refine ay.bs true func350 fun hwf=> ?_;refine gy (α:=Nat) true [0,5,6,7] (fun i=>[(7,.d (I i))]) (fun i=>_) (fun i=>i<=n/\∀q,q<i->Lh g q) (fun i=>n-i) 0 ?_;rintro i ⟨hi,hx⟩;simp[go_sem];refine aH [0,5,6,7] ?_ ?_<;>intro c0 d0
 ·have hi5:i<n:=by omega
  simp[go_sem,hi5];refine T.dr 25 fun K hK=> ?_;simp[go_sem];refine dS.mk (ng _ (g i).BD) ?_;simp[go_sem];refine dS.mk (ng _ (g i).Unit) ?_;simp[go_sem,aZ (i:=i) (by omega)];repeat refine⟨by omega,?_⟩
  refine hK _ ?_;refine go true ?_;simp[go_sem];refine aH [0,5,6,7] ?_ ?_<;>intro c1 d1
  ·have hz:yC g n=false:=XQ hi5 fun hr=>by
    have h1:=LD.2 hr.1;have h2:=LD.2 hr.2.1;have h3:=hr.2.2;simp[h1,h2] at d1;omega
   simp[go_sem];rw[hz];exact aj sc
  ·have hr:Lh g i:=⟨LD.1 d1.1.1,LD.1 d1.1.2,d1.2⟩;simp(disch:=first|omega|simp) [go_sem,aA];refine dB (i+1) ⟨by omega,XP hx hr⟩ (h:=by simp[go_sem]<;>omega)
 ·obtain rfl:i=n:=by omega
  have hz:=Si hx;simp[go_sem];refine go true ?_;simp[go_sem];rw[hz];exact aj so
theorem Ef(c c':Option Nat)(n m:Nat)(f g:Nat->H6)(hn:n<1000000000)(hm:m<1000000000):ay prog 53 [.d (SL c 2 H6.enc n f),.d (SL c' 2 H6.enc m g)] σ (.d (B (xI (lst n f) (lst m g)))):=by
 refine ay.bs true func53 fun hwf=> ?_;refine aH [0,1] ?_ ?_<;>intro c0 d0
 ·have hz:=tX (f:=f) (g:=g) (show ¬n=m by omega);simp[go_sem];rw[hz];exact aj sc
 ·have hnm:n=m:=by omega
  subst hnm;simp[go_sem];refine gy (α:=Nat) true [0,1,12,13] (fun i=>[(13,.d (I i))]) (fun i=>_) (fun i=>i<=n/\∀q,q<i->f q=g q) (fun i=>n-i) 0 ?_;rintro i ⟨hi,hx⟩;simp[go_sem];refine aH [0,1,12,13] ?_ ?_<;>intro c1 d1
  ·have hi5:i<n:=by omega
   simp[go_sem];refine T.dr 9 fun K hK=> ?_;simp[go_sem,hi5];refine hK _ ?_;refine go true ?_;simp[go_sem];refine aH [0,1,12,13] ?_ ?_<;>intro c2 d2
   ·have hz:xI (lst n f) (lst n g)=false:=zY hi5 hi5 (fun h=>by simp[h] at d2);simp[go_sem];rw[hz];exact aj sc
   ·have heq:f i=g i:=by
     revert c2;rcases f i with⟨_,_⟩;rcases g i with⟨_,_⟩;simp<;>(intros;simp_all)
    simp(disch:=first|omega|simp) [go_sem,aA];refine dB (i+1) ⟨by omega,fun q hq=>by rcases Nat.lt_or_eq_of_le (Nat.le_of_lt_succ hq) with h|h;exact hx q h;rw[h];exact heq⟩ (h:=by simp[go_sem]<;>omega)
  ·obtain rfl:i=n:=by omega
   have hz:=tV (f:=f) (g:=g) rfl hx;simp[go_sem];refine go true (sm ?_);rw[hz];exact aj sc
def twB(g:Nat->H6)(n:Nat)(u:Nat->Int)(m:Nat):Bool:=(lst m u).any fun k=>(lst n g).any fun y=>y.Unit==k
section
variable {g : Nat -> H6} {n : Nat} {x : nJ} {f : Int} (h1 : (!yC g n || !decide (G5 x = 0)) = false)
include h1
variable (h2 : x.State = 3)
include h2
variable (h3 : ¬ (f < 1 \/ 1073741824 - (x.nu : Int) + 1 < f))
include h3
variable (h4 : ¬ (0 < n /\ f <= (g (n - 1)).BD))
include h4
variable (h5 : twB g n x.u x.nu = false)
include h5
end
end Go.Proofs.YthlhlnbcjlpigaaGreatDoor
