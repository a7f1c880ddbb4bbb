/- Contracts and lemmas, joined out of smaller texts by a program; no conditions. -/
import Derived.Test.YtmahphgjkpgidaaGreatDoorKB43
set_option linter.unusedVariables false
set_option linter.unusedSimpArgs false
set_option maxHeartbeats 2000000
set_option maxRecDepth 100000
namespace Go.Proofs.YtmahphgjkpgidaaGreatDoor
open Go.aU Go.dh Go.Proofs.Tryz
variable (σ : List aG)
theorem Ll{n:Nat}{g:Nat->Ev}(h:jC n g=true):n<=40/\(∀i,i<n->pz (g i)=true)/\∀i,i<n->(g i).nn<1000000000/\(g i).nt<1000000000:=by
 obtain⟨h1,h2⟩:=(zx _ _).1 h;refine⟨h2,h1,fun i hi=> ?_⟩;have h3:=h1 i hi;unfold pz BJ at h3;simp only[Bool.and_eq_true,decide_eq_true_eq] at h3;omega
theorem OX(τ:List aG)(b:jH)(s:sN):aA prog 27 [.agg (b.enc.map .d),.ptr σ.length 0] (σ++ .var (s.enc.map .d)::τ) (.d (B (xu s.Reader s.Day b))):=by
 refine aA.bs true func27 fun hwf=> ?_;refine aj ?_;simp[go_sem,xu]
theorem Rt(u:Use)(m:Nat)(rg:Nat->Row)(n:Nat)(g:Nat->Ev)(hc: ∀i,i<n->(g i).cn=none/\(g i).ct=none)(hu:LW u)(hm:m<=9223372036854775807)(hnn:n<=9223372036854775807)(hn: ∀i,i<n->(g i).nn<=9223372036854775807/\(g i).nt<=9223372036854775807)(h0:σ[0]? =some (.tab 0 gK))(h1:σ[1]? =some (.loc 1)):aA prog 6 [.agg (u.cells u.bG),.d (SL none 3 Row.enc m rg),.d (SL none 5 Ev.enc n g)] σ (.d (B true)):=by
 refine aA.bs true func6 fun hwf=> ?_;refine aO.mk (o7 _ (aC h0) (aC h1)) (sm ?_);refine cn [1,2,3] rfl ?_ ?_<;>intro c0 d0<;>try simp at d0
 ·simp[go_sem];refine aO.mk (tH _ u none m rg hu) (sm ?_);refine fM.mk' (.d (B (jC n g))) (fun _=>jO _ none n g hnn hn) (sm ?_);refine fM.mk' (.agg (u.cells u.bG)) (fun hg=>dS _ u (tV (m:=m) (by revert hg;cases jw m u<;>simp)).1) ?_;simp[go_sem];refine fM.mk' (.d (I (if dD u=true then 0 else 1))) (fun hg=>yK _ u (tV (m:=m) (by revert hg;cases jw m u<;>simp)).1 (aC h0) (aC h1)) ?_;simp[go_sem];refine aJ [1,2,3] ?_ ?_<;>intro c1 d1
  ·simp[go_sem];exact aj so
  ·have hf1:jw m u=true/\jC n g=true/\dD u=true:=by
    revert d1;cases jw m u<;>cases jC n g<;>cases dD u<;>simp
   obtain⟨hq1,hq2,hq3⟩:=hf1;have hr0:=iT.1 hq3;have hmm:=(tV hq1).2.2;obtain⟨hn40,hev,hbd⟩:=Ll hq2;have hG: ∀i,aP (sF m rg g u i):=RN hr0;simp[go_sem];refine aO.mk (oh _ none n g (by omega) (fun i hi=>⟨(hc i hi).1,(hc i hi).2,(hbd i hi).1,(hbd i hi).2⟩)) (sm ?_);refine Pz (α:=Nat) true [1,3,34,35,36] (fun i=>[(36,.d (I i))]) (fun i=>σ++[.var ((sF m rg g u i).cells (sF m rg g u i).bG)]) (fun i=>i<=n) (fun i=>n-i) 0 (by simp[go_sem]) (rfl) (by simp) ?_;rintro i hi;simp[go_sem];refine aJ [1,3,34,35,36] ?_ ?_<;>intro c2 d2
   ·have hi0:i<n:=by omega
    have hst:=BL (hG i) hmm (hev i hi0);simp[go_sem,hi0];apply bW 11 9 10 T.mixed (by kernel_rfl)
    ·intro τ K hK;simp[go_sem];refine dF.mk (dS _ (sF m rg g u i) hst.use) ?_;simp[go_sem];refine dF.mk (kX _ none m rg (by omega)) ?_;simp[go_sem];refine dF.mk (nR _ (sF m rg g u i) none m rg (g i) hst (aC h0) (aC h1)) ?_;simp[go_sem];exact hK _ _
    intro K hK;simp[go_sem];refine hK _ ?_;refine go true ?_;simp[go_sem];refine aJ [1,3,8,9,34,35,36] ?_ ?_<;>intro c3 d3
    ·have hbad:sF m rg g u (i+1)=sF m rg g u i:=goS_bad (by simpa using d3);simp(disch:=first|omega|simp) [go_sem,aH];refine gB (i+1) ((by omega)) (h:=by simp[go_sem]<;>omega) (hσ:=by simp[go_sem,hbad]) (hb:=au (by simp[go_sem]))
    ·have hz3:(ig (sF m rg g u i) m rg (g i)).2=0:=by simpa using d3
     have hgood:sF m rg g u (i+1)=(ig (sF m rg g u i) m rg (g i)).1:=aad hz3;have hp:Past (sF m rg g u i) (ig (sF m rg g u i) m rg (g i)).1:=by rw[Ho hz3];exact Zi _ _
     have hsh:=fun q=>shows_stp (q:=q) hz3;have Z5:=hgood▸hG (i+1);obtain⟨v,hv⟩: ∃v,v=(ig (sF m rg g u i) m rg (g i)).1:=⟨_,rfl⟩;rw[←hv] at hgood hp Z5 hsh⊢;have hw1:=hp.w1;have hok2:=oO Z5;have b1:=hst.use.nw;have b2:=hok2.1.nw;have b3:=hok2.1.nk;simp[go_sem];refine aJ [1,3,8,9,34,35,36] ?_ ?_<;>intro c4 d4
     ·first|(exfalso;omega)|simp at d4
     ·simp[go_sem];repeat refine⟨by omega,?_⟩
      refine kQ (α:=Nat) true [1,3,8,9,34,35,36,63,64,65] (fun q=>[(65,.d (I q))]) (fun q=>_) (fun q=>q<=v.nw-(sF m rg g u i).nw) (fun q=>v.nw-(sF m rg g u i).nw-q) 0 ?_;rintro q hq;simp[go_sem];refine aJ [1,3,8,9,34,35,36,63,64,65] ?_ ?_<;>intro c5 d5
      ·have hq0:q<v.nw-(sF m rg g u i).nw:=by omega
       obtain⟨hs1,hs2,hs3⟩:=hsh ((sF m rg g u i).nw+q) (by omega) (by omega);unfold yC at hs2;simp only[Bool.and_eq_true,beq_iff_eq] at hs2;obtain⟨hs4,hs5⟩:=hs2;simp[go_sem,hq0,hs1];apply bW 17 15 16 T.mixed (by kernel_rfl)
       ·intro τ K hK;simp[go_sem];refine dF.mk (kX _ none m rg (by omega)) ?_;simp[go_sem];refine dF.mk (dS _ v hok2.1) ?_;simp[go_sem];refine dF.mk (qB _ none m rg v.P (v.gw ((sF m rg g u i).nw+q)).Reader (v.gw ((sF m rg g u i).nw+q)).Unit (g i).Day (by omega) hok2.1.P (aC h1)) ?_;simp[go_sem,hs4,hs5];exact hK _ _
       intro K hK;simp[go_sem];refine hK _ ?_;refine go true ?_;simp[go_sem];refine aO.mk (pI _ none v.nk v.gk _ _ (xu (v.gw ((sF m rg g u i).nw+q)).Reader (g i).Day) (by omega) (fun j hj=>by have h:=nA (OX (σ++[.var ((sF m rg g u i).cells (sF m rg g u i).bG),.var ((g i).enc.map .d),.var (v.cells v.bG)]) [.var ((qR m rg v.P (v.gw ((sF m rg g u i).nw+q)).Reader (v.gw ((sF m rg g u i).nw+q)).Unit (g i).Day).1.enc.map .d)] (v.gk j) ⟨(v.gw ((sF m rg g u i).nw+q)).Reader,(v.gw ((sF m rg g u i).nw+q)).Unit,(g i).Day⟩);simpa[go_sem,hs1,hs4,hs5] using h)) ?_;simp[go_sem,hs3];refine aJ [1,3,8,9,34,35,36,63,64,65] ?_ ?_<;>intro c6 d6
       ·first|(exfalso;omega)|simp at d6
       ·simp(disch:=first|omega|simp) [go_sem,aH];refine gB (q+1) ((by omega)) (h:=by simp[go_sem]<;>omega) (hb:=au (by simp[go_sem]))
      ·simp[go_sem];refine go true ?_;simp(disch:=first|omega|simp) [go_sem,aH];refine gB (i+1) ((by omega)) (h:=by simp[go_sem]<;>omega) (hσ:=by simp[go_sem,hgood]) (hb:=au (by simp[go_sem]))
   ·simp[go_sem];refine go true (sm ?_);exact aj so
end Go.Proofs.YtmahphgjkpgidaaGreatDoor
