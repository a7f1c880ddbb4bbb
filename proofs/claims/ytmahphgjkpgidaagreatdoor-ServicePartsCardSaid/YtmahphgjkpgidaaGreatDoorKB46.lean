/- Contracts and lemmas, joined out of smaller texts by a program; no conditions. -/
import Derived.Test.YtmahphgjkpgidaaGreatDoorKB43
set_option linter.unusedVariables false
set_option linter.unusedSimpArgs false
set_option maxHeartbeats 2000000
set_option maxRecDepth 100000
namespace Go.Proofs.YtmahphgjkpgidaaGreatDoor
open Go.aU Go.dh Go.Proofs.Tryz
variable (σ : List aG)
theorem self31(p:oC)(hn:p.nc<1000000000):aA prog 72 [.d (SL none 6 Rule.enc p.nc p.gc),.d (SL none 6 Rule.enc p.nc p.gc)] σ (.d (B true)):=by
 have h:=EZ σ none p.nc p.gc none p.nc p.gc (Classical.propDecidable _) hn;have e:= @decide_eq_true _ (Classical.propDecidable (lst p.nc p.gc=lst p.nc p.gc)) rfl;rw[e] at h;exact h
theorem uF(c c':Option Nat)(n:Nat)(g:Nat->Int)(hn:n<1000000000):aA prog 71 [.d (SL c 1 encI n g),.d (SL c' 1 encI n g)] σ (.d (B true)):=by
 refine aA.bs true func71 fun hwf=> ?_;refine aJ [0,1] ?_ ?_<;>intro c0 d0
 ·first|(exfalso;omega)|simp at d0
 ·simp[go_sem];refine kQ (α:=Nat) true [0,1,12,13] (fun i=>[(13,.d (I i))]) (fun i=>_) (fun i=>i<=n) (fun i=>n-i) 0 ?_;rintro i hi;simp[go_sem];refine aJ [0,1,12,13] ?_ ?_<;>intro c1 d1
  ·have hi5:i<n:=by omega
   simp[go_sem];refine T.dr 9 fun K hK=> ?_;simp[go_sem,hi5];refine hK _ ?_;refine go true ?_;simp[go_sem];refine aJ [0,1,12,13] ?_ ?_<;>intro c2 d2
   ·first|(exfalso;omega)|simp at d2
   ·simp(disch:=first|omega|simp) [go_sem,aH];refine gB (i+1) ((by omega)) (h:=by simp[go_sem]<;>omega)
  ·simp[go_sem];refine go true (sm ?_);exact aj so
theorem self44_cs(x:fU)(hn:x.nu<1000000000)(hm:x.nb<1000000000):aA prog 45 [.agg (x.enc.map .d),.agg (x.enc.map .d)] σ (.d (B true)):=by
 refine aA.bs true func45 fun hwf=> ?_;refine fM.mk' (.d (B true)) (fun _=>uF _ none none x.nu x.u hn) (sm ?_);refine fM.mk' (.d (B true)) (fun _=>uF _ none none x.nb x.b hm) (sm ?_);exact aj so
theorem self36_cs(n:Nat)(g:Nat->Bx)(hn:n<1000000000)(hc: ∀i,i<n->(g i).nc<1000000000):aA prog 47 [.d (SL none 5 Bx.enc n g),.d (SL none 5 Bx.enc n g)] σ (.d (B true)):=by
 refine aA.bs true func47 fun hwf=> ?_;refine aJ [0,1] ?_ ?_<;>intro c0 d0
 ·first|(exfalso;omega)|simp at d0
 ·simp[go_sem];refine kQ (α:=Nat) true [0,1,13,14] (fun i=>[(14,.d (I i))]) (fun i=>_) (fun i=>i<=n) (fun i=>n-i) 0 ?_;rintro i hi;simp[go_sem];refine aJ [0,1,13,14] ?_ ?_<;>intro c1 d1
  ·have hi5:i<n:=by omega
   have hc5:=hc i hi5;simp[go_sem];refine T.dr 65 fun K hK=> ?_;simp[go_sem,hi5];refine hK _ ?_;refine go true ?_;simp[go_sem];refine aJ [0,1,5,13,14] ?_ ?_<;>intro c2 d2
   ·first|(exfalso;omega)|simp at d2
   ·simp[go_sem,hi5];refine kQ (α:=Nat) true [0,1,5,13,14,87,88] (fun k=>[(88,.d (I k))]) (fun k=>_) (fun k=>k<=(g i).nc) (fun k=>(g i).nc-k) 0 ?_;rintro k hk;simp[go_sem];refine aJ [0,1,5,13,14,87,88] ?_ ?_<;>intro c3 d3
    ·have hk5:k<(g i).nc:=by omega
     simp[go_sem];refine T.dr 17 fun K hK=> ?_;simp[go_sem,hi5,hk5];refine hK _ ?_;refine go true ?_;simp[go_sem];refine aJ [0,1,5,13,14,87,88] ?_ ?_<;>intro c4 d4
     ·first|(exfalso;omega)|simp at d4
     ·simp(disch:=first|omega|simp) [go_sem,aH];refine gB (k+1) ((by omega)) (h:=by simp[go_sem]<;>omega)
    ·simp[go_sem];refine go true ?_;simp(disch:=first|omega|simp) [go_sem,aH];refine gB (i+1) ((by omega)) (h:=by simp[go_sem]<;>omega)
  ·simp[go_sem];refine go true (sm ?_);exact aj so
theorem self45p_cs(p:oC)(hp:kF p):aA prog 46 [.agg (p.enc.map .d),.agg (p.enc.map .d)] σ (.d (B true)):=by
 have z1:=hp.ns;have z2:=hp.nc;have z3:=hp.np;have z5:=hp.na;have z6:=hp.nm;refine aA.bd true func46 fun hwf=> ?_;simp[go_sem];refine aJ [2,3] ?_ ?_<;>intro c0 d0
 ·first|(exfalso;omega)|simp at d0
 ·simp[go_sem];refine Pz (α:=Nat) true [2,3,24,25] (fun i=>[(25,.d (I i))]) (fun i=>σ++[.var (p.enc.map .d),.var (p.enc.map .d)]) (fun i=>i<=p.ns) (fun i=>p.ns-i) 0 (by simp[go_sem]) (rfl) (by simp) ?_;rintro i hi;simp[go_sem];refine aJ [2,3,24,25] ?_ ?_<;>intro c1 d1
  ·have hi5:i<p.ns:=by omega
   have hs5:=hp.ps i hi5;simp[go_sem];apply Vars.X7 13 [⟨10,6,[I 0,I 0,I 0,I 0,.v (.slice none 0 0)],12,kP.enc (p.gs i)⟩,⟨11,7,[I 0,I 0,I 0,I 0,.v (.slice none 0 0)],99,[]⟩] T.mixed (by kernel_rfl)
   ·intro τ K hK;simp[go_sem,hi5];exact hK _ _
   ·simp[go_sem,Nat.add_assoc]
   intro K hK;simp[go_sem,Nat.add_assoc];refine hK _ ?_;refine go true ?_;simp[go_sem];refine fM.mk' (.d (B true)) (fun _=>uF _ none none (p.gs i).np (p.gs i).ps (by omega)) ?_;simp[go_sem];refine aJ [2,3,24,25] ?_ ?_<;>intro c2 d2
   ·first|(exfalso;omega)|simp at d2
   ·simp(disch:=first|omega|simp) [go_sem,aH];refine gB (i+1) ((by omega)) (h:=by simp[go_sem]<;>omega) (hσ:=by simp[go_sem]) (hb:=au (by simp[go_sem]))
  ·simp[go_sem];refine go true ?_;simp[go_sem];refine aO.mk (self31 _ p (by omega)) ?_;simp[go_sem];refine fM.mk' (.d (B true)) (fun _=>by have h:=NC (σ++[.var (p.enc.map .d),.var (p.enc.map .d)]) none none p.np p.np p.gp p.gp (by omega) (by omega);rw[rG] at h;exact h) ?_;simp[go_sem];refine fM.mk' (.d (B true)) (fun _=>by have h:=NH (σ++[.var (p.enc.map .d),.var (p.enc.map .d)]) none none p.na p.na p.ga p.ga (by omega) (by omega);rw[rG] at h;exact h) ?_;simp[go_sem];refine fM.mk' (.d (B true)) (fun _=>by have h:=ND (σ++[.var (p.enc.map .d),.var (p.enc.map .d)]) none none p.nm p.nm p.gm p.gm (by omega) (by omega);rw[rG] at h;exact h) ?_;simp[go_sem];refine aj ?_;simp[go_sem]<;>omega
theorem self45_cs(u:Use)(hu:dB u):aA prog 14 [.agg (u.cells u.bG),.agg (u.cells u.bG)] σ (.d (B true)):=by
 have z1:=hu.nb;have z2:=hu.nf;have z3:=hu.nv;have z4:=hu.nr;have z6:=hu.nk;have z7:=hu.nt;have z8:=hu.nl;have z9:=hu.nw;refine aA.bs true func14 fun hwf=> ?_;refine aJ [2,3] ?_ ?_<;>intro c0 d0
 ·first|(exfalso;omega)|simp at d0
 ·simp[go_sem];refine kQ (α:=Nat) true [2,3,39,40] (fun i=>[(40,.d (I i))]) (fun i=>σ++[.var (u.cells u.bG),.var (u.cells u.bG)]) (fun i=>i<=u.nf) (fun i=>u.nf-i) 0 ?_;rintro i hi;simp[go_sem];refine aJ [2,3,39,40] ?_ ?_<;>intro c1 d1
  ·have hi5:i<u.nf:=by omega
   simp[go_sem];refine T.dr 11 fun K hK=> ?_;simp[go_sem,hi5];refine hK _ ?_;refine go true ?_;simp[go_sem];refine aJ [2,3,39,40] ?_ ?_<;>intro c2 d2
   ·first|(exfalso;omega)|simp at d2
   ·simp(disch:=first|omega|simp) [go_sem,aH];refine gB (i+1) ((by omega)) (h:=by simp[go_sem]<;>omega) (hσ:=by simp[go_sem]) (hb:=au (by simp[go_sem]))
  ·simp[go_sem];refine go true (sm ?_);refine kQ (α:=Nat) true [2,3,57,58] (fun i=>[(58,.d (I i))]) (fun i=>σ++[.var (u.cells u.bG),.var (u.cells u.bG)]) (fun i=>i<=u.nt) (fun i=>u.nt-i) 0 ?_;rintro i hi;simp[go_sem];refine aJ [2,3,57,58] ?_ ?_<;>intro c3 d3
   ·have hi5:i<u.nt:=by omega
    have hb1:=hu.bu i hi5;have hb2:=hu.bb i hi5;simp[go_sem];refine T.dr 12 fun K hK=> ?_;simp[go_sem,hi5];refine dF.mk (self44_cs _ (u.gt i) (by omega) (by omega)) ?_;simp[go_sem];refine hK _ ?_;refine go true ?_;simp[go_sem];refine aJ [2,3,57,58] ?_ ?_<;>intro c4 d4
    ·first|(exfalso;omega)|simp at d4
    ·simp(disch:=first|omega|simp) [go_sem,aH];refine gB (i+1) ((by omega)) (h:=by simp[go_sem]<;>omega) (hσ:=by simp[go_sem]) (hb:=au (by simp[go_sem]))
   ·simp[go_sem];refine go true (sm ?_);refine aO.mk (self45p_cs _ u.P hu.P) (sm ?_);refine fM.mk' (.d (B true)) (fun _=>self36_cs _ u.nb u.gb (by omega) (fun i hi=>by have:=hu.bx i hi;omega)) ?_;simp[go_sem];refine fM.mk' (.d (B true)) (fun _=>by have h:=Dl (σ++[.var (u.cells u.bG),.var (u.cells u.bG)]) none none u.nv u.nv u.gv u.gv (by omega) (by omega);rw[rG] at h;exact h) ?_;simp[go_sem];refine fM.mk' (.d (B true)) (fun _=>by have h:=Nz (σ++[.var (u.cells u.bG),.var (u.cells u.bG)]) none none u.nr u.nr u.gr u.gr (by omega) (by omega);rw[rG] at h;exact h) ?_;simp[go_sem];refine fM.mk' (.d (B true)) (fun _=>by have h:=NG (σ++[.var (u.cells u.bG),.var (u.cells u.bG)]) none none u.nk u.nk u.gk u.gk (by omega) (by omega);rw[rG] at h;exact h) ?_;simp[go_sem];refine fM.mk' (.d (B true)) (fun _=>by have h:=uI (σ++[.var (u.cells u.bG),.var (u.cells u.bG)]) none none u.nl u.nl u.gl u.gl (by omega) (by omega);rw[rG] at h;exact h) ?_;simp[go_sem];refine fM.mk' (.d (B true)) (fun _=>by have h:=wB (σ++[.var (u.cells u.bG),.var (u.cells u.bG)]) none none u.nw u.nw u.gw u.gw (by omega) (by omega);rw[rG] at h;exact h) ?_;simp[go_sem];exact aj so
end Go.Proofs.YtmahphgjkpgidaaGreatDoor
