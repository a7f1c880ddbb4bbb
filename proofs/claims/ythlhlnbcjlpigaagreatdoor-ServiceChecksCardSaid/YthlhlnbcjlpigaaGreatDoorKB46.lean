/- Contracts and lemmas, joined out of smaller texts by a program; no conditions. -/
import Derived.Test.YthlhlnbcjlpigaaGreatDoorKB38
set_option linter.unusedVariables false
set_option linter.unusedSimpArgs false
set_option maxHeartbeats 2000000
set_option maxRecDepth 100000
namespace Go.Proofs.YthlhlnbcjlpigaaGreatDoor
open Go.aU Go.bY Go.Proofs.Tryz
variable (σ : List aC)
theorem self31(p:qw)(hn:p.nc<1000000000):ay prog 88 [.d (SL none 6 Rule.enc p.nc p.gc),.d (SL none 6 Rule.enc p.nc p.gc)] σ (.d (B true)):=by
 have h:=QD σ none p.nc p.gc none p.nc p.gc (Classical.propDecidable _) hn;have e:= @decide_eq_true _ (Classical.propDecidable (lst p.nc p.gc=lst p.nc p.gc)) rfl;rw[e] at h;exact h
theorem qX(c c':Option Nat)(n:Nat)(g:Nat->Int)(hn:n<1000000000):ay prog 87 [.d (SL c 1 encI n g),.d (SL c' 1 encI n g)] σ (.d (B true)):=by
 refine ay.bs true func87 fun hwf=> ?_;refine aH [0,1] ?_ ?_<;>intro c0 d0
 ·first|(exfalso;omega)|simp at d0
 ·simp[go_sem];refine gy (α:=Nat) true [0,1,12,13] (fun i=>[(13,.d (I i))]) (fun i=>_) (fun i=>i<=n) (fun i=>n-i) 0 ?_;rintro i hi;simp[go_sem];refine aH [0,1,12,13] ?_ ?_<;>intro c1 d1
  ·have hi5:i<n:=by omega
   simp[go_sem];refine T.dr 9 fun K hK=> ?_;simp[go_sem,hi5];refine hK _ ?_;refine go true ?_;simp[go_sem];refine aH [0,1,12,13] ?_ ?_<;>intro c2 d2
   ·first|(exfalso;omega)|simp at d2
   ·simp(disch:=first|omega|simp) [go_sem,aA];refine dB (i+1) ((by omega)) (h:=by simp[go_sem]<;>omega)
  ·simp[go_sem];refine go true (sm ?_);exact aj so
theorem self44_cs(x:nJ)(hn:x.nu<1000000000)(hm:x.nb<1000000000):ay prog 47 [.agg (x.enc.map .d),.agg (x.enc.map .d)] σ (.d (B true)):=by
 refine ay.bs true func47 fun hwf=> ?_;refine fA.mk' (.d (B true)) (fun _=>qX _ none none x.nu x.u hn) (sm ?_);refine fA.mk' (.d (B true)) (fun _=>qX _ none none x.nb x.b hm) (sm ?_);exact aj so
theorem self36_cs(n:Nat)(g:Nat->Bx)(hn:n<1000000000)(hc: ∀i,i<n->(g i).nc<1000000000):ay prog 49 [.d (SL none 5 Bx.enc n g),.d (SL none 5 Bx.enc n g)] σ (.d (B true)):=by
 refine ay.bs true func49 fun hwf=> ?_;refine aH [0,1] ?_ ?_<;>intro c0 d0
 ·first|(exfalso;omega)|simp at d0
 ·simp[go_sem];refine gy (α:=Nat) true [0,1,13,14] (fun i=>[(14,.d (I i))]) (fun i=>_) (fun i=>i<=n) (fun i=>n-i) 0 ?_;rintro i hi;simp[go_sem];refine aH [0,1,13,14] ?_ ?_<;>intro c1 d1
  ·have hi5:i<n:=by omega
   have hc5:=hc i hi5;simp[go_sem];refine T.dr 65 fun K hK=> ?_;simp[go_sem,hi5];refine hK _ ?_;refine go true ?_;simp[go_sem];refine aH [0,1,5,13,14] ?_ ?_<;>intro c2 d2
   ·first|(exfalso;omega)|simp at d2
   ·simp[go_sem,hi5];refine gy (α:=Nat) true [0,1,5,13,14,87,88] (fun k=>[(88,.d (I k))]) (fun k=>_) (fun k=>k<=(g i).nc) (fun k=>(g i).nc-k) 0 ?_;rintro k hk;simp[go_sem];refine aH [0,1,5,13,14,87,88] ?_ ?_<;>intro c3 d3
    ·have hk5:k<(g i).nc:=by omega
     simp[go_sem];refine T.dr 17 fun K hK=> ?_;simp[go_sem,hi5,hk5];refine hK _ ?_;refine go true ?_;simp[go_sem];refine aH [0,1,5,13,14,87,88] ?_ ?_<;>intro c4 d4
     ·first|(exfalso;omega)|simp at d4
     ·simp(disch:=first|omega|simp) [go_sem,aA];refine dB (k+1) ((by omega)) (h:=by simp[go_sem]<;>omega)
    ·simp[go_sem];refine go true ?_;simp(disch:=first|omega|simp) [go_sem,aA];refine dB (i+1) ((by omega)) (h:=by simp[go_sem]<;>omega)
  ·simp[go_sem];refine go true (sm ?_);exact aj so
theorem Z8(p:qw)(hp:jJ p):ay prog 48 [.agg (p.enc.map .d),.agg (p.enc.map .d)] σ (.d (B true)):=by
 have z1:=hp.ns;have z2:=hp.nc;have z3:=hp.np;have z5:=hp.na;have z6:=hp.nm;refine ay.bd true func48 fun hwf=> ?_;simp[go_sem];refine aH [2,3] ?_ ?_<;>intro c0 d0
 ·first|(exfalso;omega)|simp at d0
 ·simp[go_sem];refine zJ (α:=Nat) true [2,3,24,25] (fun i=>[(25,.d (I i))]) (fun i=>σ++[.var (p.enc.map .d),.var (p.enc.map .d)]) (fun i=>i<=p.ns) (fun i=>p.ns-i) 0 (by simp[go_sem]) (rfl) (by simp) ?_;rintro i hi;simp[go_sem];refine aH [2,3,24,25] ?_ ?_<;>intro c1 d1
  ·have hi5:i<p.ns:=by omega
   have hs5:=hp.ps i hi5;simp[go_sem];apply Vars.VZ 13 [⟨10,6,[I 0,I 0,I 0,I 0,.v (.slice none 0 0)],12,nV.enc (p.gs i)⟩,⟨11,7,[I 0,I 0,I 0,I 0,.v (.slice none 0 0)],99,[]⟩] T.mixed (by kernel_rfl)
   ·intro τ K hK;simp[go_sem,hi5];exact hK _ _
   ·simp[go_sem,Nat.add_assoc]
   intro K hK;simp[go_sem,Nat.add_assoc];refine hK _ ?_;refine go true ?_;simp[go_sem];refine fA.mk' (.d (B true)) (fun _=>qX _ none none (p.gs i).np (p.gs i).ps (by omega)) ?_;simp[go_sem];refine aH [2,3,24,25] ?_ ?_<;>intro c2 d2
   ·first|(exfalso;omega)|simp at d2
   ·simp(disch:=first|omega|simp) [go_sem,aA];refine dB (i+1) ((by omega)) (h:=by simp[go_sem]<;>omega) (hσ:=by simp[go_sem]) (hb:=au (by simp[go_sem]))
  ·simp[go_sem];refine go true ?_;simp[go_sem];refine aW.mk (self31 _ p (by omega)) ?_;simp[go_sem];refine fA.mk' (.d (B true)) (fun _=>by have h:=YD (σ++[.var (p.enc.map .d),.var (p.enc.map .d)]) none none p.np p.np p.gp p.gp (by omega) (by omega);rw[pz] at h;exact h) ?_;simp[go_sem];refine fA.mk' (.d (B true)) (fun _=>by have h:=YH (σ++[.var (p.enc.map .d),.var (p.enc.map .d)]) none none p.na p.na p.ga p.ga (by omega) (by omega);rw[pz] at h;exact h) ?_;simp[go_sem];refine fA.mk' (.d (B true)) (fun _=>by have h:=YE (σ++[.var (p.enc.map .d),.var (p.enc.map .d)]) none none p.nm p.nm p.gm p.gm (by omega) (by omega);rw[pz] at h;exact h) ?_;simp[go_sem];refine aj ?_;simp[go_sem]<;>omega
theorem self45_cs(u:Use)(hu:dR u):ay prog 17 [.agg (u.cells u.dw),.agg (u.cells u.dw)] σ (.d (B true)):=by
 have z1:=hu.nb;have z2:=hu.nf;have z3:=hu.nv;have z4:=hu.nr;have z6:=hu.nk;have z7:=hu.nt;have z8:=hu.nl;have z9:=hu.nw;refine ay.bs true func17 fun hwf=> ?_;refine aH [2,3] ?_ ?_<;>intro c0 d0
 ·first|(exfalso;omega)|simp at d0
 ·simp[go_sem];refine gy (α:=Nat) true [2,3,39,40] (fun i=>[(40,.d (I i))]) (fun i=>σ++[.var (u.cells u.dw),.var (u.cells u.dw)]) (fun i=>i<=u.nf) (fun i=>u.nf-i) 0 ?_;rintro i hi;simp[go_sem];refine aH [2,3,39,40] ?_ ?_<;>intro c1 d1
  ·have hi5:i<u.nf:=by omega
   simp[go_sem];refine T.dr 11 fun K hK=> ?_;simp[go_sem,hi5];refine hK _ ?_;refine go true ?_;simp[go_sem];refine aH [2,3,39,40] ?_ ?_<;>intro c2 d2
   ·first|(exfalso;omega)|simp at d2
   ·simp(disch:=first|omega|simp) [go_sem,aA];refine dB (i+1) ((by omega)) (h:=by simp[go_sem]<;>omega) (hσ:=by simp[go_sem]) (hb:=au (by simp[go_sem]))
  ·simp[go_sem];refine go true (sm ?_);refine gy (α:=Nat) true [2,3,57,58] (fun i=>[(58,.d (I i))]) (fun i=>σ++[.var (u.cells u.dw),.var (u.cells u.dw)]) (fun i=>i<=u.nt) (fun i=>u.nt-i) 0 ?_;rintro i hi;simp[go_sem];refine aH [2,3,57,58] ?_ ?_<;>intro c3 d3
   ·have hi5:i<u.nt:=by omega
    have hb1:=hu.bu i hi5;have hb2:=hu.bb i hi5;simp[go_sem];refine T.dr 12 fun K hK=> ?_;simp[go_sem,hi5];refine dS.mk (self44_cs _ (u.gt i) (by omega) (by omega)) ?_;simp[go_sem];refine hK _ ?_;refine go true ?_;simp[go_sem];refine aH [2,3,57,58] ?_ ?_<;>intro c4 d4
    ·first|(exfalso;omega)|simp at d4
    ·simp(disch:=first|omega|simp) [go_sem,aA];refine dB (i+1) ((by omega)) (h:=by simp[go_sem]<;>omega) (hσ:=by simp[go_sem]) (hb:=au (by simp[go_sem]))
   ·simp[go_sem];refine go true (sm ?_);refine aW.mk (Z8 _ u.P hu.P) (sm ?_);refine fA.mk' (.d (B true)) (fun _=>self36_cs _ u.nb u.gb (by omega) (fun i hi=>by have:=hu.bx i hi;omega)) ?_;simp[go_sem];refine fA.mk' (.d (B true)) (fun _=>by have h:=YF (σ++[.var (u.cells u.dw),.var (u.cells u.dw)]) none none u.nv u.nv u.gv u.gv (by omega) (by omega);rw[pz] at h;exact h) ?_;simp[go_sem];refine fA.mk' (.d (B true)) (fun _=>by have h:=YC (σ++[.var (u.cells u.dw),.var (u.cells u.dw)]) none none u.nr u.nr u.gr u.gr (by omega) (by omega);rw[pz] at h;exact h) ?_;simp[go_sem];refine fA.mk' (.d (B true)) (fun _=>by have h:=YG (σ++[.var (u.cells u.dw),.var (u.cells u.dw)]) none none u.nk u.nk u.gk u.gk (by omega) (by omega);rw[pz] at h;exact h) ?_;simp[go_sem];refine fA.mk' (.d (B true)) (fun _=>by have h:=Ef (σ++[.var (u.cells u.dw),.var (u.cells u.dw)]) none none u.nl u.nl u.gl u.gl (by omega) (by omega);rw[pz] at h;exact h) ?_;simp[go_sem];refine fA.mk' (.d (B true)) (fun _=>by have h:=JU (σ++[.var (u.cells u.dw),.var (u.cells u.dw)]) none none u.nw u.nw u.gw u.gw (by omega) (by omega);rw[pz] at h;exact h) ?_;simp[go_sem];exact aj so
end Go.Proofs.YthlhlnbcjlpigaaGreatDoor
