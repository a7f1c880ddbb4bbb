/- Contracts and lemmas, joined out of smaller texts by a program; no conditions. -/
import Derived.Test.YthlhlnbcjlpigaaGreatDoorKB12
set_option linter.unusedVariables false
set_option linter.unusedSimpArgs false
set_option maxHeartbeats 400000
set_option maxRecDepth 100000
namespace Go.Proofs.YthlhlnbcjlpigaaGreatDoor
open Go.aU Go.bY Go.Proofs.Tryz
variable (σ : List aC)
def pG(p:qw)(r:Row)(d:Int):Nat->List Ground
 |0=>if(ni p.nc p.gc (gU p r.Unit).1.Class (gU p r.Unit).1.Made d).2=true/\(gU p r.Unit).1.Class≠0 then[(ni p.nc p.gc (gU p r.Unit).1.Class (gU p r.Unit).1.Made d).1] else[]
 |1=>(qh p.np p.gp (gU p r.Unit).1.np (gU p r.Unit).1.ps (gU p r.Unit).1.Made p.jg d).1
 |_=>if r.fK=0 then[] else Bq p.na p.ga r.fK d
theorem clsG_0(p:qw)(r:Row)(d:Int):pG p r d 0=if(ni p.nc p.gc (gU p r.Unit).1.Class (gU p r.Unit).1.Made d).2=true/\(gU p r.Unit).1.Class≠0 then[(ni p.nc p.gc (gU p r.Unit).1.Class (gU p r.Unit).1.Made d).1] else[]:=rfl
theorem clsG_2(p:qw)(r:Row)(d:Int):pG p r d 2=if r.fK=0 then[] else Bq p.na p.ga r.fK d:=rfl
theorem prsGr_len(n:Nat)(g:Nat->iU)(m:Nat)(ids:Nat->Int)(made:fU)(y d:Int):(qh n g m ids made y d).1.length<=m:=by
 have:=iT (RF n g ids made y d) m;unfold qh;split;·simp
 split;·simp
 split;·simp
 split;·simp
 exact this
theorem agrGr_len(n:Nat)(g:Nat->kP)(k d:Int):(Bq n g k d).length<=n:=by
 have:=iT (TI g k d) n;unfold Bq;split;·simp
 exact this
theorem Y0{p:qw}(h:jJ p)(r:Row)(d:Int)(j:Nat):(pG p r d j).length<=1000:=by
 unfold pG;split
 ·split<;>simp
 ·have:=prsGr_len p.np p.gp (gU p r.Unit).1.np (gU p r.Unit).1.ps (gU p r.Unit).1.Made p.jg d;have:=subj_np h r.Unit;omega
 ·split
  ·simp
  ·have:=agrGr_len p.na p.ga r.fK d;have:=h.na;omega
abbrev Fn0(f:FuncId):D:= .v (.func (.func f) #[] #[])
theorem FH:ay prog 421 [] σ (.d (.sl none 2 3 fun j=>[Fn0 (if j=0 then 434 else if j=1 then 439 else 442),Fn0 (if j=0 then 437 else if j=1 then 441 else 444)])):=by
 refine ay.bs true func421 fun hwf=> ?_;refine aj (sm ?_);intro i hi;have hi3:i=0\/i=1\/i=2:=by omega
 rcases hi3 with rfl|rfl|rfl<;>rfl
theorem CX(p:qw)(r:Row)(d:Int)(hp:jJ p):ay prog 434 [.agg (p.enc.map .d),.agg (r.enc.map .d),.d (I d)] σ (.d (SL none 4 Ground.enc (pG p r d 0).length (nth (pG p r d 0)))):=by
 refine ay.bs true func434 fun hwf=> ?_;refine aW.mk (tH _ _ _ (by first|assumption|exact aO (by assumption)|omega|simp_all)) (sm ?_);refine aW.mk (GR _ none p.nc p.gc (gU p r.Unit).1.Class (gU p r.Unit).1.Made d (by have:=hp.nc;omega)) ?_;simp[go_sem];refine aH [9] ?_ ?_<;>intro c0 d0
 ·have hz:pG p r d 0=[(ni p.nc p.gc (gU p r.Unit).1.Class (gU p r.Unit).1.Made d).1]:=by rw[clsG_0,if_pos d0]
  simp[go_sem];refine aj ?_;rw[hz];simp[go_sem];exact⟨rfl,rfl,rfl,rfl⟩
 ·have hz:pG p r d 0=[]:=by rw[clsG_0,if_neg (by rintro⟨h1,h2⟩;exact h2 (d0 h1))]
  simp[go_sem];rw[hz];exact aj sc
theorem CW(p:qw)(r:Row)(d:Int)(hp:jJ p)(hσ:σ[1]? =some (.loc 1)):ay prog 439 [.agg (p.enc.map .d),.agg (r.enc.map .d),.d (I d)] σ (.d (SL none 4 Ground.enc (pG p r d 1).length (nth (pG p r d 1)))):=by
 refine ay.bs true func439 fun hwf=> ?_;refine aW.mk (tH _ _ _ (by first|assumption|exact aO (by assumption)|omega|simp_all)) (sm ?_);refine aW.mk (FN _ none p.np p.gp none (gU p r.Unit).1.np (gU p r.Unit).1.ps (gU p r.Unit).1.Made p.jg d (by have:=hp.np;omega) (by have:=subj_np hp r.Unit;omega) hp.nn (aO hσ)) ?_;simp[go_sem];refine aj ?_;simp[go_sem,pG]<;>omega
theorem CV(p:qw)(r:Row)(d:Int)(hp:jJ p):ay prog 442 [.agg (p.enc.map .d),.agg (r.enc.map .d),.d (I d)] σ (.d (SL none 4 Ground.enc (pG p r d 2).length (nth (pG p r d 2)))):=by
 refine ay.bs true func442 fun hwf=> ?_;refine aH [2,3,4] ?_ ?_<;>intro c0 d0
 ·have hz:pG p r d 2=[]:=by rw[clsG_2,if_pos d0]
  simp[go_sem];rw[hz];exact aj sc
 ·have hz:pG p r d 2=Bq p.na p.ga r.fK d:=by rw[clsG_2,if_neg d0]
  simp[go_sem];refine aW.mk (A8 _ none p.na p.ga r.fK d (by have:=hp.na;omega)) ?_;simp[go_sem];rw[hz];exact aj sc
end Go.Proofs.YthlhlnbcjlpigaaGreatDoor
