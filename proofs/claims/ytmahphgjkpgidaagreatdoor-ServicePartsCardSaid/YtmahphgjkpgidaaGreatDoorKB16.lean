/- Contracts and lemmas, joined out of smaller texts by a program; no conditions. -/
import Derived.Test.YtmahphgjkpgidaaGreatDoorKB12
import Derived.Test.YtmahphgjkpgidaaGreatDoorKB15
set_option linter.unusedVariables false
set_option linter.unusedSimpArgs false
set_option maxHeartbeats 400000
set_option maxRecDepth 100000
namespace Go.Proofs.YtmahphgjkpgidaaGreatDoor
open Go.aU Go.dh Go.Proofs.Tryz
variable (σ : List aG)
def rJ(p:oC)(r:Row)(d:Int):Nat->List Ground
 |0=>if(pK p.nc p.gc (iH p r.Unit).1.Class (iH p r.Unit).1.Made d).2=true/\(iH p r.Unit).1.Class≠0 then[(pK p.nc p.gc (iH p r.Unit).1.Class (iH p r.Unit).1.Made d).1] else[]
 |1=>(sU p.np p.gp (iH p r.Unit).1.np (iH p r.Unit).1.ps (iH p r.Unit).1.Made p.jI d).1
 |_=>if r.fP=0 then[] else DL p.na p.ga r.fP d
theorem clsG_0(p:oC)(r:Row)(d:Int):rJ p r d 0=if(pK p.nc p.gc (iH p r.Unit).1.Class (iH p r.Unit).1.Made d).2=true/\(iH p r.Unit).1.Class≠0 then[(pK p.nc p.gc (iH p r.Unit).1.Class (iH p r.Unit).1.Made d).1] else[]:=rfl
theorem clsG_2(p:oC)(r:Row)(d:Int):rJ p r d 2=if r.fP=0 then[] else DL p.na p.ga r.fP d:=rfl
theorem prsGr_len(n:Nat)(g:Nat->iq)(m:Nat)(ids:Nat->Int)(made:eF)(y d:Int):(sU n g m ids made y d).1.length<=m:=by
 have:=nJ (UY n g ids made y d) m;unfold sU;split;·simp
 split;·simp
 split;·simp
 split;·simp
 exact this
theorem agrGr_len(n:Nat)(g:Nat->jW)(k d:Int):(DL n g k d).length<=n:=by
 have:=nJ (VN g k d) n;unfold DL;split;·simp
 exact this
theorem clsG_len{p:oC}(h:kF p)(r:Row)(d:Int)(j:Nat):(rJ p r d j).length<=1000:=by
 unfold rJ;split
 ·split<;>simp
 ·have:=prsGr_len p.np p.gp (iH p r.Unit).1.np (iH p r.Unit).1.ps (iH p r.Unit).1.Made p.jI d;have:=subj_np h r.Unit;omega
 ·split
  ·simp
  ·have:=agrGr_len p.na p.ga r.fP d;have:=h.na;omega
abbrev Fn0(f:FuncId):D:= .v (.func (.func f) #[] #[])
theorem Ig:aA prog 129 [] σ (.d (.sl none 2 3 fun j=>[Fn0 (if j=0 then 194 else if j=1 then 199 else 202),Fn0 (if j=0 then 197 else if j=1 then 201 else 204)])):=by
 refine aA.bs true func129 fun hwf=> ?_;refine aj (sm ?_);intro i hi;have hi3:i=0\/i=1\/i=2:=by omega
 rcases hi3 with rfl|rfl|rfl<;>rfl
theorem EF(p:oC)(r:Row)(d:Int)(hp:kF p):aA prog 194 [.agg (p.enc.map .d),.agg (r.enc.map .d),.d (I d)] σ (.d (SL none 4 Ground.enc (rJ p r d 0).length (nth (rJ p r d 0)))):=by
 refine aA.bs true func194 fun hwf=> ?_;refine aO.mk (vW _ _ _ (by first|assumption|exact aC (by assumption)|omega|simp_all)) (sm ?_);refine aO.mk (JA _ none p.nc p.gc (iH p r.Unit).1.Class (iH p r.Unit).1.Made d (by have:=hp.nc;omega)) ?_;simp[go_sem];refine aJ [9] ?_ ?_<;>intro c0 d0
 ·have hz:rJ p r d 0=[(pK p.nc p.gc (iH p r.Unit).1.Class (iH p r.Unit).1.Made d).1]:=by rw[clsG_0,if_pos d0]
  simp[go_sem];refine aj ?_;rw[hz];simp[go_sem];exact⟨rfl,rfl,rfl,rfl⟩
 ·have hz:rJ p r d 0=[]:=by rw[clsG_0,if_neg (by rintro⟨h1,h2⟩;exact h2 (d0 h1))]
  simp[go_sem];rw[hz];exact aj sc
theorem ED(p:oC)(r:Row)(d:Int)(hp:kF p)(hσ:σ[1]? =some (.loc 1)):aA prog 199 [.agg (p.enc.map .d),.agg (r.enc.map .d),.d (I d)] σ (.d (SL none 4 Ground.enc (rJ p r d 1).length (nth (rJ p r d 1)))):=by
 refine aA.bs true func199 fun hwf=> ?_;refine aO.mk (vW _ _ _ (by first|assumption|exact aC (by assumption)|omega|simp_all)) (sm ?_);refine aO.mk (Ik _ none p.np p.gp none (iH p r.Unit).1.np (iH p r.Unit).1.ps (iH p r.Unit).1.Made p.jI d (by have:=hp.np;omega) (by have:=subj_np hp r.Unit;omega) hp.nn (aC hσ)) ?_;simp[go_sem];refine aj ?_;simp[go_sem,rJ]<;>omega
theorem EC(p:oC)(r:Row)(d:Int)(hp:kF p):aA prog 202 [.agg (p.enc.map .d),.agg (r.enc.map .d),.d (I d)] σ (.d (SL none 4 Ground.enc (rJ p r d 2).length (nth (rJ p r d 2)))):=by
 refine aA.bs true func202 fun hwf=> ?_;refine aJ [2,3,4] ?_ ?_<;>intro c0 d0
 ·have hz:rJ p r d 2=[]:=by rw[clsG_2,if_pos d0]
  simp[go_sem];rw[hz];exact aj sc
 ·have hz:rJ p r d 2=DL p.na p.ga r.fP d:=by rw[clsG_2,if_neg d0]
  simp[go_sem];refine aO.mk (DK _ none p.na p.ga r.fP d (by have:=hp.na;omega)) ?_;simp[go_sem];rw[hz];exact aj sc
end Go.Proofs.YtmahphgjkpgidaaGreatDoor
