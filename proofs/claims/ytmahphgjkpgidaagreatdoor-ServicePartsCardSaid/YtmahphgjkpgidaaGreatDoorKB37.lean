/- Contracts and lemmas, joined out of smaller texts by a program; no conditions. -/
import Derived.Test.YtmahphgjkpgidaaGreatDoorKB34
set_option linter.unusedVariables false
set_option linter.unusedSimpArgs false
set_option maxHeartbeats 2000000
set_option maxRecDepth 100000
namespace Go.Proofs.YtmahphgjkpgidaaGreatDoor
open Go.aU Go.dh Go.Proofs.Tryz
variable (σ : List aG)
def bg(cs:List AV)(c:Option Nat)(m:Nat)(rg:Nat->Row)(e:Ev):List AV:=cs++[.d (SL c 3 Row.enc m rg),.d (I e.ID),.d (I e.Day),.d (I e.Kind),.d (SL e.cn 1 encI e.nn e.gn),.d (SL e.ct 1 encS e.nt e.gt)]
attribute [go_sem] bg
def kJ(u:Use)(e:Ev)(k:Int)(tp:rU):Int:=Pg u.nv u.gv ⟨e.Day,k,aW u k,tp⟩
noncomputable def yC(u:Use)(m:Nat)(rg:Nat->Row)(e:Ev)(rd un:Int):Bool:=((qR m rg u.P rd un e.Day).2==0)&&(qR m rg u.P rd un e.Day).1.Granted
def dU.zero:dU:=⟨0,0,0,0,0,0,0⟩
def QC(u:Use)(k:Int):Int:=idxFrom (fun r:dU=>r.ID==k) (lst u.nr u.gr) 0
theorem rqIx_lt(u:Use)(k:Int):QC u k<u.nr:=mX _ u.nr u.gr
def jq(u:Use)(k:Int):dU×Bool:=if QC u k<0 then(dU.zero,false) else(u.gr (QC u k).toNat,true)
theorem YZ(τ:List aG)(u:Use)(c:Option Nat)(m:Nat)(rg:Nat->Row)(e:Ev)(a:AV)(ha: ∀n,a.under n)(n:Nat)(g:Nat->Rule)(k:Int):CS prog 235 [.ptr σ.length 1,.d (SL none 6 Rule.enc n g),.d (I k)] (σ++ .var (bg ((u.cells u.bG).set 1 (a)) c m rg e)::τ) (fun r σ' X'=>X'=[]/\r= .d (I k)/\σ'=σ++ .var (bg ((u.cells u.bG).set 1 ((if k=0 then .d (SL none 6 Rule.enc n g) else a))) c m rg e)::τ):=by
 refine CS.NT true [] func235 fun hwf=> ?_;refine fZ ?_ ?_<;>intro c0 d0
 ·obtain rfl:k=0:=by simpa using d0
  simp[go_sem];refine aj (sm ?_);exact au (by simp[go_sem,ay])
 ·have hk: ¬k=0:=by simpa using d0
  simp[go_sem];refine aj ?_;simp[go_sem,hk];exact .refl _
theorem YU(τ:List aG)(u:Use)(c:Option Nat)(m:Nat)(rg:Nat->Row)(e:Ev)(a:AV)(ha: ∀n,a.under n)(n:Nat)(g:Nat->iq)(k:Int):CS prog 238 [.ptr σ.length 2,.d (SL none 6 iq.enc n g),.d (I k)] (σ++ .var (bg ((u.cells u.bG).set 2 (a)) c m rg e)::τ) (fun r σ' X'=>X'=[]/\r= .d (I k)/\σ'=σ++ .var (bg ((u.cells u.bG).set 2 ((if k=0 then .d (SL none 6 iq.enc n g) else a))) c m rg e)::τ):=by
 refine CS.NT true [] func238 fun hwf=> ?_;refine fZ ?_ ?_<;>intro c0 d0
 ·obtain rfl:k=0:=by simpa using d0
  simp[go_sem];refine aj (sm ?_);exact au (by simp[go_sem,ay])
 ·have hk: ¬k=0:=by simpa using d0
  simp[go_sem];refine aj ?_;simp[go_sem,hk];exact .refl _
theorem setAg_cs(τ:List aG)(u:Use)(c:Option Nat)(m:Nat)(rg:Nat->Row)(e:Ev)(a:AV)(ha: ∀n,a.under n)(n:Nat)(g:Nat->jW)(k:Int):CS prog 240 [.ptr σ.length 4,.d (SL none 6 jW.enc n g),.d (I k)] (σ++ .var (bg ((u.cells u.bG).set 4 (a)) c m rg e)::τ) (fun r σ' X'=>X'=[]/\r= .d (I k)/\σ'=σ++ .var (bg ((u.cells u.bG).set 4 ((if k=0 then .d (SL none 6 jW.enc n g) else a))) c m rg e)::τ):=by
 refine CS.NT true [] func240 fun hwf=> ?_;refine fZ ?_ ?_<;>intro c0 d0
 ·obtain rfl:k=0:=by simpa using d0
  simp[go_sem];refine aj (sm ?_);exact au (by simp[go_sem,ay])
 ·have hk: ¬k=0:=by simpa using d0
  simp[go_sem];refine aj ?_;simp[go_sem,hk];exact .refl _
theorem YW(τ:List aG)(u:Use)(c:Option Nat)(m:Nat)(rg:Nat->Row)(e:Ev)(a:AV)(ha: ∀n,a.under n)(n:Nat)(g:Nat->jG)(k:Int):CS prog 242 [.ptr σ.length 5,.d (SL none 6 jG.enc n g),.d (I k)] (σ++ .var (bg ((u.cells u.bG).set 5 (a)) c m rg e)::τ) (fun r σ' X'=>X'=[]/\r= .d (I k)/\σ'=σ++ .var (bg ((u.cells u.bG).set 5 ((if k=0 then .d (SL none 6 jG.enc n g) else a))) c m rg e)::τ):=by
 refine CS.NT true [] func242 fun hwf=> ?_;refine fZ ?_ ?_<;>intro c0 d0
 ·obtain rfl:k=0:=by simpa using d0
  simp[go_sem];refine aj (sm ?_);exact au (by simp[go_sem,ay])
 ·have hk: ¬k=0:=by simpa using d0
  simp[go_sem];refine aj ?_;simp[go_sem,hk];exact .refl _
theorem Qv(τ:List aG)(u:Use)(c:Option Nat)(m:Nat)(rg:Nat->Row)(e:Ev)(a:AV)(ha: ∀n,a.under n)(n:Nat)(g:Nat->Bx)(k:Int):CS prog 248 [.ptr σ.length 6,.d (SL none 5 Bx.enc n g),.d (I k)] (σ++ .var (bg ((u.cells u.bG).set 6 (a)) c m rg e)::τ) (fun r σ' X'=>X'=[]/\r= .d (I k)/\σ'=σ++ .var (bg ((u.cells u.bG).set 6 ((if k=0 then .d (SL none 5 Bx.enc n g) else a))) c m rg e)::τ):=by
 refine CS.NT true [] func248 fun hwf=> ?_;refine fZ ?_ ?_<;>intro c0 d0
 ·obtain rfl:k=0:=by simpa using d0
  simp[go_sem];refine aj (sm ?_);exact au (by simp[go_sem,ay])
 ·have hk: ¬k=0:=by simpa using d0
  simp[go_sem];refine aj ?_;simp[go_sem,hk];exact .refl _
theorem setSh_cs(τ:List aG)(u:Use)(c:Option Nat)(m:Nat)(rg:Nat->Row)(e:Ev)(a:AV)(ha: ∀n,a.under n)(n:Nat)(g:Nat->sO)(k:Int):CS prog 253 [.ptr σ.length 7,.d (SL none 4 sO.enc n g),.d (I k)] (σ++ .var (bg ((u.cells u.bG).set 7 (a)) c m rg e)::τ) (fun r σ' X'=>X'=[]/\r= .d (I k)/\σ'=σ++ .var (bg ((u.cells u.bG).set 7 ((if k=0 then .d (SL none 4 sO.enc n g) else a))) c m rg e)::τ):=by
 refine CS.NT true [] func253 fun hwf=> ?_;refine fZ ?_ ?_<;>intro c0 d0
 ·obtain rfl:k=0:=by simpa using d0
  simp[go_sem];refine aj (sm ?_);exact au (by simp[go_sem,ay])
 ·have hk: ¬k=0:=by simpa using d0
  simp[go_sem];refine aj ?_;simp[go_sem,hk];exact .refl _
theorem setMv_cs(τ:List aG)(u:Use)(c:Option Nat)(m:Nat)(rg:Nat->Row)(e:Ev)(a:AV)(ha: ∀n,a.under n)(n:Nat)(g:Nat->iE)(k:Int):CS prog 324 [.ptr σ.length 8,.d (SL none 6 iE.enc n g),.d (I k)] (σ++ .var (bg ((u.cells u.bG).set 8 (a)) c m rg e)::τ) (fun r σ' X'=>X'=[]/\r= .d (I k)/\σ'=σ++ .var (bg ((u.cells u.bG).set 8 ((if k=0 then .d (SL none 6 iE.enc n g) else a))) c m rg e)::τ):=by
 refine CS.NT true [] func324 fun hwf=> ?_;refine fZ ?_ ?_<;>intro c0 d0
 ·obtain rfl:k=0:=by simpa using d0
  simp[go_sem];refine aj (sm ?_);exact au (by simp[go_sem,ay])
 ·have hk: ¬k=0:=by simpa using d0
  simp[go_sem];refine aj ?_;simp[go_sem,hk];exact .refl _
theorem Qs(τ:List aG)(u:Use)(c:Option Nat)(m:Nat)(rg:Nat->Row)(e:Ev)(a:AV)(ha: ∀n,a.under n)(n:Nat)(g:Nat->dU)(k:Int):CS prog 258 [.ptr σ.length 9,.d (SL none 7 dU.enc n g),.d (I k)] (σ++ .var (bg ((u.cells u.bG).set 9 (a)) c m rg e)::τ) (fun r σ' X'=>X'=[]/\r= .d (I k)/\σ'=σ++ .var (bg ((u.cells u.bG).set 9 ((if k=0 then .d (SL none 7 dU.enc n g) else a))) c m rg e)::τ):=by
 refine CS.NT true [] func258 fun hwf=> ?_;refine fZ ?_ ?_<;>intro c0 d0
 ·obtain rfl:k=0:=by simpa using d0
  simp[go_sem];refine aj (sm ?_);exact au (by simp[go_sem,ay])
 ·have hk: ¬k=0:=by simpa using d0
  simp[go_sem];refine aj ?_;simp[go_sem,hk];exact .refl _
theorem setBk_cs(τ:List aG)(u:Use)(c:Option Nat)(m:Nat)(rg:Nat->Row)(e:Ev)(a:AV)(ha: ∀n,a.under n)(n:Nat)(g:Nat->jH)(k:Int):CS prog 266 [.ptr σ.length 11,.d (SL none 4 jH.enc n g),.d (I k)] (σ++ .var (bg ((u.cells u.bG).set 11 (a)) c m rg e)::τ) (fun r σ' X'=>X'=[]/\r= .d (I k)/\σ'=σ++ .var (bg ((u.cells u.bG).set 11 ((if k=0 then .d (SL none 4 jH.enc n g) else a))) c m rg e)::τ):=by
 refine CS.NT true [] func266 fun hwf=> ?_;refine fZ ?_ ?_<;>intro c0 d0
 ·obtain rfl:k=0:=by simpa using d0
  simp[go_sem];refine aj (sm ?_);exact au (by simp[go_sem,ay])
 ·have hk: ¬k=0:=by simpa using d0
  simp[go_sem];refine aj ?_;simp[go_sem,hk];exact .refl _
theorem YX(τ:List aG)(u:Use)(c:Option Nat)(m:Nat)(rg:Nat->Row)(e:Ev)(a:AV)(ha: ∀n,a.under n)(n:Nat)(g:Nat->lD)(k:Int):CS prog 274 [.ptr σ.length 13,.d (SL none 2 lD.enc n g),.d (I k)] (σ++ .var (bg ((u.cells u.bG).set 13 (a)) c m rg e)::τ) (fun r σ' X'=>X'=[]/\r= .d (I k)/\σ'=σ++ .var (bg ((u.cells u.bG).set 13 ((if k=0 then .d (SL none 2 lD.enc n g) else a))) c m rg e)::τ):=by
 refine CS.NT true [] func274 fun hwf=> ?_;refine fZ ?_ ?_<;>intro c0 d0
 ·obtain rfl:k=0:=by simpa using d0
  simp[go_sem];refine aj (sm ?_);exact au (by simp[go_sem,ay])
 ·have hk: ¬k=0:=by simpa using d0
  simp[go_sem];refine aj ?_;simp[go_sem,hk];exact .refl _
theorem setPo1_cs(τ:List aG)(u:Use)(c:Option Nat)(m:Nat)(rg:Nat->Row)(e:Ev)(p:oC):CS prog 247 [.ptr σ.length 0,.agg (p.enc.map .d),.d (I 0)] (σ++ .var (bg (u.cells u.bG) c m rg e)::τ) (fun r σ' X'=>X'=[]/\r= .d (I 0)/\σ'=σ++ .var (bg ({ u with P:=p }.cells u.bG) c m rg e)::τ):=by
 refine CS.NT true [] func247 fun hwf=> ?_;refine cn0 rfl ?_ ?_<;>intro c0 d0<;>try simp at d0
 ·simp[go_sem];refine aj (sm ?_);exact au (by simp[go_sem,ay])
theorem setPo0_cs(τ:List aG)(u:Use)(c:Option Nat)(m:Nat)(rg:Nat->Row)(e:Ev)(p:oC)(k:Int)(hk: ¬k=0):aA prog 247 [.ptr σ.length 0,.agg (p.enc.map .d),.d (I k)] (σ++ .var (bg (u.cells u.bG) c m rg e)::τ) (.d (I k)):=by
 refine aA.bs true func247 fun hwf=> ?_;refine fZ ?_ ?_<;>intro c0 d0
 ·exact absurd (by simpa using d0) hk
 ·simp[go_sem];exact aj so
theorem BA(τ:List aG)(u:Use)(c:Option Nat)(m:Nat)(rg:Nat->Row)(e:Ev)(k:Int)(hn:u.nv<1000000000):aA prog 249 [.ptr σ.length 0,.d (I k)] (σ++ .var (bg (u.cells u.bG) c m rg e)::τ) (.d (B ((aW u k).Kind==3))):=by
 refine aA.bs true func249 fun hwf=> ?_;refine aO.mk (nD _ u k hn) (sm ?_);exact aj sc
theorem yI(τ:List aG)(u:Use)(c:Option Nat)(m:Nat)(rg:Nat->Row)(e:Ev)(k:Int)(tp:rU)(hn:u.nv<1000000000):CS prog 255 [.ptr σ.length 0,.d (I k),.agg (tp.enc.map .d)] (σ++ .var (bg (u.cells u.bG) c m rg e)::τ) (fun r σ' X'=>X'=[]/\r= .d (I (kJ u e k tp))/\σ'=σ++ .var (bg ((u.cells u.bG).set 8 (.d (SL none 6 iE.enc (if kJ u e k tp=0 then u.nv+1 else u.nv) (if kJ u e k tp=0 then aV u.gv u.nv ⟨e.Day,k,aW u k,tp⟩ else u.gv)))) c m rg e)::τ):=by
 refine CS.NT true [] func255 fun hwf=> ?_;refine T.dr 24 fun K hK=>sm ?_;refine dF.mk (nD _ u k hn) (sm ?_);refine dF.mk (wH _ none u.nv u.gv ⟨e.Day,k,aW u k,tp⟩ hn) (sm ?_);refine hK _ ?_;refine go true (sm ?_);refine aO.gen (setMv_cs σ _ u c m rg e (.d (SL none 6 iE.enc u.nv u.gv)) (fun _=>trivial) _ _ _) ?_;rintro r σ' X ⟨rfl,rfl,rfl⟩;simp[go_sem];refine aj ?_;by_cases hk:kJ u e k tp=0
 ·have hk2:=hk;unfold kJ at hk2;simp[go_sem,kJ,hk2];exact au (by simp[go_sem,ay])
 ·have hk2:=hk;unfold kJ at hk2;simp[go_sem,kJ,hk2];exact au (by simp[go_sem,ay])
theorem TI(τ:List aG)(u:Use)(c:Option Nat)(m:Nat)(rg:Nat->Row)(e:Ev)(rd un:Int)(hm:m<1000000000)(hp:kF u.P)(h1:σ[1]? =some (.loc 1)):aA prog 256 [.ptr σ.length 0,.d (I rd),.d (I un)] (σ++ .var (bg (u.cells u.bG) c m rg e)::τ) (.d (B (yC u m rg e rd un))):=by
 refine aA.bs true func256 fun hwf=> ?_;apply bW 22 20 21 T.mixed (by kernel_rfl)
 ·intro τ K hK;simp[go_sem];refine dF.mk (qB _ c m rg u.P rd un e.Day hm hp (aC h1)) (sm ?_);exact hK _ _
 intro K hK;simp[go_sem];refine hK _ ?_;refine go true (sm ?_);refine aj ?_;simp[go_sem,yC]
theorem G7(τ:List aG)(r:dU)(k:Int):aA prog 325 [.agg (r.enc.map .d),.ptr σ.length 0] (σ++ .var [.d (I k)]::τ) (.d (B (r.ID==k))):=by
 refine aA.bs true func325 fun hwf=> ?_;exact aj so
theorem YD(τ:List aG)(u:Use)(c:Option Nat)(m:Nat)(rg:Nat->Row)(e:Ev)(k:Int)(hn:u.nr<1000000000):aA prog 259 [.ptr σ.length 0,.d (I k)] (σ++ .var (bg (u.cells u.bG) c m rg e)::τ) (.eU [.agg ((jq u k).1.enc.map .d),.d (B (jq u k).2)]):=by
 have hlt:=rqIx_lt u k;unfold QC at hlt;refine aA.bs true func259 fun hwf=> ?_;refine aO.mk (rD _ none u.nr u.gr _ _ (fun r=>r.ID==k) hn (fun i hi=>by have h:=nA (G7 (σ++ .var (bg (u.cells u.bG) c m rg e)::τ) [.var (dU.zero.enc.map .d)] (u.gr i) k);simpa[go_sem,dU.zero] using h)) ?_;simp[go_sem];refine aJ [0,4,6] ?_ ?_<;>intro c0 d0
 ·have hz:jq u k=(dU.zero,false):=by unfold jq QC;rw[if_pos d0]
  simp[go_sem];refine aj ?_;rw[hz];simp[go_sem,dU.zero]
 ·have hz:jq u k=(u.gr (idxFrom (fun r:dU=>r.ID==k) (lst u.nr u.gr) 0).toNat,true):=by unfold jq QC;rw[if_neg (by omega)]
  simp[go_sem];repeat refine⟨by omega,?_⟩
  rw[hz];exact aj sc
end Go.Proofs.YtmahphgjkpgidaaGreatDoor
