/- Contracts and lemmas, joined out of smaller texts by a program; no conditions. -/
import Derived.Test.YthlhlnbcjlpigaaGreatDoorKB28
set_option linter.unusedVariables false
set_option linter.unusedSimpArgs false
set_option maxHeartbeats 2000000
set_option maxRecDepth 100000
namespace Go.Proofs.YthlhlnbcjlpigaaGreatDoor
open Go.aU Go.bY Go.Proofs.Tryz
variable (σ : List aC)
def fD(cs:List AV)(c:Option Nat)(m:Nat)(rg:Nat->Row)(e:Ev):List AV:=cs++[.d (SL c 3 Row.enc m rg),.d (I e.ID),.d (I e.Day),.d (I e.Kind),.d (SL e.cn 1 encI e.nn e.gn),.d (SL e.ct 1 encS e.nt e.gt)]
attribute [go_sem] fD
def nD(u:Use)(e:Ev)(k:Int)(tp:sH):Int:=Q7 u.nv u.gv ⟨e.Day,k,aY u k,tp⟩
noncomputable def EO(u:Use)(m:Nat)(rg:Nat->Row)(e:Ev)(rd un:Int):Bool:=((qC m rg u.P rd un e.Day).2==0)&&(qC m rg u.P rd un e.Day).1.Granted
def eU.zero:eU:=⟨0,0,0,0,0,0,0⟩
def rqIx(u:Use)(k:Int):Int:=idxFrom (fun r:eU=>r.ID==k) (lst u.nr u.gr) 0
theorem rqIx_lt(u:Use)(k:Int):rqIx u k<u.nr:=qB _ u.nr u.gr
def uD(u:Use)(k:Int):eU×Bool:=if rqIx u k<0 then(eU.zero,false) else(u.gr (rqIx u k).toNat,true)
theorem Xc(τ:List aC)(u:Use)(c:Option Nat)(m:Nat)(rg:Nat->Row)(e:Ev)(a:AV)(ha: ∀n,a.under n)(n:Nat)(g:Nat->Bx)(k:Int):CS prog 270 [.ptr σ.length 6,.d (SL none 5 Bx.enc n g),.d (I k)] (σ++ .var (fD ((u.cells u.dw).set 6 (a)) c m rg e)::τ) (fun r σ' X'=>X'=[]/\r= .d (I k)/\σ'=σ++ .var (fD ((u.cells u.dw).set 6 ((if k=0 then .d (SL none 5 Bx.enc n g) else a))) c m rg e)::τ):=by
 refine CS.bsD true [] func270 fun hwf=> ?_;refine jT ?_ ?_<;>intro c0 d0
 ·obtain rfl:k=0:=by simpa using d0
  simp[go_sem];refine aj (sm ?_);exact au (by simp[go_sem,aJ])
 ·have hk: ¬k=0:=by simpa using d0
  simp[go_sem];refine aj ?_;simp[go_sem,hk];exact .refl _
theorem setSh_cs(τ:List aC)(u:Use)(c:Option Nat)(m:Nat)(rg:Nat->Row)(e:Ev)(a:AV)(ha: ∀n,a.under n)(n:Nat)(g:Nat->nU)(k:Int):CS prog 275 [.ptr σ.length 7,.d (SL none 4 nU.enc n g),.d (I k)] (σ++ .var (fD ((u.cells u.dw).set 7 (a)) c m rg e)::τ) (fun r σ' X'=>X'=[]/\r= .d (I k)/\σ'=σ++ .var (fD ((u.cells u.dw).set 7 ((if k=0 then .d (SL none 4 nU.enc n g) else a))) c m rg e)::τ):=by
 refine CS.bsD true [] func275 fun hwf=> ?_;refine jT ?_ ?_<;>intro c0 d0
 ·obtain rfl:k=0:=by simpa using d0
  simp[go_sem];refine aj (sm ?_);exact au (by simp[go_sem,aJ])
 ·have hk: ¬k=0:=by simpa using d0
  simp[go_sem];refine aj ?_;simp[go_sem,hk];exact .refl _
theorem setMv_cs(τ:List aC)(u:Use)(c:Option Nat)(m:Nat)(rg:Nat->Row)(e:Ev)(a:AV)(ha: ∀n,a.under n)(n:Nat)(g:Nat->fJ)(k:Int):CS prog 335 [.ptr σ.length 8,.d (SL none 6 fJ.enc n g),.d (I k)] (σ++ .var (fD ((u.cells u.dw).set 8 (a)) c m rg e)::τ) (fun r σ' X'=>X'=[]/\r= .d (I k)/\σ'=σ++ .var (fD ((u.cells u.dw).set 8 ((if k=0 then .d (SL none 6 fJ.enc n g) else a))) c m rg e)::τ):=by
 refine CS.bsD true [] func335 fun hwf=> ?_;refine jT ?_ ?_<;>intro c0 d0
 ·obtain rfl:k=0:=by simpa using d0
  simp[go_sem];refine aj (sm ?_);exact au (by simp[go_sem,aJ])
 ·have hk: ¬k=0:=by simpa using d0
  simp[go_sem];refine aj ?_;simp[go_sem,hk];exact .refl _
theorem setRq_cs(τ:List aC)(u:Use)(c:Option Nat)(m:Nat)(rg:Nat->Row)(e:Ev)(a:AV)(ha: ∀n,a.under n)(n:Nat)(g:Nat->eU)(k:Int):CS prog 280 [.ptr σ.length 9,.d (SL none 7 eU.enc n g),.d (I k)] (σ++ .var (fD ((u.cells u.dw).set 9 (a)) c m rg e)::τ) (fun r σ' X'=>X'=[]/\r= .d (I k)/\σ'=σ++ .var (fD ((u.cells u.dw).set 9 ((if k=0 then .d (SL none 7 eU.enc n g) else a))) c m rg e)::τ):=by
 refine CS.bsD true [] func280 fun hwf=> ?_;refine jT ?_ ?_<;>intro c0 d0
 ·obtain rfl:k=0:=by simpa using d0
  simp[go_sem];refine aj (sm ?_);exact au (by simp[go_sem,aJ])
 ·have hk: ¬k=0:=by simpa using d0
  simp[go_sem];refine aj ?_;simp[go_sem,hk];exact .refl _
theorem setBk_cs(τ:List aC)(u:Use)(c:Option Nat)(m:Nat)(rg:Nat->Row)(e:Ev)(a:AV)(ha: ∀n,a.under n)(n:Nat)(g:Nat->iy)(k:Int):CS prog 289 [.ptr σ.length 11,.d (SL none 4 iy.enc n g),.d (I k)] (σ++ .var (fD ((u.cells u.dw).set 11 (a)) c m rg e)::τ) (fun r σ' X'=>X'=[]/\r= .d (I k)/\σ'=σ++ .var (fD ((u.cells u.dw).set 11 ((if k=0 then .d (SL none 4 iy.enc n g) else a))) c m rg e)::τ):=by
 refine CS.bsD true [] func289 fun hwf=> ?_;refine jT ?_ ?_<;>intro c0 d0
 ·obtain rfl:k=0:=by simpa using d0
  simp[go_sem];refine aj (sm ?_);exact au (by simp[go_sem,aJ])
 ·have hk: ¬k=0:=by simpa using d0
  simp[go_sem];refine aj ?_;simp[go_sem,hk];exact .refl _
theorem Jp(τ:List aC)(u:Use)(c:Option Nat)(m:Nat)(rg:Nat->Row)(e:Ev)(k:Int)(hn:u.nv<1000000000):ay prog 271 [.ptr σ.length 0,.d (I k)] (σ++ .var (fD (u.cells u.dw) c m rg e)::τ) (.d (B ((aY u k).Kind==3))):=by
 refine ay.bs true func271 fun hwf=> ?_;refine aW.mk (lI _ u k hn) (sm ?_);exact aj sc
theorem EZ(τ:List aC)(u:Use)(c:Option Nat)(m:Nat)(rg:Nat->Row)(e:Ev)(k:Int)(tp:sH)(hn:u.nv<1000000000):CS prog 277 [.ptr σ.length 0,.d (I k),.agg (tp.enc.map .d)] (σ++ .var (fD (u.cells u.dw) c m rg e)::τ) (fun r σ' X'=>X'=[]/\r= .d (I (nD u e k tp))/\σ'=σ++ .var (fD ((u.cells u.dw).set 8 (.d (SL none 6 fJ.enc (if nD u e k tp=0 then u.nv+1 else u.nv) (if nD u e k tp=0 then gV u.gv u.nv ⟨e.Day,k,aY u k,tp⟩ else u.gv)))) c m rg e)::τ):=by
 refine CS.bsD true [] func277 fun hwf=> ?_;refine T.dr 24 fun K hK=>sm ?_;refine dS.mk (lI _ u k hn) (sm ?_);refine dS.mk (tZ _ none u.nv u.gv ⟨e.Day,k,aY u k,tp⟩ hn) (sm ?_);refine hK _ ?_;refine go true (sm ?_);refine aW.gen (setMv_cs σ _ u c m rg e (.d (SL none 6 fJ.enc u.nv u.gv)) (fun _=>trivial) _ _ _) ?_;rintro r σ' X ⟨rfl,rfl,rfl⟩;simp[go_sem];refine aj ?_;by_cases hk:nD u e k tp=0
 ·have hk2:=hk;unfold nD at hk2;simp[go_sem,nD,hk2];exact au (by simp[go_sem,aJ])
 ·have hk2:=hk;unfold nD at hk2;simp[go_sem,nD,hk2];exact au (by simp[go_sem,aJ])
theorem Qj(τ:List aC)(u:Use)(c:Option Nat)(m:Nat)(rg:Nat->Row)(e:Ev)(rd un:Int)(hm:m<1000000000)(hp:jJ u.P)(h1:σ[1]? =some (.loc 1)):ay prog 278 [.ptr σ.length 0,.d (I rd),.d (I un)] (σ++ .var (fD (u.cells u.dw) c m rg e)::τ) (.d (B (EO u m rg e rd un))):=by
 refine ay.bs true func278 fun hwf=> ?_;apply jm 22 20 21 T.mixed (by kernel_rfl)
 ·intro τ K hK;simp[go_sem];refine dS.mk (vg _ c m rg u.P rd un e.Day hm hp (aO h1)) (sm ?_);exact hK _ _
 intro K hK;simp[go_sem];refine hK _ ?_;refine go true (sm ?_);refine aj ?_;simp[go_sem,EO]
theorem Ud(τ:List aC)(r:eU)(k:Int):ay prog 337 [.agg (r.enc.map .d),.ptr σ.length 0] (σ++ .var [.d (I k)]::τ) (.d (B (r.ID==k))):=by
 refine ay.bs true func337 fun hwf=> ?_;exact aj so
end Go.Proofs.YthlhlnbcjlpigaaGreatDoor
