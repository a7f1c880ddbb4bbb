/- Contracts and lemmas, joined out of smaller texts by a program; no conditions. -/
import Derived.Test.YthlhlnbcjlpigaaGreatDoorKB30
set_option linter.unusedVariables false
set_option linter.unusedSimpArgs false
set_option maxHeartbeats 2000000
set_option maxRecDepth 100000
namespace Go.Proofs.YthlhlnbcjlpigaaGreatDoor
open Go.aU Go.bY Go.Proofs.Tryz
variable (σ : List aC)
def rX(e:Ev):Bx:=⟨e.gn 0,e.gn 1,e.gn 2,e.gn 3,0,fun _=>⟨0,0⟩⟩
def Jq(e:Ev):nU:=⟨e.gn 0,e.gn 1,e.gn 2,e.gn 3⟩
def Zd(e:Ev):iy:=⟨e.gn 0,e.gn 1,⟨e.gn 2,e.gn 3⟩⟩
def abU(u:Use)(e:Ev):Use:= { u with nb:=u.nb+1,gb:=gV u.gb u.nb (rX e) }
def abE(u:Use)(e:Ev):Int:=dQ (u.nb+1) (gV u.gb u.nb (rX e))
def puE(u:Use)(e:Ev):Int:=if(aY u (e.gn 0)).Kind=3 then 11 else wQ u.nb u.gb (e.gn 0) (e.gn 1) ⟨e.gn 2,e.gn 3⟩
def puU(u:Use)(e:Ev):Use:= { u with gb:=putG u.gb (qc u.nb u.gb (e.gn 0)).toNat (e.gn 1).toNat ⟨e.gn 2,e.gn 3⟩ }
def asU(u:Use)(e:Ev):Use:= { u with nf:=u.nf+1,gf:=gV u.gf u.nf (Jq e) }
def asE(u:Use)(e:Ev):Int:=eF (u.nf+1) (gV u.gf u.nf (Jq e))
def boE(u:Use)(e:Ev):Int:=if e.gn 2<e.Day then 5 else Ld u.nI u.nk u.gk (Zd e)
def boU(u:Use)(e:Ev):Use:= { u with nk:=u.nk+1,gk:=gV u.gk u.nk (Zd e) }
def I4(u:Use)(e:Ev)(k:Int)(tp:sH):Use:= { u with nv:=u.nv+1,gv:=gV u.gv u.nv ⟨e.Day,k,aY u k,tp⟩ }
def TF(u:Use)(e:Ev):eU:=⟨e.gn 0,e.gn 1,e.gn 2,(qP u.nb u.gb (e.gn 2)).1,e.Day,0,0⟩
noncomputable def akE(u:Use)(m:Nat)(rg:Nat->Row)(e:Ev):Int:=if(qP u.nb u.gb (e.gn 2)).2.2=false then 7 else if EO u m rg e (e.gn 1) (e.gn 2)=false then 22 else nR u.nr u.gr (TF u e)
def akU(u:Use)(e:Ev):Use:= { u with nr:=u.nr+1,gr:=gV u.gr u.nr (aag (TF u e)) }
theorem bx_snoc(u:Use)(e:Ev): ∀q,q<u.nb+1->(Bx.enc (gV u.gb u.nb (rX e) q)).length=(aX u.nb (fun q=>Bx.enc (u.gb q)) (rowsOf 5 [I (e.gn 0),I (e.gn 1),I (e.gn 2),I (e.gn 3),.v (.slice none 0 0)]) q).length/\∀k,k<5->∀w j v,RD w j ((aX u.nb (fun q=>Bx.enc (u.gb q)) (rowsOf 5 [I (e.gn 0),I (e.gn 1),I (e.gn 2),I (e.gn 3),.v (.slice none 0 0)]) q).getD k default) v->RD w j ((Bx.enc (gV u.gb u.nb (rX e) q)).getD k default) v:=by
 intro q hq;unfold aX gV;split
 ·exact⟨rfl,fun k hk w j v h=>h⟩
 ·obtain rfl:q=u.nb:=by omega
  refine⟨by simp[rowsOf,Bx.enc],fun k hk w j v h=> ?_⟩;rcases k with _|_|_|_|_|k
  ·simpa[rowsOf,Bx.enc,rX] using h
  ·simpa[rowsOf,Bx.enc,rX] using h
  ·simpa[rowsOf,Bx.enc,rX] using h
  ·simpa[rowsOf,Bx.enc,rX] using h
  ·have h2:RD w j (.v (.slice none 0 0)) v:=by simpa[rowsOf] using h
   exact RD.nil h2
  ·omega
theorem cat_snoc'{α:Type}{enc:α->List D}{g:Nat->α}{n sz:Nat}{ds:List D}{x:α}(h:ds.take sz=enc x): ∀q,q<n+1->aX n (fun q=>enc (g q)) (rowsOf sz ds) q=enc (gV g n x q):=by
 intro q hq;unfold aX gV;split
 ·rfl
 ·obtain rfl:q=n:=by omega
  simp[rowsOf,h]
theorem LV(σ p:List aC)(a:aC)(r:List aC):σ++(p++a::r)=(σ++(p++[a]))++r:=by simp
theorem lD{σ A:List aC}{a:List AV}{r:List aC}(h:aU.Leaves A (σ++[.var a])): ∃σ',(∃x,σ++ .var a::r=σ'++x)/\aU.Leaves A σ'/\∃cs,σ'=σ++[.var cs]:=⟨_,⟨r,LV σ [] (.var a) r⟩,h,a,rfl⟩
theorem kG{σ A:List aC}{a:List AV}{r:List aC}(h:aU.Leaves A (σ++[.dead,.var a])): ∃σ',(∃x,σ++ .dead:: .var a::r=σ'++x)/\aU.Leaves A σ'/\∃cs,σ'=σ++[.dead,.var cs]:=⟨_,⟨r,LV σ [.dead] (.var a) r⟩,h,a,rfl⟩
theorem fail_s3{σ A:List aC}{a:List AV}{r:List aC}(h:aU.Leaves A (σ++[.dead,.dead,.dead,.var a])): ∃σ',(∃x,σ++ .dead:: .dead:: .dead:: .var a::r=σ'++x)/\aU.Leaves A σ'/\∃cs,σ'=σ++[.dead,.dead,.dead,.var cs]:=⟨_,⟨r,LV σ [.dead,.dead,.dead] (.var a) r⟩,h,a,rfl⟩
theorem fail_s4{σ A:List aC}{a:List AV}{r:List aC}(h:aU.Leaves A (σ++[.dead,.dead,.dead,.dead,.var a])): ∃σ',(∃x,σ++ .dead:: .dead:: .dead:: .dead:: .var a::r=σ'++x)/\aU.Leaves A σ'/\∃cs,σ'=σ++[.dead,.dead,.dead,.dead,.var cs]:=⟨_,⟨r,LV σ [.dead,.dead,.dead,.dead] (.var a) r⟩,h,a,rfl⟩
theorem Qg(u:Use)(c:Option Nat)(m:Nat)(rg:Nat->Row)(e:Ev)(d:Int):ay prog 256 [.ptr σ.length 0,.d (I d)] (σ++[.var (fD (u.cells u.dw) c m rg e)]) (.d (B (decide (d<e.Day)))):=by
 refine ay.bs true func256 fun hwf=> ?_;exact aj so
theorem WM(u:Use)(c:Option Nat)(m:Nat)(rg:Nat->Row)(e:Ev)(hu:dR u)(hn:4<=e.nn)(hb:e.nn<1000000000):CS prog 210 [.ptr σ.length 0] (σ++[.var (fD (u.cells u.dw) c m rg e)]) (fun r σ' X'=>X'=[]/\r= .d (I (boE u e))/\∃cs,σ'=σ++[.var cs]/\(boE u e=0->cs=fD ((boU u e).cells (boU u e).dw) c m rg e)):=by
 have b1:=hu.nk;refine CS.bsD true [] func210 fun hwf=> ?_;repeat refine⟨by omega,?_⟩
 refine aW.mk (Qg _ u c m rg e (e.gn 2)) (sm ?_);refine aH [0,3] ?_ ?_<;>intro c0 d0
 ·have hz:boE u e=5:=if_pos (by simpa using d0);simp[go_sem];refine aj ?_;rw[hz];simp[go_sem];refine lD ?_;exact .refl _
 ·have hz:boE u e=Ld u.nI u.nk u.gk (Zd e):=if_neg (by simpa using d0);simp[go_sem];refine T.dr 29 fun K hK=>sm ?_;repeat refine⟨by omega,?_⟩
  refine dS.mk (Ip _ u.nI none u.nk u.gk (Zd e) (by omega)) (sm ?_);refine hK _ ?_;refine go true (sm ?_);refine aW.gen (setBk_cs σ _ u c m rg e (.d (SL none 4 iy.enc u.nk u.gk)) (fun _=>trivial) _ _ _) ?_;rintro r σ' X ⟨rfl,rfl,rfl⟩;simp[go_sem];refine aj ?_;rw[hz];by_cases hk:Ld u.nI u.nk u.gk (Zd e)=0
  ·simp[go_sem,hk,boU];exact au (by simp[go_sem,aJ])
  ·simp[go_sem,hk,boU];refine lD ?_;exact .refl _
theorem ZQ(u:Use)(c:Option Nat)(m:Nat)(rg:Nat->Row)(e:Ev)(hu:dR u)(hn:4<=e.nn)(hb:e.nn<1000000000):CS prog 203 [.ptr σ.length 0] (σ++[.var (fD (u.cells u.dw) c m rg e)]) (fun r σ' X'=>X'=[]/\r= .d (I (puE u e))/\∃cs,σ'=σ++[.var cs]/\(puE u e=0->cs=fD ((puU u e).cells (puU u e).dw) c m rg e)):=by
 have b1:=hu.nb;have b3:=hu.nv;refine CS.bsD true [] func203 fun hwf=> ?_;repeat refine⟨by omega,?_⟩
 refine aW.mk (Jp σ _ u c m rg e (e.gn 0) (by omega)) (sm ?_);refine aH [0,3] ?_ ?_<;>intro c0 d0
 ·have hz:puE u e=11:=if_pos (by simpa using d0);simp[go_sem];refine aj ?_;rw[hz];simp[go_sem];refine lD ?_;exact .refl _
 ·have hz:puE u e=wQ u.nb u.gb (e.gn 0) (e.gn 1) ⟨e.gn 2,e.gn 3⟩:=if_neg (by simpa using d0);simp[go_sem];refine T.dr 23 fun K hK=>sm ?_;repeat refine⟨by omega,?_⟩
  refine dS.mk (box_Put_cs _ none u.nb u.gb (e.gn 0) (e.gn 1) ⟨e.gn 2,e.gn 3⟩ (by omega) (fun i hi=>by have:=hu.bx i hi;omega)) ?_;simp[go_sem];refine hK _ ?_;refine go true (sm ?_);refine aW.gen (Xc σ _ u c m rg e (.d (SL none 5 Bx.enc u.nb u.gb)) (fun _=>trivial) _ _ _) ?_;rintro r σ' X ⟨rfl,rfl,rfl⟩;simp[go_sem];refine aj ?_;rw[hz];by_cases hk:wQ u.nb u.gb (e.gn 0) (e.gn 1) ⟨e.gn 2,e.gn 3⟩=0
  ·simp[go_sem,hk,puU];exact au (by simp[go_sem,aJ])
  ·simp[go_sem,hk,puU];refine lD ?_;exact .refl _
theorem Qi(u:Use)(c:Option Nat)(m:Nat)(rg:Nat->Row)(e:Ev)(hu:dR u)(hn:4<=e.nn)(hb:e.nn<1000000000)(sO:sF σ):CS prog 202 [.ptr (σ.length+4) 0] (σ++[.arr 5 u.nb (fun i=>Bx.enc (u.gb i)),.dead,.dead,.dead,.var (fD ((u.cells u.dw).set 6 (.ms σ.length 5 0 u.nb)) c m rg e)]) (fun r σ' X'=>X'=[σ.length]/\r= .d (I (abE u e))/\∃cs,σ'=σ++[.dead,.dead,.dead,.dead,.var cs]/\(abE u e=0->cs=fD ((abU u e).cells (abU u e).dw) c m rg e)):=by
 have b1:=hu.nb;have hnn: ∀i,i<u.nb+1->(gV u.gb u.nb (rX e) i).nc<1000000000:=fun i hi=>by
  unfold gV;split
  ·have:=hu.bx i (by omega);omega
  ·simp[rX]
 refine CS.bdD true [σ.length] func202 fun hwf=> ?_;simp[go_sem];refine T.dr 19 fun K hK=> ?_;simp[go_sem,sO.zero];repeat refine⟨by omega,?_⟩
 refine hK _ ?_;refine go true ?_;simp[go_sem];refine awp_rowsS σ.length (fun q=>Bx.enc (gV u.gb u.nb (rX e) q)) (by simp[go_sem];exact⟨rfl,rfl,rfl⟩) (by exact bx_snoc u e) (by simp[go_sem];rfl) ?_;refine aF sO σ.length ?_;refine T.dr 7 fun K hK=> ?_;simp[go_sem];refine dS.mk (qG _ none (u.nb+1) (gV u.gb u.nb (rX e)) (by omega) hnn) ?_;simp[go_sem];have h:=nA (Xc (σ++[.dead,.dead,.dead,.dead]) [] u c m rg e .undef (fun _=>trivial) (u.nb+1) (gV u.gb u.nb (rX e)) (dQ (u.nb+1) (gV u.gb u.nb (rX e))));refine aW.gen h ?_;rintro r σ' X ⟨rfl,rfl,rfl⟩;simp[go_sem];refine hK _ ?_;refine go true ?_;simp[go_sem];refine aj ?_;unfold abE;by_cases hk:dQ (u.nb+1) (gV u.gb u.nb (rX e))=0
 ·simp[go_sem,hk,abU];exact au (by simp[go_sem,aJ])
 ·simp[go_sem,hk,abU];refine fail_s4 ?_;exact au (by simp[go_sem,aJ])
theorem Kq(u:Use)(c:Option Nat)(m:Nat)(rg:Nat->Row)(e:Ev)(hu:dR u)(hn:4<=e.nn)(hb:e.nn<1000000000)(sO:sF σ):CS prog 205 [.ptr (σ.length+3) 0] (σ++[.arr 4 u.nf (fun i=>nU.enc (u.gf i)),.dead,.dead,.var (fD ((u.cells u.dw).set 7 (.ms σ.length 4 0 u.nf)) c m rg e)]) (fun r σ' X'=>X'=[σ.length]/\r= .d (I (asE u e))/\∃cs,σ'=σ++[.dead,.dead,.dead,.var cs]/\(asE u e=0->cs=fD ((asU u e).cells (asU u e).dw) c m rg e)):=by
 have b1:=hu.nf;refine CS.bdD true [σ.length] func205 fun hwf=> ?_;simp[go_sem];refine T.dr 19 fun K hK=> ?_;simp[go_sem,sO.zero];repeat refine⟨by omega,?_⟩
 refine hK _ ?_;refine go true ?_;simp[go_sem];refine bC σ.length (fun q=>nU.enc (gV u.gf u.nf (Jq e) q)) (by simp[go_sem];exact⟨rfl,rfl,rfl⟩) (by exact fun q hq=>cat_snoc' (enc:=nU.enc) (x:=Jq e) rfl q hq) (by simp[go_sem];rfl) ?_;refine aF sO σ.length ?_;refine T.dr 7 fun K hK=> ?_;simp[go_sem];refine dS.mk (uS _ none (u.nf+1) (gV u.gf u.nf (Jq e)) (by omega)) ?_;simp[go_sem];have h:=nA (setSh_cs (σ++[.dead,.dead,.dead]) [] u c m rg e .undef (fun _=>trivial) (u.nf+1) (gV u.gf u.nf (Jq e)) (eF (u.nf+1) (gV u.gf u.nf (Jq e))));refine aW.gen h ?_;rintro r σ' X ⟨rfl,rfl,rfl⟩;simp[go_sem];refine hK _ ?_;refine go true ?_;simp[go_sem];refine aj ?_;unfold asE;by_cases hk:eF (u.nf+1) (gV u.gf u.nf (Jq e))=0
 ·simp[go_sem,hk,asU];exact au (by simp[go_sem,aJ])
 ·simp[go_sem,hk,asU];refine fail_s3 ?_;exact au (by simp[go_sem,aJ])
def yV(u:Use)(s:Int)(k:Int)(i:Nat)(t:Int):Nat->Int
 |0=>t
 |n+1=>yV u s k (i+1) (if(u.gb i).ID≠k/\aY u (u.gb i).ID=⟨1,s⟩ then IntKind.i64.wrap (t+(u.gb i).Width) else t) n
theorem WO{u:Use}{s k:Int}{i:Nat}{t:Int}{n:Nat}(h:i<n):yV u s k i t (n-i)=yV u s k (i+1) (if(u.gb i).ID≠k/\aY u (u.gb i).ID=⟨1,s⟩ then IntKind.i64.wrap (t+(u.gb i).Width) else t) (n-(i+1)):=by
 obtain⟨q,hq⟩: ∃q,n-i=q+1:=⟨n-i-1,by omega⟩;rw[hq,yV,show n-(i+1)=q by omega]
def QN(u:Use)(s:nU)(b:Bx):Int:=if s.dU≠b.dU then 10 else if s.Length<yV u s.ID b.ID 0 b.Width u.nb then 12 else 0
def ZC(u:Use)(e:Ev):Int:=if qc u.nb u.gb (e.gn 0)<0\/(e.gn 1=1/\uU u.nf u.gf (e.gn 2)<0) then 7 else if(aY u (e.gn 0)).Kind=3\/e.gn 1=3 then 11
 else if e.gn 1=1/\QN u (u.gf (uU u.nf u.gf (e.gn 2)).toNat) (u.gb (qc u.nb u.gb (e.gn 0)).toNat)≠0 then QN u (u.gf (uU u.nf u.gf (e.gn 2)).toNat) (u.gb (qc u.nb u.gb (e.gn 0)).toNat) else nD u e (e.gn 0) ⟨e.gn 1,e.gn 2⟩
theorem Ub(τ:List aC)(u:Use)(c:Option Nat)(m:Nat)(rg:Nat->Row)(e:Ev)(s:nU)(b:Bx)(hu:dR u):ay prog 276 [.ptr σ.length 0,.agg (s.enc.map .d),.agg (b.enc.map .d)] (σ++ .var (fD (u.cells u.dw) c m rg e)::τ) (.d (I (QN u s b))):=by
 have b1:=hu.nb;have b3:=hu.nv;refine ay.bs true func276 fun hwf=> ?_;refine aH [0,4,5] ?_ ?_<;>intro c0 d0
 ·have hz:QN u s b=10:=if_pos (by simpa using d0);simp[go_sem];rw[hz];exact aj sc
 ·have hz0: ¬s.dU≠b.dU:=by simpa using d0
  simp[go_sem];refine gy (α:=Nat×Int) true [0,4,5,7,21,22,23] (fun x=>[(23,.d (I x.1)),(7,.d (I x.2))]) (fun x=>_) (fun x=>x.1<=u.nb/\yV u s.ID b.ID 0 b.Width u.nb=yV u s.ID b.ID x.1 x.2 (u.nb-x.1)) (fun x=>u.nb-x.1) (0,b.Width) ?_ (hx:=⟨by simp,by simp⟩);rintro⟨i,t⟩ ⟨hi,hx⟩;dsimp only at hi hx;simp[go_sem];refine aH [0,4,5,7,21,22,23] ?_ ?_<;>intro c1 d1
  ·have hi1:i<u.nb:=by omega
   have hst:=WO (u:=u) (s:=s.ID) (k:=b.ID) (t:=t) hi1;simp[go_sem,hi1];refine T.dr 18 fun K hK=> ?_;simp[go_sem];refine dS.mk' (.agg ((aY u (u.gb i).ID).enc.map .d)) (fun _=>lI _ u (u.gb i).ID (by omega)) ?_;simp[go_sem];refine hK _ ?_;refine go true ?_;simp[go_sem];refine aH [0,4,5,7,9,21,22,23] ?_ ?_<;>intro c2 d2
   ·have hc2:(u.gb i).ID≠b.ID/\aY u (u.gb i).ID=⟨1,s.ID⟩:=by rw[NZ];simpa using d2
    simp(disch:=first|omega|simp) [go_sem,aA];refine dB ((i+1,IntKind.i64.wrap (t+(u.gb i).Width))) ⟨by dsimp only;omega,by dsimp only;rw[hx,hst,if_pos hc2]⟩ (h:=by simp[go_sem]<;>omega)
   ·have hc2: ¬((u.gb i).ID≠b.ID/\aY u (u.gb i).ID=⟨1,s.ID⟩):=by rw[NZ];simpa using d2
    simp(disch:=first|omega|simp) [go_sem,aA];refine dB ((i+1,t)) ⟨by dsimp only;omega,by dsimp only;rw[hx,hst,if_neg hc2]⟩ (h:=by simp[go_sem]<;>omega)
  ·have hsum:yV u s.ID b.ID 0 b.Width u.nb=t:=by rw[hx,show u.nb-i=0 by omega];rfl
   simp[go_sem];refine go true (sm ?_);refine aH [] ?_ ?_<;>intro c3 d3
   ·have hz:QN u s b=12:=by unfold QN;rw[if_neg hz0,hsum,if_pos (by omega)]
    simp[go_sem];rw[hz];exact aj sc
   ·have hz:QN u s b=0:=by unfold QN;rw[if_neg hz0,hsum,if_neg (by omega)]
    simp[go_sem];rw[hz];exact aj sc
theorem WH(u:Use)(c:Option Nat)(m:Nat)(rg:Nat->Row)(e:Ev)(hu:dR u)(hn:3<=e.nn)(hb:e.nn<1000000000):CS prog 206 [.ptr σ.length 0] (σ++[.var (fD (u.cells u.dw) c m rg e)]) (fun r σ' X'=>X'=[]/\r= .d (I (ZC u e))/\∃cs,σ'=σ++[.var cs]/\(ZC u e=0->cs=fD ((I4 u e (e.gn 0) ⟨e.gn 1,e.gn 2⟩).cells (I4 u e (e.gn 0) ⟨e.gn 1,e.gn 2⟩).dw) c m rg e)):=by
 have b1:=hu.nb;have b2:=hu.nf;have b3:=hu.nv;have k1:=bIx_lt u.nb u.gb (e.gn 0);have k2:=sIx_lt u.nf u.gf (e.gn 2);refine CS.bsD true [] func206 fun hwf=> ?_;apply jm 8 7 9 T.mixed (by kernel_rfl)
 ·intro τ K hK;simp[go_sem];repeat refine⟨by omega,?_⟩
  exact hK _ _
 intro K hK;simp[go_sem];refine hK _ ?_;refine go true (sm ?_);refine T.dr 16 fun K hK=>sm ?_;repeat refine⟨by omega,?_⟩
 refine dS.mk (Ia _ u (e.gn 0) (by omega)) (sm ?_);refine dS.mk (H9 _ u (e.gn 2) (by omega)) (sm ?_);refine hK _ ?_;refine go true (sm ?_);refine aH [0,3,4,5,6] ?_ ?_<;>intro c0 d0
 ·have hz:ZC u e=7:=if_pos (by simpa using d0);simp[go_sem];refine aj ?_;rw[hz];simp[go_sem];refine lD ?_;exact .refl _
 ·have hz0: ¬(qc u.nb u.gb (e.gn 0)<0\/(e.gn 1=1/\uU u.nf u.gf (e.gn 2)<0)):=by simpa using d0
  obtain⟨i,hi,hin⟩: ∃i:Nat,qc u.nb u.gb (e.gn 0)=(i:Int)/\i<u.nb:=⟨(qc u.nb u.gb (e.gn 0)).toNat,by omega,by omega⟩;simp[go_sem,hi];repeat refine⟨by omega,?_⟩
  refine aW.mk (Jp σ _ u c m rg e (e.gn 0) (by omega)) ?_;simp[go_sem];refine aH [0,3,4,5,6] ?_ ?_<;>intro c1 d1
  ·have hz:ZC u e=11:=by unfold ZC;rw[if_neg hz0,if_pos (by simpa using d1)]
   simp[go_sem];refine aj ?_;rw[hz];simp[go_sem];refine lD ?_;exact .refl _
  ·have hz1: ¬((aY u (e.gn 0)).Kind=3\/e.gn 1=3):=by simpa using d1
   simp[go_sem];refine aH [0,3,4,5,6] ?_ ?_<;>intro c2 d2
   ·have hg1:e.gn 1=1:=by simpa using d2
    obtain⟨s,hs,hsn⟩: ∃s:Nat,uU u.nf u.gf (e.gn 2)=(s:Int)/\s<u.nf:=⟨(uU u.nf u.gf (e.gn 2)).toNat,by omega,by omega⟩;simp[go_sem,hs];refine T.dr 18 fun K hK=> ?_;simp[go_sem,hin,hsn];refine dS.mk (Ub σ _ u c m rg e (u.gf s) (u.gb i) hu) ?_;simp[go_sem];refine hK _ ?_;refine go true ?_;simp[go_sem];refine aH [0,3,4,7] ?_ ?_<;>intro c3 d3
    ·have hz:ZC u e=QN u (u.gf s) (u.gb i):=by unfold ZC;rw[if_neg hz0,if_neg hz1,hi,hs,Int.toNat_natCast,Int.toNat_natCast,if_pos ⟨hg1,by simpa using d3⟩]
     have hk: ¬QN u (u.gf s) (u.gb i)=0:=by simpa using d3
     simp[go_sem];refine aj ?_;rw[hz];simp[go_sem,hk];refine lD ?_;exact .refl _
    ·have hz:ZC u e=nD u e (e.gn 0) ⟨e.gn 1,e.gn 2⟩:=by unfold ZC;rw[if_neg hz0,if_neg hz1,hi,hs,Int.toNat_natCast,Int.toNat_natCast,if_neg (fun h=>h.2 (by simpa using d3))]
     simp[go_sem];refine T.dr 5 fun K hK=> ?_;simp[go_sem];repeat refine⟨by omega,?_⟩
     refine aW.gen (EZ σ _ (u) c m rg e (e.gn 0) ⟨e.gn 1,e.gn 2⟩ (by omega)) ?_;rintro r σ' X ⟨rfl,rfl,rfl⟩;simp[go_sem];refine hK _ ?_;refine go true ?_;simp[go_sem];refine aj ?_;rw[hz];by_cases hk:nD u e (e.gn 0) ⟨e.gn 1,e.gn 2⟩=0
     ·simp[go_sem,hk,I4];exact au (by simp[go_sem,aJ])
     ·simp[go_sem,hk,I4];refine lD ?_;exact .refl _
   ·have hz:ZC u e=nD u e (e.gn 0) ⟨e.gn 1,e.gn 2⟩:=by unfold ZC;rw[if_neg hz0,if_neg hz1,if_neg (fun h=>d2 h.1)]
    simp[go_sem];refine T.dr 5 fun K hK=> ?_;simp[go_sem];repeat refine⟨by omega,?_⟩
    refine aW.gen (EZ σ _ (u) c m rg e (e.gn 0) ⟨e.gn 1,e.gn 2⟩ (by omega)) ?_;rintro r σ' X ⟨rfl,rfl,rfl⟩;simp[go_sem];refine hK _ ?_;refine go true ?_;simp[go_sem];refine aj ?_;rw[hz];by_cases hk:nD u e (e.gn 0) ⟨e.gn 1,e.gn 2⟩=0
    ·simp[go_sem,hk,I4];exact au (by simp[go_sem,aJ])
    ·simp[go_sem,hk,I4];refine lD ?_;exact .refl _
theorem ZU(u:Use)(c:Option Nat)(m:Nat)(rg:Nat->Row)(e:Ev)(hu:dR u)(hn:3<=e.nn)(hb:e.nn<1000000000)(hm:m<1000000000)(h1:σ[1]? =some (.loc 1)):CS prog 207 [.ptr σ.length 0] (σ++[.var (fD (u.cells u.dw) c m rg e)]) (fun r σ' X'=>X'=[]/\r= .d (I (akE u m rg e))/\∃cs,σ'=σ++[.var cs]/\(akE u m rg e=0->cs=fD ((akU u e).cells (akU u e).dw) c m rg e)):=by
 have b1:=hu.nb;have b4:=hu.nr;refine CS.bsD true [] func207 fun hwf=> ?_;refine T.dr 15 fun K hK=>sm ?_;repeat refine⟨by omega,?_⟩
 refine dS.mk (VU _ none u.nb u.gb (e.gn 2) (by omega) (fun i hi=>by have:=hu.bx i hi;omega)) ?_;simp[go_sem];refine hK _ ?_;refine go true (sm ?_);refine aH [0,3,4] ?_ ?_<;>intro c0 d0
 ·have hz:akE u m rg e=7:=if_pos (by simpa using d0);simp[go_sem];refine aj ?_;rw[hz];simp[go_sem];refine lD ?_;exact .refl _
 ·have hz0: ¬(qP u.nb u.gb (e.gn 2)).2.2=false:=by simpa using d0
  simp[go_sem];refine T.dr 10 fun K hK=>sm ?_;repeat refine⟨by omega,?_⟩
  refine dS.mk (Qj σ _ u c m rg e (e.gn 1) (e.gn 2) hm hu.P h1) (sm ?_);refine hK _ ?_;refine go true (sm ?_);refine aH [0,3,4] ?_ ?_<;>intro c1 d1
  ·have hz:akE u m rg e=22:=by unfold akE;rw[if_neg hz0,if_pos (by simpa using d1)]
   simp[go_sem];refine aj ?_;rw[hz];simp[go_sem];refine lD ?_;exact .refl _
  ·have hz:akE u m rg e=nR u.nr u.gr (TF u e):=by unfold akE;rw[if_neg hz0,if_neg (by simpa using d1)]
   simp[go_sem];refine T.dr 26 fun K hK=>sm ?_;repeat refine⟨by omega,?_⟩
   refine dS.mk (Ij _ none u.nr u.gr (TF u e) (by omega)) (sm ?_);refine hK _ ?_;refine go true (sm ?_);refine aW.gen (setRq_cs σ _ u c m rg e (.d (SL none 7 eU.enc u.nr u.gr)) (fun _=>trivial) _ _ _) ?_;rintro r σ' X ⟨rfl,rfl,rfl⟩;simp[go_sem];refine aj ?_;rw[hz];by_cases hk:nR u.nr u.gr (TF u e)=0
   ·simp[go_sem,hk,akU];exact au (by simp[go_sem,aJ])
   ·simp[go_sem,hk,akU];refine lD ?_;exact .refl _
end Go.Proofs.YthlhlnbcjlpigaaGreatDoor
