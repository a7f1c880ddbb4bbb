/- Contracts and lemmas, joined out of smaller texts by a program; no conditions. -/
import Derived.Test.YtmahphgjkpgidaaGreatDoorKB37
import Derived.Test.YtmahphgjkpgidaaGreatDoorKB35
set_option linter.unusedVariables false
set_option linter.unusedSimpArgs false
set_option maxHeartbeats 2000000
set_option maxRecDepth 100000
namespace Go.Proofs.YtmahphgjkpgidaaGreatDoor
open Go.aU Go.dh Go.Proofs.Tryz
variable (σ : List aG)
def JK(e:Ev):Rule:=⟨e.gn 0,e.gn 1,e.gn 2,e.gn 3==1,⟨e.gn 4,e.gn 5⟩⟩
def prNew(e:Ev):iq:=⟨e.gn 0,e.gt 0,⟨e.gn 1,e.gn 2⟩,⟨e.gn 3,e.gn 4⟩⟩
def J3(e:Ev):jW:=⟨e.gn 0,e.gn 1,e.gn 2,e.gn 3==1,⟨e.gn 4,e.gn 5⟩⟩
def Zf(e:Ev):jG:=⟨e.gn 0,e.gn 1,e.gn 2,e.gn 3,⟨e.gn 4,e.gn 5⟩⟩
def gI(e:Ev):Bx:=⟨e.gn 0,e.gn 1,e.gn 2,e.gn 3,0,fun _=>⟨0,0⟩⟩
def zO(e:Ev):sO:=⟨e.gn 0,e.gn 1,e.gn 2,e.gn 3⟩
def FB(e:Ev):jH:=⟨e.gn 0,e.gn 1,⟨e.gn 2,e.gn 3⟩⟩
def clU(u:Use)(e:Ev):Use:= { u with P:= { u.P with nc:=u.P.nc+1,gc:=aV u.P.gc u.P.nc (JK e) } }
def clE(u:Use)(e:Ev):Int:=if e.gn 4<e.Day then 5 else check (u.P.nc+1) (aV u.P.gc u.P.nc (JK e))
def ecE(u:Use)(e:Ev):Int:=if e.gn 1<e.Day then 5 else(xX u.P.nc u.P.gc (e.gn 0) (e.gn 1)).2
def ecU(u:Use)(e:Ev):Use:= { u with P:= { u.P with nc:=(xX u.P.nc u.P.gc (e.gn 0) (e.gn 1)).1.1,gc:=(xX u.P.nc u.P.gc (e.gn 0) (e.gn 1)).1.2 } }
def apU(u:Use)(e:Ev):Use:= { u with P:= { u.P with np:=u.P.np+1,gp:=aV u.P.gp u.P.np (prNew e) } }
def apE(u:Use)(e:Ev):Int:=jy (u.P.np+1) (aV u.P.gp u.P.np (prNew e))
def leR(u:Use)(e:Ev):(Nat×(Nat->iq))×Int:=jP u.P.np u.P.gp (e.gn 0) ⟨e.gn 1,e.gn 2⟩ ⟨e.gn 3,e.gn 4⟩
def leU(u:Use)(e:Ev):Use:= { u with P:= { u.P with np:=(leR u e).1.1,gp:=(leR u e).1.2 } }
def aaU(u:Use)(e:Ev):Use:= { u with P:= { u.P with na:=u.P.na+1,ga:=aV u.P.ga u.P.na (J3 e) } }
def aaE(u:Use)(e:Ev):Int:=if e.gn 4<e.Day then 5 else lC (u.P.na+1) (aV u.P.ga u.P.na (J3 e))
def grU(u:Use)(e:Ev):Use:= { u with P:= { u.P with nm:=u.P.nm+1,gm:=aV u.P.gm u.P.nm (Zf e) } }
def pgE(u:Use)(e:Ev):Int:=if e.gn 4<e.Day then 5 else kV u.P.nm u.P.gm (Zf e)
def rvU(u:Use)(e:Ev):Use:= { u with P:= { u.P with nm:=rvN u.P.nm u.P.gm (e.gn 0) e.Day,gm:=rvG u.P.gm (pIx u.P.nm u.P.gm (e.gn 0)).toNat e.Day } }
def abU(u:Use)(e:Ev):Use:= { u with nb:=u.nb+1,gb:=aV u.gb u.nb (gI e) }
def abE(u:Use)(e:Ev):Int:=fO (u.nb+1) (aV u.gb u.nb (gI e))
def puE(u:Use)(e:Ev):Int:=if(aW u (e.gn 0)).Kind=3 then 11 else wR u.nb u.gb (e.gn 0) (e.gn 1) ⟨e.gn 2,e.gn 3⟩
def puU(u:Use)(e:Ev):Use:= { u with gb:=putG u.gb (lQ u.nb u.gb (e.gn 0)).toNat (e.gn 1).toNat ⟨e.gn 2,e.gn 3⟩ }
def taE(u:Use)(e:Ev):Int:=if(nC u.nb u.gb (e.gn 0)).2.2=false then 7 else if(aW u (nC u.nb u.gb (e.gn 0)).1).Kind=3 then 11 else vM u.nb u.gb (e.gn 0)
def taU(u:Use)(e:Ev):Use:= { u with gb:=Uz u.gb (N8 u.nb u.gb (e.gn 0)).1.toNat (N8 u.nb u.gb (e.gn 0)).2.toNat }
def asU(u:Use)(e:Ev):Use:= { u with nf:=u.nf+1,gf:=aV u.gf u.nf (zO e) }
def asE(u:Use)(e:Ev):Int:=kG (u.nf+1) (aV u.gf u.nf (zO e))
def boE(u:Use)(e:Ev):Int:=if e.gn 2<e.Day then 5 else LV u.lT u.nk u.gk (FB e)
def boU(u:Use)(e:Ev):Use:= { u with nk:=u.nk+1,gk:=aV u.gk u.nk (FB e) }
def jE(u:Use)(e:Ev)(k:Int)(tp:rU):Use:= { u with nv:=u.nv+1,gv:=aV u.gv u.nv ⟨e.Day,k,aW u k,tp⟩ }
def qj(u:Use)(e:Ev):dU:=⟨e.gn 0,e.gn 1,e.gn 2,(nC u.nb u.gb (e.gn 2)).1,e.Day,0,0⟩
noncomputable def akE(u:Use)(m:Nat)(rg:Nat->Row)(e:Ev):Int:=if(nC u.nb u.gb (e.gn 2)).2.2=false then 7 else if yC u m rg e (e.gn 1) (e.gn 2)=false then 22 else oP u.nr u.gr (qj u e)
def akU(u:Use)(e:Ev):Use:= { u with nr:=u.nr+1,gr:=aV u.gr u.nr (qA (qj u e)) }
theorem bx_snoc(u:Use)(e:Ev): ∀q,q<u.nb+1->(Bx.enc (aV u.gb u.nb (gI e) q)).length=(bf u.nb (fun q=>Bx.enc (u.gb q)) (rowsOf 5 [I (e.gn 0),I (e.gn 1),I (e.gn 2),I (e.gn 3),.v (.slice none 0 0)]) q).length/\∀k,k<5->∀w j v,RD w j ((bf u.nb (fun q=>Bx.enc (u.gb q)) (rowsOf 5 [I (e.gn 0),I (e.gn 1),I (e.gn 2),I (e.gn 3),.v (.slice none 0 0)]) q).getD k default) v->RD w j ((Bx.enc (aV u.gb u.nb (gI e) q)).getD k default) v:=by
 intro q hq;unfold bf aV;split
 ·exact⟨rfl,fun k hk w j v h=>h⟩
 ·obtain rfl:q=u.nb:=by omega
  refine⟨by simp[rowsOf,Bx.enc],fun k hk w j v h=> ?_⟩;rcases k with _|_|_|_|_|k
  ·simpa[rowsOf,Bx.enc,gI] using h
  ·simpa[rowsOf,Bx.enc,gI] using h
  ·simpa[rowsOf,Bx.enc,gI] using h
  ·simpa[rowsOf,Bx.enc,gI] using h
  ·have h2:RD w j (.v (.slice none 0 0)) v:=by simpa[rowsOf] using h
   exact RD.nil h2
  ·omega
theorem yj{α:Type}{enc:α->List D}{g:Nat->α}{n sz:Nat}{ds:List D}{x:α}(h:ds.take sz=enc x): ∀q,q<n+1->bf n (fun q=>enc (g q)) (rowsOf sz ds) q=enc (aV g n x q):=by
 intro q hq;unfold bf aV;split
 ·rfl
 ·obtain rfl:q=n:=by omega
  simp[rowsOf,h]
theorem wJ(σ p:List aG)(a:aG)(r:List aG):σ++(p++a::r)=(σ++(p++[a]))++r:=by simp
theorem dP{σ A:List aG}{a:List AV}{r:List aG}(h:aU.Leaves A (σ++[.var a])): ∃σ',(∃x,σ++ .var a::r=σ'++x)/\aU.Leaves A σ'/\∃cs,σ'=σ++[.var cs]:=⟨_,⟨r,wJ σ [] (.var a) r⟩,h,a,rfl⟩
theorem lH{σ A:List aG}{a:List AV}{r:List aG}(h:aU.Leaves A (σ++[.dead,.var a])): ∃σ',(∃x,σ++ .dead:: .var a::r=σ'++x)/\aU.Leaves A σ'/\∃cs,σ'=σ++[.dead,.var cs]:=⟨_,⟨r,wJ σ [.dead] (.var a) r⟩,h,a,rfl⟩
theorem tX{σ A:List aG}{a:List AV}{r:List aG}(h:aU.Leaves A (σ++[.dead,.dead,.var a])): ∃σ',(∃x,σ++ .dead:: .dead:: .var a::r=σ'++x)/\aU.Leaves A σ'/\∃cs,σ'=σ++[.dead,.dead,.var cs]:=⟨_,⟨r,wJ σ [.dead,.dead] (.var a) r⟩,h,a,rfl⟩
theorem fail_s3{σ A:List aG}{a:List AV}{r:List aG}(h:aU.Leaves A (σ++[.dead,.dead,.dead,.var a])): ∃σ',(∃x,σ++ .dead:: .dead:: .dead:: .var a::r=σ'++x)/\aU.Leaves A σ'/\∃cs,σ'=σ++[.dead,.dead,.dead,.var cs]:=⟨_,⟨r,wJ σ [.dead,.dead,.dead] (.var a) r⟩,h,a,rfl⟩
theorem fail_s4{σ A:List aG}{a:List AV}{r:List aG}(h:aU.Leaves A (σ++[.dead,.dead,.dead,.dead,.var a])): ∃σ',(∃x,σ++ .dead:: .dead:: .dead:: .dead:: .var a::r=σ'++x)/\aU.Leaves A σ'/\∃cs,σ'=σ++[.dead,.dead,.dead,.dead,.var cs]:=⟨_,⟨r,wJ σ [.dead,.dead,.dead,.dead] (.var a) r⟩,h,a,rfl⟩
theorem fail_s5{σ A:List aG}{a:List AV}{r:List aG}(h:aU.Leaves A (σ++[.dead,.dead,.dead,.dead,.dead,.var a])): ∃σ',(∃x,σ++ .dead:: .dead:: .dead:: .dead:: .dead:: .var a::r=σ'++x)/\aU.Leaves A σ'/\∃cs,σ'=σ++[.dead,.dead,.dead,.dead,.dead,.var cs]:=⟨_,⟨r,wJ σ [.dead,.dead,.dead,.dead,.dead] (.var a) r⟩,h,a,rfl⟩
theorem fail_s6{σ A:List aG}{a:List AV}{r:List aG}(h:aU.Leaves A (σ++[.dead,.dead,.dead,.dead,.dead,.dead,.var a])): ∃σ',(∃x,σ++ .dead:: .dead:: .dead:: .dead:: .dead:: .dead:: .var a::r=σ'++x)/\aU.Leaves A σ'/\∃cs,σ'=σ++[.dead,.dead,.dead,.dead,.dead,.dead,.var cs]:=⟨_,⟨r,wJ σ [.dead,.dead,.dead,.dead,.dead,.dead] (.var a) r⟩,h,a,rfl⟩
theorem fail_s7{σ A:List aG}{a:List AV}{r:List aG}(h:aU.Leaves A (σ++[.dead,.dead,.dead,.dead,.dead,.dead,.dead,.var a])): ∃σ',(∃x,σ++ .dead:: .dead:: .dead:: .dead:: .dead:: .dead:: .dead:: .var a::r=σ'++x)/\aU.Leaves A σ'/\∃cs,σ'=σ++[.dead,.dead,.dead,.dead,.dead,.dead,.dead,.var cs]:=⟨_,⟨r,wJ σ [.dead,.dead,.dead,.dead,.dead,.dead,.dead] (.var a) r⟩,h,a,rfl⟩
theorem wO(u:Use)(c:Option Nat)(m:Nat)(rg:Nat->Row)(e:Ev)(d:Int):aA prog 234 [.ptr σ.length 0,.d (I d)] (σ++[.var (bg (u.cells u.bG) c m rg e)]) (.d (B (decide (d<e.Day)))):=by
 refine aA.bs true func234 fun hwf=> ?_;exact aj so
theorem TB(u:Use)(c:Option Nat)(m:Nat)(rg:Nat->Row)(e:Ev)(d:Int):aA prog 234 [.ptr (σ.length+7) 0,.d (I d)] (σ++[.arr 6 u.P.nc (fun i=>Rule.enc (u.P.gc i)),.dead,.dead,.dead,.dead,.dead,.dead,.var (bg ((u.cells u.bG).set 1 (.ms σ.length 6 0 u.P.nc)) c m rg e)]) (.d (B (decide (d<e.Day)))):=by
 refine aA.bs true func234 fun hwf=> ?_;exact aj so
theorem TD(u:Use)(c:Option Nat)(m:Nat)(rg:Nat->Row)(e:Ev)(d:Int):aA prog 234 [.ptr (σ.length+5) 0,.d (I d)] (σ++[.arr 6 u.P.na (fun i=>jW.enc (u.P.ga i)),.dead,.dead,.dead,.dead,.var (bg ((u.cells u.bG).set 4 (.ms σ.length 6 0 u.P.na)) c m rg e)]) (.d (B (decide (d<e.Day)))):=by
 refine aA.bs true func234 fun hwf=> ?_;exact aj so
theorem Oj(u:Use)(c:Option Nat)(m:Nat)(rg:Nat->Row)(e:Ev)(hn:5<=e.nn):aA prog 237 [.ptr σ.length 0] (σ++[.var (bg (u.cells u.bG) c m rg e)]) (.eU [.agg [.d (I (e.gn 1)),.d (I (e.gn 2))],.agg [.d (I (e.gn 3)),.d (I (e.gn 4))]]):=by
 refine aA.be func237 fun hwf=> ?_;refine ak fun K hK=>sm ?_;refine hK _ ?_;refine ak fun K hK=>sm ?_;refine hK _ ?_;apply zH 15 14 T.mixed (by kernel_rfl)
 ·intro K hK;simp[go_sem];repeat refine⟨by omega,?_⟩
  exact hK _ _
 ·simp[go_sem];rfl
 ·intro K hK;simp[go_sem];repeat refine⟨by omega,?_⟩
  exact hK _ _
 intro K hK;simp[go_sem];refine hK _ ?_;exact aj so
theorem Oi(u:Use)(c:Option Nat)(m:Nat)(rg:Nat->Row)(e:Ev)(hn:5<=e.nn):aA prog 237 [.ptr (σ.length+6) 0] (σ++[.arr 6 u.P.np (fun i=>iq.enc (u.P.gp i)),.dead,.dead,.dead,.dead,.dead,.var (bg ((u.cells u.bG).set 2 (.ms σ.length 6 0 u.P.np)) c m rg e)]) (.eU [.agg [.d (I (e.gn 1)),.d (I (e.gn 2))],.agg [.d (I (e.gn 3)),.d (I (e.gn 4))]]):=by
 refine aA.be func237 fun hwf=> ?_;refine ak fun K hK=>sm ?_;refine hK _ ?_;refine ak fun K hK=>sm ?_;refine hK _ ?_;apply zH 15 14 T.mixed (by kernel_rfl)
 ·intro K hK;simp[go_sem];repeat refine⟨by omega,?_⟩
  exact hK _ _
 ·simp[go_sem];rfl
 ·intro K hK;simp[go_sem];repeat refine⟨by omega,?_⟩
  exact hK _ _
 intro K hK;simp[go_sem];refine hK _ ?_;exact aj so
theorem Wi(u:Use)(c:Option Nat)(m:Nat)(rg:Nat->Row)(e:Ev)(hu:dB u)(hn:6<=e.nn)(hb:e.nn<1000000000):CS prog 157 [.ptr σ.length 0] (σ++[.var (bg (u.cells u.bG) c m rg e)]) (fun r σ' X'=>X'=[]/\r= .d (I (pgE u e))/\∃cs,σ'=σ++[.var cs]/\(pgE u e=0->cs=bg ((grU u e).cells (grU u e).bG) c m rg e)):=by
 have b1:=hu.P.nm;refine CS.NT true [] func157 fun hwf=> ?_;repeat refine⟨by omega,?_⟩
 refine aO.mk (wO _ u c m rg e (e.gn 4)) (sm ?_);refine aJ [0,3] ?_ ?_<;>intro c0 d0
 ·have hz:pgE u e=5:=if_pos (by simpa using d0);simp[go_sem];refine aj ?_;rw[hz];simp[go_sem];refine dP ?_;exact .refl _
 ·have hz:pgE u e=kV u.P.nm u.P.gm (Zf e):=if_neg (by simpa using d0);simp[go_sem];refine T.dr 31 fun K hK=>sm ?_;repeat refine⟨by omega,?_⟩
  refine dF.mk (OO _ none u.P.nm u.P.gm (Zf e) (by omega)) (sm ?_);refine hK _ ?_;refine go true (sm ?_);refine aO.gen (YW σ _ u c m rg e (.d (SL none 6 jG.enc u.P.nm u.P.gm)) (fun _=>trivial) _ _ _) ?_;rintro r σ' X ⟨rfl,rfl,rfl⟩;simp[go_sem];refine aj ?_;rw[hz];by_cases hk:kV u.P.nm u.P.gm (Zf e)=0
  ·simp[go_sem,hk,grU];exact au (by simp[go_sem,ay])
  ·simp[go_sem,hk,grU];refine dP ?_;exact .refl _
theorem TA(u:Use)(c:Option Nat)(m:Nat)(rg:Nat->Row)(e:Ev)(hu:dB u)(hn:1<=e.nn)(hb:e.nn<1000000000):CS prog 158 [.ptr σ.length 0] (σ++[.var (bg (u.cells u.bG) c m rg e)]) (fun r σ' X'=>X'=[]/\r= .d (I (TK u.P.nm u.P.gm (e.gn 0) e.Day))/\∃cs,σ'=σ++[.var cs]/\(TK u.P.nm u.P.gm (e.gn 0) e.Day=0->cs=bg ((rvU u e).cells (rvU u e).bG) c m rg e)):=by
 have b1:=hu.P.nm;refine CS.NT true [] func158 fun hwf=> ?_;refine T.dr 23 fun K hK=>sm ?_;repeat refine⟨by omega,?_⟩
 refine dF.mk (KR _ none u.P.nm u.P.gm (e.gn 0) e.Day (by omega)) (sm ?_);refine hK _ ?_;refine go true (sm ?_);refine aO.gen (YW σ _ u c m rg e (.d (SL none 6 jG.enc u.P.nm u.P.gm)) (fun _=>trivial) _ _ _) ?_;rintro r σ' X ⟨rfl,rfl,rfl⟩;simp[go_sem];refine aj ?_;by_cases hk:TK u.P.nm u.P.gm (e.gn 0) e.Day=0
 ·simp[go_sem,hk,rvU];exact au (by simp[go_sem,ay])
 ·simp[go_sem,hk,rvU];refine dP ?_;exact .refl _
theorem G8(u:Use)(c:Option Nat)(m:Nat)(rg:Nat->Row)(e:Ev)(hu:dB u)(hn:2<=e.nn)(hb:e.nn<1000000000):CS prog 153 [.ptr σ.length 0] (σ++[.var (bg (u.cells u.bG) c m rg e)]) (fun r σ' X'=>X'=[]/\r= .d (I (ecE u e))/\∃cs,σ'=σ++[.var cs]/\(ecE u e=0->cs=bg ((ecU u e).cells (ecU u e).bG) c m rg e)):=by
 have b1:=hu.P.nc;refine CS.NT true [] func153 fun hwf=> ?_;repeat refine⟨by omega,?_⟩
 refine aO.mk (wO _ u c m rg e (e.gn 1)) (sm ?_);refine aJ [0,3] ?_ ?_<;>intro c0 d0
 ·have hz:ecE u e=5:=if_pos (by simpa using d0);simp[go_sem];refine aj ?_;rw[hz];simp[go_sem];refine dP ?_;exact .refl _
 ·have hz:ecE u e=(xX u.P.nc u.P.gc (e.gn 0) (e.gn 1)).2:=if_neg (by simpa using d0);simp[go_sem];refine T.dr 17 fun K hK=>sm ?_;repeat refine⟨by omega,?_⟩
  refine dF.mk (SN _ none u.P.nc u.P.gc (e.gn 0) (e.gn 1) (by omega)) (sm ?_);refine hK _ ?_;refine go true (sm ?_);refine aO.gen (YZ σ _ u c m rg e (.d (SL none 6 Rule.enc u.P.nc u.P.gc)) (fun _=>trivial) _ _ _) ?_;rintro r σ' X ⟨rfl,rfl,rfl⟩;simp[go_sem];refine aj ?_;rw[hz];by_cases hk:(xX u.P.nc u.P.gc (e.gn 0) (e.gn 1)).2=0
  ·simp[go_sem,hk,ecU];exact au (by simp[go_sem,ay])
  ·simp[go_sem,hk,ecU];refine dP ?_;exact .refl _
theorem V9(u:Use)(c:Option Nat)(m:Nat)(rg:Nat->Row)(e:Ev)(hu:dB u)(hn:5<=e.nn)(hb:e.nn<1000000000)(h1:σ[1]? =some (.loc 1)):CS prog 155 [.ptr σ.length 0] (σ++[.var (bg (u.cells u.bG) c m rg e)]) (fun r σ' X'=>X'=[]/\r= .d (I ((leR u e).2))/\∃cs,σ'=σ++[.var cs]/\((leR u e).2=0->cs=bg ((leU u e).cells (leU u e).bG) c m rg e)):=by
 have b1:=hu.P.np;refine CS.NT true [] func155 fun hwf=> ?_;refine aO.mk (Oj _ u c m rg e hn) (sm ?_);refine T.dr 20 fun K hK=>sm ?_;repeat refine⟨by omega,?_⟩
 refine dF.mk (OL _ none u.P.np u.P.gp (e.gn 0) ⟨e.gn 1,e.gn 2⟩ ⟨e.gn 3,e.gn 4⟩ (by omega) hu.P.nn (aC h1)) (sm ?_);refine hK _ ?_;refine go true (sm ?_);refine aO.gen (YU σ _ u c m rg e (.d (SL none 6 iq.enc u.P.np u.P.gp)) (fun _=>trivial) _ _ _) ?_;rintro r σ' X ⟨rfl,rfl,rfl⟩;simp[go_sem];refine aj ?_;have hk0:(jP u.P.np u.P.gp (e.gn 0) ⟨e.gn 1,e.gn 2⟩ ⟨e.gn 3,e.gn 4⟩)=leR u e:=rfl;by_cases hk:(leR u e).2=0
 ·simp[go_sem,hk,hk0,leU];exact au (by simp[go_sem,ay])
 ·simp[go_sem,hk,hk0,leU];refine dP ?_;exact .refl _
theorem YE(u:Use)(c:Option Nat)(m:Nat)(rg:Nat->Row)(e:Ev)(hu:dB u)(hn:4<=e.nn)(hb:e.nn<1000000000):CS prog 168 [.ptr σ.length 0] (σ++[.var (bg (u.cells u.bG) c m rg e)]) (fun r σ' X'=>X'=[]/\r= .d (I (boE u e))/\∃cs,σ'=σ++[.var cs]/\(boE u e=0->cs=bg ((boU u e).cells (boU u e).bG) c m rg e)):=by
 have b1:=hu.nk;refine CS.NT true [] func168 fun hwf=> ?_;repeat refine⟨by omega,?_⟩
 refine aO.mk (wO _ u c m rg e (e.gn 2)) (sm ?_);refine aJ [0,3] ?_ ?_<;>intro c0 d0
 ·have hz:boE u e=5:=if_pos (by simpa using d0);simp[go_sem];refine aj ?_;rw[hz];simp[go_sem];refine dP ?_;exact .refl _
 ·have hz:boE u e=LV u.lT u.nk u.gk (FB e):=if_neg (by simpa using d0);simp[go_sem];refine T.dr 29 fun K hK=>sm ?_;repeat refine⟨by omega,?_⟩
  refine dF.mk (KL _ u.lT none u.nk u.gk (FB e) (by omega)) (sm ?_);refine hK _ ?_;refine go true (sm ?_);refine aO.gen (setBk_cs σ _ u c m rg e (.d (SL none 4 jH.enc u.nk u.gk)) (fun _=>trivial) _ _ _) ?_;rintro r σ' X ⟨rfl,rfl,rfl⟩;simp[go_sem];refine aj ?_;rw[hz];by_cases hk:LV u.lT u.nk u.gk (FB e)=0
  ·simp[go_sem,hk,boU];exact au (by simp[go_sem,ay])
  ·simp[go_sem,hk,boU];refine dP ?_;exact .refl _
theorem svc_put_cs(u:Use)(c:Option Nat)(m:Nat)(rg:Nat->Row)(e:Ev)(hu:dB u)(hn:4<=e.nn)(hb:e.nn<1000000000):CS prog 161 [.ptr σ.length 0] (σ++[.var (bg (u.cells u.bG) c m rg e)]) (fun r σ' X'=>X'=[]/\r= .d (I (puE u e))/\∃cs,σ'=σ++[.var cs]/\(puE u e=0->cs=bg ((puU u e).cells (puU u e).bG) c m rg e)):=by
 have b1:=hu.nb;have b3:=hu.nv;refine CS.NT true [] func161 fun hwf=> ?_;repeat refine⟨by omega,?_⟩
 refine aO.mk (BA σ _ u c m rg e (e.gn 0) (by omega)) (sm ?_);refine aJ [0,3] ?_ ?_<;>intro c0 d0
 ·have hz:puE u e=11:=if_pos (by simpa using d0);simp[go_sem];refine aj ?_;rw[hz];simp[go_sem];refine dP ?_;exact .refl _
 ·have hz:puE u e=wR u.nb u.gb (e.gn 0) (e.gn 1) ⟨e.gn 2,e.gn 3⟩:=if_neg (by simpa using d0);simp[go_sem];refine T.dr 23 fun K hK=>sm ?_;repeat refine⟨by omega,?_⟩
  refine dF.mk (box_Put_cs _ none u.nb u.gb (e.gn 0) (e.gn 1) ⟨e.gn 2,e.gn 3⟩ (by omega) (fun i hi=>by have:=hu.bx i hi;omega)) ?_;simp[go_sem];refine hK _ ?_;refine go true (sm ?_);refine aO.gen (Qv σ _ u c m rg e (.d (SL none 5 Bx.enc u.nb u.gb)) (fun _=>trivial) _ _ _) ?_;rintro r σ' X ⟨rfl,rfl,rfl⟩;simp[go_sem];refine aj ?_;rw[hz];by_cases hk:wR u.nb u.gb (e.gn 0) (e.gn 1) ⟨e.gn 2,e.gn 3⟩=0
  ·simp[go_sem,hk,puU];exact au (by simp[go_sem,ay])
  ·simp[go_sem,hk,puU];refine dP ?_;exact .refl _
theorem Yy(u:Use)(c:Option Nat)(m:Nat)(rg:Nat->Row)(e:Ev)(hu:dB u)(hn:1<=e.nn)(hb:e.nn<1000000000):CS prog 162 [.ptr σ.length 0] (σ++[.var (bg (u.cells u.bG) c m rg e)]) (fun r σ' X'=>X'=[]/\r= .d (I (taE u e))/\∃cs,σ'=σ++[.var cs]/\(taE u e=0->cs=bg ((taU u e).cells (taU u e).bG) c m rg e)):=by
 have b1:=hu.nb;have b3:=hu.nv;refine CS.NT true [] func162 fun hwf=> ?_;refine T.dr 19 fun K hK=>sm ?_;repeat refine⟨by omega,?_⟩
 refine dF.mk (JV _ none u.nb u.gb (e.gn 0) (by omega) (fun i hi=>by have:=hu.bx i hi;omega)) ?_;simp[go_sem];refine hK _ ?_;refine go true (sm ?_);refine aJ [0,3] ?_ ?_<;>intro c0 d0
 ·have hz:taE u e=7:=if_pos (by simpa using d0);simp[go_sem];refine aj ?_;rw[hz];simp[go_sem];refine dP ?_;exact .refl _
 ·have hz1: ¬(nC u.nb u.gb (e.gn 0)).2.2=false:=by simpa using d0
  simp[go_sem];refine aO.mk (BA σ _ u c m rg e (nC u.nb u.gb (e.gn 0)).1 (by omega)) (sm ?_);refine aJ [0] ?_ ?_<;>intro c1 d1
  ·have hz:taE u e=11:=by unfold taE;rw[if_neg hz1,if_pos (by simpa using d1)]
   simp[go_sem];refine aj ?_;rw[hz];simp[go_sem];refine dP ?_;exact .refl _
  ·have hz:taE u e=vM u.nb u.gb (e.gn 0):=by unfold taE;rw[if_neg hz1,if_neg (by simpa using d1)]
   simp[go_sem];apply bW 20 17 19 T.mixed (by kernel_rfl)
   ·intro τ K hK;simp[go_sem];repeat refine⟨by omega,?_⟩
    refine dF.mk (box_Take_cs _ none u.nb u.gb (e.gn 0) (by omega) (fun i hi=>by have:=hu.bx i hi;omega)) ?_;simp[go_sem];exact hK _ _
   intro K hK;simp[go_sem];refine hK _ ?_;refine go true (sm ?_);refine aO.gen (Qv σ _ u c m rg e (.d (SL none 5 Bx.enc u.nb u.gb)) (fun _=>trivial) _ _ _) ?_;rintro r σ' X ⟨rfl,rfl,rfl⟩;simp[go_sem];refine aj ?_;rw[hz];by_cases hk:vM u.nb u.gb (e.gn 0)=0
   ·simp[go_sem,hk,taU];exact au (by simp[go_sem,ay])
   ·simp[go_sem,hk,taU];refine dP ?_;exact .refl _
theorem He(u:Use)(c:Option Nat)(m:Nat)(rg:Nat->Row)(e:Ev)(hu:dB u)(hn:6<=e.nn)(hb:e.nn<1000000000)(gy:lS σ):CS prog 152 [.ptr (σ.length+7) 0] (σ++[.arr 6 u.P.nc (fun i=>Rule.enc (u.P.gc i)),.dead,.dead,.dead,.dead,.dead,.dead,.var (bg ((u.cells u.bG).set 1 (.ms σ.length 6 0 u.P.nc)) c m rg e)]) (fun r σ' X'=>X'=[σ.length]/\r= .d (I (clE u e))/\∃cs,σ'=σ++[.dead,.dead,.dead,.dead,.dead,.dead,.dead,.var cs]/\(clE u e=0->cs=bg ((clU u e).cells (clU u e).bG) c m rg e)):=by
 have b1:=hu.P.nc;refine CS.bdD false [σ.length] func152 fun hwf=> ?_;simp[go_sem];refine go false ?_;simp[go_sem];refine go false ?_;simp[go_sem];repeat refine⟨by omega,?_⟩
 refine aO.mk (TB _ u c m rg e (e.gn 4)) ?_;simp[go_sem];refine go false ?_;simp[go_sem];refine aJ [0,3] ?_ ?_<;>intro c0 d0
 ·have hz:clE u e=5:=if_pos (by simpa using d0);simp[go_sem];refine aF gy σ.length ?_;refine go true ?_;simp[go_sem];refine aj ?_;rw[hz];simp[go_sem];refine fail_s7 ?_;exact au (by simp[go_sem,ay])
 ·have hz:clE u e=check (u.P.nc+1) (aV u.P.gc u.P.nc (JK e)):=if_neg (by simpa using d0);simp[go_sem];refine T.dr 28 fun K hK=> ?_;simp[go_sem,gy.zero];repeat refine⟨by omega,?_⟩
  refine hK _ ?_;refine go true ?_;simp[go_sem];refine aY σ.length (fun q=>Rule.enc (aV u.P.gc u.P.nc (JK e) q)) (by simp[go_sem];exact⟨rfl,rfl,rfl⟩) (by exact fun q hq=>yj (enc:=Rule.enc) (x:=JK e) rfl q hq) (by simp[go_sem];rfl) ?_;refine aF gy σ.length ?_;refine T.dr 8 fun K hK=> ?_;simp[go_sem];refine dF.mk (lJ _ none (u.P.nc+1) (aV u.P.gc u.P.nc (JK e)) (by omega)) ?_;simp[go_sem];have h:=nA (YZ (σ++[.dead,.dead,.dead,.dead,.dead,.dead,.dead]) [] u c m rg e .undef (fun _=>trivial) (u.P.nc+1) (aV u.P.gc u.P.nc (JK e)) (check (u.P.nc+1) (aV u.P.gc u.P.nc (JK e))));refine aO.gen h ?_;rintro r σ' X ⟨rfl,rfl,rfl⟩;simp[go_sem];refine hK _ ?_;refine go true ?_;simp[go_sem];refine aj ?_;rw[hz];by_cases hk:check (u.P.nc+1) (aV u.P.gc u.P.nc (JK e))=0
  ·simp[go_sem,hk,clU];exact au (by simp[go_sem,ay])
  ·simp[go_sem,hk,clU];refine fail_s7 ?_;exact au (by simp[go_sem,ay])
theorem Ep(u:Use)(c:Option Nat)(m:Nat)(rg:Nat->Row)(e:Ev)(hu:dB u)(hn:6<=e.nn)(hb:e.nn<1000000000)(gy:lS σ):CS prog 156 [.ptr (σ.length+5) 0] (σ++[.arr 6 u.P.na (fun i=>jW.enc (u.P.ga i)),.dead,.dead,.dead,.dead,.var (bg ((u.cells u.bG).set 4 (.ms σ.length 6 0 u.P.na)) c m rg e)]) (fun r σ' X'=>X'=[σ.length]/\r= .d (I (aaE u e))/\∃cs,σ'=σ++[.dead,.dead,.dead,.dead,.dead,.var cs]/\(aaE u e=0->cs=bg ((aaU u e).cells (aaU u e).bG) c m rg e)):=by
 have b1:=hu.P.na;refine CS.bdD false [σ.length] func156 fun hwf=> ?_;simp[go_sem];refine go false ?_;simp[go_sem];refine go false ?_;simp[go_sem];repeat refine⟨by omega,?_⟩
 refine aO.mk (TD _ u c m rg e (e.gn 4)) ?_;simp[go_sem];refine go false ?_;simp[go_sem];refine aJ [0,3] ?_ ?_<;>intro c0 d0
 ·have hz:aaE u e=5:=if_pos (by simpa using d0);simp[go_sem];refine aF gy σ.length ?_;refine go true ?_;simp[go_sem];refine aj ?_;rw[hz];simp[go_sem];refine fail_s5 ?_;exact au (by simp[go_sem,ay])
 ·have hz:aaE u e=lC (u.P.na+1) (aV u.P.ga u.P.na (J3 e)):=if_neg (by simpa using d0);simp[go_sem];refine T.dr 28 fun K hK=> ?_;simp[go_sem,gy.zero];repeat refine⟨by omega,?_⟩
  refine hK _ ?_;refine go true ?_;simp[go_sem];refine aY σ.length (fun q=>jW.enc (aV u.P.ga u.P.na (J3 e) q)) (by simp[go_sem];exact⟨rfl,rfl,rfl⟩) (by exact fun q hq=>yj (enc:=jW.enc) (x:=J3 e) rfl q hq) (by simp[go_sem];rfl) ?_;refine aF gy σ.length ?_;refine T.dr 8 fun K hK=> ?_;simp[go_sem];refine dF.mk (jV _ none (u.P.na+1) (aV u.P.ga u.P.na (J3 e)) (by omega)) ?_;simp[go_sem];have h:=nA (setAg_cs (σ++[.dead,.dead,.dead,.dead,.dead]) [] u c m rg e .undef (fun _=>trivial) (u.P.na+1) (aV u.P.ga u.P.na (J3 e)) (lC (u.P.na+1) (aV u.P.ga u.P.na (J3 e))));refine aO.gen h ?_;rintro r σ' X ⟨rfl,rfl,rfl⟩;simp[go_sem];refine hK _ ?_;refine go true ?_;simp[go_sem];refine aj ?_;rw[hz];by_cases hk:lC (u.P.na+1) (aV u.P.ga u.P.na (J3 e))=0
  ·simp[go_sem,hk,aaU];exact au (by simp[go_sem,ay])
  ·simp[go_sem,hk,aaU];refine fail_s5 ?_;exact au (by simp[go_sem,ay])
theorem Kv(u:Use)(c:Option Nat)(m:Nat)(rg:Nat->Row)(e:Ev)(hu:dB u)(hn:5<=e.nn)(hb:e.nn<1000000000)(hx:1<=e.nt)(hy:e.nt<1000000000)(hz0:(e.gt 0).size<4294967281)(h1:σ[1]? =some (.loc 1))(gy:lS σ):CS prog 154 [.ptr (σ.length+6) 0] (σ++[.arr 6 u.P.np (fun i=>iq.enc (u.P.gp i)),.dead,.dead,.dead,.dead,.dead,.var (bg ((u.cells u.bG).set 2 (.ms σ.length 6 0 u.P.np)) c m rg e)]) (fun r σ' X'=>X'=[σ.length]/\r= .d (I (apE u e))/\∃cs,σ'=σ++[.dead,.dead,.dead,.dead,.dead,.dead,.var cs]/\(apE u e=0->cs=bg ((apU u e).cells (apU u e).bG) c m rg e)):=by
 have b1:=hu.P.np;have hnn: ∀i,i<u.P.np+1->(aV u.P.gp u.P.np (prNew e) i).Name.size<4294967281:=fun i hi=>by
  unfold aV;split
  ·exact hu.P.nn i (by omega)
  ·exact hz0
 refine CS.bdD true [σ.length] func154 fun hwf=> ?_;simp[go_sem];refine aO.mk (Oi _ u c m rg e hn) ?_;simp[go_sem];refine T.dr 24 fun K hK=> ?_;simp[go_sem,gy.zero];repeat refine⟨by omega,?_⟩
 refine hK _ ?_;refine go true ?_;simp[go_sem];refine aY σ.length (fun q=>iq.enc (aV u.P.gp u.P.np (prNew e) q)) (by simp[go_sem];exact⟨rfl,rfl,rfl⟩) (by exact fun q hq=>yj (enc:=iq.enc) (x:=prNew e) rfl q hq) (by simp[go_sem];rfl) ?_;refine aF gy σ.length ?_;refine T.dr 8 fun K hK=> ?_;simp[go_sem];refine dF.mk (mQ _ none (u.P.np+1) (aV u.P.gp u.P.np (prNew e)) (by omega) hnn (aC h1)) ?_;simp[go_sem];have h:=nA (YU (σ++[.dead,.dead,.dead,.dead,.dead,.dead]) [.var [.d (I (e.gn 1)),.d (I (e.gn 2))],.var [.d (I (e.gn 3)),.d (I (e.gn 4))]] u c m rg e .undef (fun _=>trivial) (u.P.np+1) (aV u.P.gp u.P.np (prNew e)) (jy (u.P.np+1) (aV u.P.gp u.P.np (prNew e))));refine aO.gen h ?_;rintro r σ' X ⟨rfl,rfl,rfl⟩;simp[go_sem];refine hK _ ?_;refine go true ?_;simp[go_sem];refine aj ?_;unfold apE;by_cases hk:jy (u.P.np+1) (aV u.P.gp u.P.np (prNew e))=0
 ·simp[go_sem,hk,apU];exact au (by simp[go_sem,ay])
 ·simp[go_sem,hk,apU];refine fail_s6 ?_;exact au (by simp[go_sem,ay])
theorem TG(u:Use)(c:Option Nat)(m:Nat)(rg:Nat->Row)(e:Ev)(hu:dB u)(hn:4<=e.nn)(hb:e.nn<1000000000)(gy:lS σ):CS prog 160 [.ptr (σ.length+4) 0] (σ++[.arr 5 u.nb (fun i=>Bx.enc (u.gb i)),.dead,.dead,.dead,.var (bg ((u.cells u.bG).set 6 (.ms σ.length 5 0 u.nb)) c m rg e)]) (fun r σ' X'=>X'=[σ.length]/\r= .d (I (abE u e))/\∃cs,σ'=σ++[.dead,.dead,.dead,.dead,.var cs]/\(abE u e=0->cs=bg ((abU u e).cells (abU u e).bG) c m rg e)):=by
 have b1:=hu.nb;have hnn: ∀i,i<u.nb+1->(aV u.gb u.nb (gI e) i).nc<1000000000:=fun i hi=>by
  unfold aV;split
  ·have:=hu.bx i (by omega);omega
  ·simp[gI]
 refine CS.bdD true [σ.length] func160 fun hwf=> ?_;simp[go_sem];refine T.dr 19 fun K hK=> ?_;simp[go_sem,gy.zero];repeat refine⟨by omega,?_⟩
 refine hK _ ?_;refine go true ?_;simp[go_sem];refine awp_rowsS σ.length (fun q=>Bx.enc (aV u.gb u.nb (gI e) q)) (by simp[go_sem];exact⟨rfl,rfl,rfl⟩) (by exact bx_snoc u e) (by simp[go_sem];rfl) ?_;refine aF gy σ.length ?_;refine T.dr 7 fun K hK=> ?_;simp[go_sem];refine dF.mk (pU _ none (u.nb+1) (aV u.gb u.nb (gI e)) (by omega) hnn) ?_;simp[go_sem];have h:=nA (Qv (σ++[.dead,.dead,.dead,.dead]) [] u c m rg e .undef (fun _=>trivial) (u.nb+1) (aV u.gb u.nb (gI e)) (fO (u.nb+1) (aV u.gb u.nb (gI e))));refine aO.gen h ?_;rintro r σ' X ⟨rfl,rfl,rfl⟩;simp[go_sem];refine hK _ ?_;refine go true ?_;simp[go_sem];refine aj ?_;unfold abE;by_cases hk:fO (u.nb+1) (aV u.gb u.nb (gI e))=0
 ·simp[go_sem,hk,abU];exact au (by simp[go_sem,ay])
 ·simp[go_sem,hk,abU];refine fail_s4 ?_;exact au (by simp[go_sem,ay])
theorem Ol(u:Use)(c:Option Nat)(m:Nat)(rg:Nat->Row)(e:Ev)(hu:dB u)(hn:4<=e.nn)(hb:e.nn<1000000000)(gy:lS σ):CS prog 163 [.ptr (σ.length+3) 0] (σ++[.arr 4 u.nf (fun i=>sO.enc (u.gf i)),.dead,.dead,.var (bg ((u.cells u.bG).set 7 (.ms σ.length 4 0 u.nf)) c m rg e)]) (fun r σ' X'=>X'=[σ.length]/\r= .d (I (asE u e))/\∃cs,σ'=σ++[.dead,.dead,.dead,.var cs]/\(asE u e=0->cs=bg ((asU u e).cells (asU u e).bG) c m rg e)):=by
 have b1:=hu.nf;refine CS.bdD true [σ.length] func163 fun hwf=> ?_;simp[go_sem];refine T.dr 19 fun K hK=> ?_;simp[go_sem,gy.zero];repeat refine⟨by omega,?_⟩
 refine hK _ ?_;refine go true ?_;simp[go_sem];refine aY σ.length (fun q=>sO.enc (aV u.gf u.nf (zO e) q)) (by simp[go_sem];exact⟨rfl,rfl,rfl⟩) (by exact fun q hq=>yj (enc:=sO.enc) (x:=zO e) rfl q hq) (by simp[go_sem];rfl) ?_;refine aF gy σ.length ?_;refine T.dr 7 fun K hK=> ?_;simp[go_sem];refine dF.mk (xq _ none (u.nf+1) (aV u.gf u.nf (zO e)) (by omega)) ?_;simp[go_sem];have h:=nA (setSh_cs (σ++[.dead,.dead,.dead]) [] u c m rg e .undef (fun _=>trivial) (u.nf+1) (aV u.gf u.nf (zO e)) (kG (u.nf+1) (aV u.gf u.nf (zO e))));refine aO.gen h ?_;rintro r σ' X ⟨rfl,rfl,rfl⟩;simp[go_sem];refine hK _ ?_;refine go true ?_;simp[go_sem];refine aj ?_;unfold asE;by_cases hk:kG (u.nf+1) (aV u.gf u.nf (zO e))=0
 ·simp[go_sem,hk,asU];exact au (by simp[go_sem,ay])
 ·simp[go_sem,hk,asU];refine fail_s3 ?_;exact au (by simp[go_sem,ay])
def nG(u:Use)(s:Int)(k:Int)(i:Nat)(t:Int):Nat->Int
 |0=>t
 |n+1=>nG u s k (i+1) (if(u.gb i).ID≠k/\aW u (u.gb i).ID=⟨1,s⟩ then IntKind.i64.wrap (t+(u.gb i).Width) else t) n
theorem YF{u:Use}{s k:Int}{i:Nat}{t:Int}{n:Nat}(h:i<n):nG u s k i t (n-i)=nG u s k (i+1) (if(u.gb i).ID≠k/\aW u (u.gb i).ID=⟨1,s⟩ then IntKind.i64.wrap (t+(u.gb i).Width) else t) (n-(i+1)):=by
 obtain⟨q,hq⟩: ∃q,n-i=q+1:=⟨n-i-1,by omega⟩;rw[hq,nG,show n-(i+1)=q by omega]
def Gh(u:Use)(s:sO)(b:Bx):Int:=if s.cO≠b.cO then 10 else if s.Length<nG u s.ID b.ID 0 b.Width u.nb then 12 else 0
def TS(u:Use)(e:Ev):Int:=if lQ u.nb u.gb (e.gn 0)<0\/(e.gn 1=1/\rV u.nf u.gf (e.gn 2)<0) then 7 else if(aW u (e.gn 0)).Kind=3\/e.gn 1=3 then 11
 else if e.gn 1=1/\Gh u (u.gf (rV u.nf u.gf (e.gn 2)).toNat) (u.gb (lQ u.nb u.gb (e.gn 0)).toNat)≠0 then Gh u (u.gf (rV u.nf u.gf (e.gn 2)).toNat) (u.gb (lQ u.nb u.gb (e.gn 0)).toNat) else kJ u e (e.gn 0) ⟨e.gn 1,e.gn 2⟩
def RZ(u:Use)(e:Ev):Use:= { u with gr:=iL u.gr (nZ u.nr u.gr (e.gn 0)).toNat 3 e.Day }
def enE(u:Use)(e:Ev):Int:=if e.gn 1=0 then(if kD (vw u.gr) u.nr u.gr (e.gn 0) e.Day≠0 then kD (vw u.gr) u.nr u.gr (e.gn 0) e.Day else kJ (RZ u e) e (jq u (e.gn 0)).1.Box ⟨2,0⟩)
 else if e.gn 1=1\/e.gn 1=2 then kD (mZ u.gr) u.nr u.gr (e.gn 0) e.Day else 1
def enU(u:Use)(e:Ev):Use:=if e.gn 1=0 then jE (RZ u e) e (jq u (e.gn 0)).1.Box ⟨2,0⟩ else { u with gr:=iL u.gr (nZ u.nr u.gr (e.gn 0)).toNat (if(e.gn 1==1)=true then 4 else 5) e.Day }
noncomputable def adP(u:Use)(e:Ev):fU×Int:=IC (e.gn 0) e.Day (e.nn-3) (fun i=>e.gn (3+i)) (e.gn 1) (e.gn 2)
noncomputable def adE(u:Use)(e:Ev):Int:=if 0<u.nt/\e.gn 0<=(u.gt (u.nt-1)).ID then 5 else if 64<=u.nt then 12 else(adP u e).2
noncomputable def adU(u:Use)(e:Ev):Use:= { u with nt:=u.nt+1,gt:=aV u.gt u.nt (adP u e).1 }
def sJ(u:Use)(e:Ev):Int:=idxFrom (fun b:fU=>b.ID==e.gn 0) (lst u.nt u.gt) 0
theorem XZ(u:Use)(e:Ev):sJ u e<u.nt:=mX _ u.nt u.gt
noncomputable def scE(u:Use)(e:Ev):Int:=if sJ u e<0 then 7 else(nS (u.gt (sJ u e).toNat)).2
noncomputable def scU(u:Use)(e:Ev):Use:= { u with gt:=iD u.gt (sJ u e).toNat (nS (u.gt (sJ u e).toNat)).1 }
noncomputable def vZ(u:Use)(e:Ev):fU×Int:=l9 (u.gt (sJ u e).toNat) (e.nn-1) (fun i=>e.gn (1+i))
noncomputable def ipU1(u:Use)(e:Ev):Use:= { u with gt:=iD u.gt (sJ u e).toNat (vZ u e).1 }
def Yk(u:Use):Int:=if 0<u.nl then IntKind.i64.wrap ((u.gl (u.nl-1)).mM+1) else 1
noncomputable def ZO(u:Use)(e:Ev):Int:=if sJ u e<0 then 7 else if(vZ u e).2≠0 then(vZ u e).2 else if(vZ u e).1.State≠3 then 0 else jZ u.gl u.nl (vZ u e).1 (Yk u)
noncomputable def ipU(u:Use)(e:Ev):Use:=if(vZ u e).1.State≠3 then ipU1 u e else { ipU1 u e with nl:=CG u.gl u.nl (vZ u e).1 (Yk u),gl:=U9 u.gl u.nl (vZ u e).1 (Yk u) }
theorem Wh(τ:List aG)(u:Use)(c:Option Nat)(m:Nat)(rg:Nat->Row)(e:Ev)(s:sO)(b:Bx)(hu:dB u):aA prog 254 [.ptr σ.length 0,.agg (s.enc.map .d),.agg (b.enc.map .d)] (σ++ .var (bg (u.cells u.bG) c m rg e)::τ) (.d (I (Gh u s b))):=by
 have b1:=hu.nb;have b3:=hu.nv;refine aA.bs true func254 fun hwf=> ?_;refine aJ [0,4,5] ?_ ?_<;>intro c0 d0
 ·have hz:Gh u s b=10:=if_pos (by simpa using d0);simp[go_sem];rw[hz];exact aj sc
 ·have hz0: ¬s.cO≠b.cO:=by simpa using d0
  simp[go_sem];refine kQ (α:=Nat×Int) true [0,4,5,7,21,22,23] (fun x=>[(23,.d (I x.1)),(7,.d (I x.2))]) (fun x=>_) (fun x=>x.1<=u.nb/\nG u s.ID b.ID 0 b.Width u.nb=nG u s.ID b.ID x.1 x.2 (u.nb-x.1)) (fun x=>u.nb-x.1) (0,b.Width) ?_ (hx:=⟨by simp,by simp⟩);rintro⟨i,t⟩ ⟨hi,hx⟩;dsimp only at hi hx;simp[go_sem];refine aJ [0,4,5,7,21,22,23] ?_ ?_<;>intro c1 d1
  ·have hi1:i<u.nb:=by omega
   have hst:=YF (u:=u) (s:=s.ID) (k:=b.ID) (t:=t) hi1;simp[go_sem,hi1];refine T.dr 18 fun K hK=> ?_;simp[go_sem];refine dF.mk' (.agg ((aW u (u.gb i).ID).enc.map .d)) (fun _=>nD _ u (u.gb i).ID (by omega)) ?_;simp[go_sem];refine hK _ ?_;refine go true ?_;simp[go_sem];refine aJ [0,4,5,7,9,21,22,23] ?_ ?_<;>intro c2 d2
   ·have hc2:(u.gb i).ID≠b.ID/\aW u (u.gb i).ID=⟨1,s.ID⟩:=by rw[QM];simpa using d2
    simp(disch:=first|omega|simp) [go_sem,aH];refine gB ((i+1,IntKind.i64.wrap (t+(u.gb i).Width))) ⟨by dsimp only;omega,by dsimp only;rw[hx,hst,if_pos hc2]⟩ (h:=by simp[go_sem]<;>omega)
   ·have hc2: ¬((u.gb i).ID≠b.ID/\aW u (u.gb i).ID=⟨1,s.ID⟩):=by rw[QM];simpa using d2
    simp(disch:=first|omega|simp) [go_sem,aH];refine gB ((i+1,t)) ⟨by dsimp only;omega,by dsimp only;rw[hx,hst,if_neg hc2]⟩ (h:=by simp[go_sem]<;>omega)
  ·have hsum:nG u s.ID b.ID 0 b.Width u.nb=t:=by rw[hx,show u.nb-i=0 by omega];rfl
   simp[go_sem];refine go true (sm ?_);refine aJ [] ?_ ?_<;>intro c3 d3
   ·have hz:Gh u s b=12:=by unfold Gh;rw[if_neg hz0,hsum,if_pos (by omega)]
    simp[go_sem];rw[hz];exact aj sc
   ·have hz:Gh u s b=0:=by unfold Gh;rw[if_neg hz0,hsum,if_neg (by omega)]
    simp[go_sem];rw[hz];exact aj sc
theorem Yz(u:Use)(c:Option Nat)(m:Nat)(rg:Nat->Row)(e:Ev)(hu:dB u)(hn:3<=e.nn)(hb:e.nn<1000000000):CS prog 164 [.ptr σ.length 0] (σ++[.var (bg (u.cells u.bG) c m rg e)]) (fun r σ' X'=>X'=[]/\r= .d (I (TS u e))/\∃cs,σ'=σ++[.var cs]/\(TS u e=0->cs=bg ((jE u e (e.gn 0) ⟨e.gn 1,e.gn 2⟩).cells (jE u e (e.gn 0) ⟨e.gn 1,e.gn 2⟩).bG) c m rg e)):=by
 have b1:=hu.nb;have b2:=hu.nf;have b3:=hu.nv;have k1:=X6 u.nb u.gb (e.gn 0);have k2:=sIx_lt u.nf u.gf (e.gn 2);refine CS.NT true [] func164 fun hwf=> ?_;apply bW 8 7 9 T.mixed (by kernel_rfl)
 ·intro τ K hK;simp[go_sem];repeat refine⟨by omega,?_⟩
  exact hK _ _
 intro K hK;simp[go_sem];refine hK _ ?_;refine go true (sm ?_);refine T.dr 16 fun K hK=>sm ?_;repeat refine⟨by omega,?_⟩
 refine dF.mk (Ku _ u (e.gn 0) (by omega)) (sm ?_);refine dF.mk (Kt _ u (e.gn 2) (by omega)) (sm ?_);refine hK _ ?_;refine go true (sm ?_);refine aJ [0,3,4,5,6] ?_ ?_<;>intro c0 d0
 ·have hz:TS u e=7:=if_pos (by simpa using d0);simp[go_sem];refine aj ?_;rw[hz];simp[go_sem];refine dP ?_;exact .refl _
 ·have hz0: ¬(lQ u.nb u.gb (e.gn 0)<0\/(e.gn 1=1/\rV u.nf u.gf (e.gn 2)<0)):=by simpa using d0
  obtain⟨i,hi,hin⟩: ∃i:Nat,lQ u.nb u.gb (e.gn 0)=(i:Int)/\i<u.nb:=⟨(lQ u.nb u.gb (e.gn 0)).toNat,by omega,by omega⟩;simp[go_sem,hi];repeat refine⟨by omega,?_⟩
  refine aO.mk (BA σ _ u c m rg e (e.gn 0) (by omega)) ?_;simp[go_sem];refine aJ [0,3,4,5,6] ?_ ?_<;>intro c1 d1
  ·have hz:TS u e=11:=by unfold TS;rw[if_neg hz0,if_pos (by simpa using d1)]
   simp[go_sem];refine aj ?_;rw[hz];simp[go_sem];refine dP ?_;exact .refl _
  ·have hz1: ¬((aW u (e.gn 0)).Kind=3\/e.gn 1=3):=by simpa using d1
   simp[go_sem];refine aJ [0,3,4,5,6] ?_ ?_<;>intro c2 d2
   ·have hg1:e.gn 1=1:=by simpa using d2
    obtain⟨s,hs,hsn⟩: ∃s:Nat,rV u.nf u.gf (e.gn 2)=(s:Int)/\s<u.nf:=⟨(rV u.nf u.gf (e.gn 2)).toNat,by omega,by omega⟩;simp[go_sem,hs];refine T.dr 18 fun K hK=> ?_;simp[go_sem,hin,hsn];refine dF.mk (Wh σ _ u c m rg e (u.gf s) (u.gb i) hu) ?_;simp[go_sem];refine hK _ ?_;refine go true ?_;simp[go_sem];refine aJ [0,3,4,7] ?_ ?_<;>intro c3 d3
    ·have hz:TS u e=Gh u (u.gf s) (u.gb i):=by unfold TS;rw[if_neg hz0,if_neg hz1,hi,hs,Int.toNat_natCast,Int.toNat_natCast,if_pos ⟨hg1,by simpa using d3⟩]
     have hk: ¬Gh u (u.gf s) (u.gb i)=0:=by simpa using d3
     simp[go_sem];refine aj ?_;rw[hz];simp[go_sem,hk];refine dP ?_;exact .refl _
    ·have hz:TS u e=kJ u e (e.gn 0) ⟨e.gn 1,e.gn 2⟩:=by unfold TS;rw[if_neg hz0,if_neg hz1,hi,hs,Int.toNat_natCast,Int.toNat_natCast,if_neg (fun h=>h.2 (by simpa using d3))]
     simp[go_sem];refine T.dr 5 fun K hK=> ?_;simp[go_sem];repeat refine⟨by omega,?_⟩
     refine aO.gen (yI σ _ (u) c m rg e (e.gn 0) ⟨e.gn 1,e.gn 2⟩ (by omega)) ?_;rintro r σ' X ⟨rfl,rfl,rfl⟩;simp[go_sem];refine hK _ ?_;refine go true ?_;simp[go_sem];refine aj ?_;rw[hz];by_cases hk:kJ u e (e.gn 0) ⟨e.gn 1,e.gn 2⟩=0
     ·simp[go_sem,hk,jE];exact au (by simp[go_sem,ay])
     ·simp[go_sem,hk,jE];refine dP ?_;exact .refl _
   ·have hz:TS u e=kJ u e (e.gn 0) ⟨e.gn 1,e.gn 2⟩:=by unfold TS;rw[if_neg hz0,if_neg hz1,if_neg (fun h=>d2 h.1)]
    simp[go_sem];refine T.dr 5 fun K hK=> ?_;simp[go_sem];repeat refine⟨by omega,?_⟩
    refine aO.gen (yI σ _ (u) c m rg e (e.gn 0) ⟨e.gn 1,e.gn 2⟩ (by omega)) ?_;rintro r σ' X ⟨rfl,rfl,rfl⟩;simp[go_sem];refine hK _ ?_;refine go true ?_;simp[go_sem];refine aj ?_;rw[hz];by_cases hk:kJ u e (e.gn 0) ⟨e.gn 1,e.gn 2⟩=0
    ·simp[go_sem,hk,jE];exact au (by simp[go_sem,ay])
    ·simp[go_sem,hk,jE];refine dP ?_;exact .refl _
theorem svc_ask_cs(u:Use)(c:Option Nat)(m:Nat)(rg:Nat->Row)(e:Ev)(hu:dB u)(hn:3<=e.nn)(hb:e.nn<1000000000)(hm:m<1000000000)(h1:σ[1]? =some (.loc 1)):CS prog 165 [.ptr σ.length 0] (σ++[.var (bg (u.cells u.bG) c m rg e)]) (fun r σ' X'=>X'=[]/\r= .d (I (akE u m rg e))/\∃cs,σ'=σ++[.var cs]/\(akE u m rg e=0->cs=bg ((akU u e).cells (akU u e).bG) c m rg e)):=by
 have b1:=hu.nb;have b4:=hu.nr;refine CS.NT true [] func165 fun hwf=> ?_;refine T.dr 15 fun K hK=>sm ?_;repeat refine⟨by omega,?_⟩
 refine dF.mk (JV _ none u.nb u.gb (e.gn 2) (by omega) (fun i hi=>by have:=hu.bx i hi;omega)) ?_;simp[go_sem];refine hK _ ?_;refine go true (sm ?_);refine aJ [0,3,4] ?_ ?_<;>intro c0 d0
 ·have hz:akE u m rg e=7:=if_pos (by simpa using d0);simp[go_sem];refine aj ?_;rw[hz];simp[go_sem];refine dP ?_;exact .refl _
 ·have hz0: ¬(nC u.nb u.gb (e.gn 2)).2.2=false:=by simpa using d0
  simp[go_sem];refine T.dr 10 fun K hK=>sm ?_;repeat refine⟨by omega,?_⟩
  refine dF.mk (TI σ _ u c m rg e (e.gn 1) (e.gn 2) hm hu.P h1) (sm ?_);refine hK _ ?_;refine go true (sm ?_);refine aJ [0,3,4] ?_ ?_<;>intro c1 d1
  ·have hz:akE u m rg e=22:=by unfold akE;rw[if_neg hz0,if_pos (by simpa using d1)]
   simp[go_sem];refine aj ?_;rw[hz];simp[go_sem];refine dP ?_;exact .refl _
  ·have hz:akE u m rg e=oP u.nr u.gr (qj u e):=by unfold akE;rw[if_neg hz0,if_neg (by simpa using d1)]
   simp[go_sem];refine T.dr 26 fun K hK=>sm ?_;repeat refine⟨by omega,?_⟩
   refine dF.mk (KJ _ none u.nr u.gr (qj u e) (by omega)) (sm ?_);refine hK _ ?_;refine go true (sm ?_);refine aO.gen (Qs σ _ u c m rg e (.d (SL none 7 dU.enc u.nr u.gr)) (fun _=>trivial) _ _ _) ?_;rintro r σ' X ⟨rfl,rfl,rfl⟩;simp[go_sem];refine aj ?_;rw[hz];by_cases hk:oP u.nr u.gr (qj u e)=0
   ·simp[go_sem,hk,akU];exact au (by simp[go_sem,ay])
   ·simp[go_sem,hk,akU];refine dP ?_;exact .refl _
theorem svc_end_cs(u:Use)(c:Option Nat)(m:Nat)(rg:Nat->Row)(e:Ev)(hu:dB u)(hn:2<=e.nn)(hb:e.nn<1000000000):CS prog 167 [.ptr σ.length 0] (σ++[.var (bg (u.cells u.bG) c m rg e)]) (fun r σ' X'=>X'=[]/\r= .d (I (enE u e))/\∃cs,σ'=σ++[.var cs]/\(enE u e=0->cs=bg ((enU u e).cells (enU u e).bG) c m rg e)):=by
 have b4:=hu.nr;have b3:=hu.nv;have b5:(RZ u e).nv<=1000000:=b3;refine CS.NT true [] func167 fun hwf=> ?_;repeat refine⟨by omega,?_⟩
 refine aJ [0,3,17] ?_ ?_<;>intro c0 d0
 ·have hg0:e.gn 1=0:=by simpa using d0
  simp[go_sem];repeat refine⟨by omega,?_⟩
  refine aO.mk (YD σ _ u c m rg e (e.gn 0) (by omega)) (sm ?_);refine T.dr 18 fun K hK=>sm ?_;repeat refine⟨by omega,?_⟩
  refine dF.mk (H8 _ none u.nr u.gr (e.gn 0) e.Day (by omega)) (sm ?_);refine hK _ ?_;refine go true (sm ?_);refine aJ [0,4,6,7] ?_ ?_<;>intro c1 d1
  ·have hk: ¬kD (vw u.gr) u.nr u.gr (e.gn 0) e.Day=0:=by simpa using d1
   have hz:enE u e=kD (vw u.gr) u.nr u.gr (e.gn 0) e.Day:=by unfold enE;rw[if_pos hg0,if_pos hk]
   simp[go_sem];refine aj ?_;rw[hz];simp[go_sem,hk];refine dP ?_;exact .refl _
  ·have hk1:kD (vw u.gr) u.nr u.gr (e.gn 0) e.Day=0:=by simpa using d1
   have hz:enE u e=kJ (RZ u e) e (jq u (e.gn 0)).1.Box ⟨2,0⟩:=by unfold enE;rw[if_pos hg0,if_neg (fun h=>h hk1)]
   have hy:enU u e=jE (RZ u e) e (jq u (e.gn 0)).1.Box ⟨2,0⟩:=if_pos hg0;simp[go_sem,hk1];refine aO.gen (yI σ _ (RZ u e) c m rg e (jq u (e.gn 0)).1.Box ⟨2,0⟩ (by omega)) ?_;rintro r σ' X ⟨rfl,rfl,rfl⟩;simp[go_sem];refine aj ?_;rw[hz,hy];by_cases hk:kJ (RZ u e) e (jq u (e.gn 0)).1.Box ⟨2,0⟩=0
   ·simp[go_sem,hk,jE];exact au (by simp[go_sem,ay])
   ·simp[go_sem,hk,jE];refine dP ?_;exact au (by simp[go_sem,ay])
 ·have hg0: ¬e.gn 1=0:=by simpa using d0
  have hy:enU u e= { u with gr:=iL u.gr (nZ u.nr u.gr (e.gn 0)).toNat (if(e.gn 1==1)=true then 4 else 5) e.Day } :=if_neg hg0;simp[go_sem];refine aJ [0,3,17,58] ?_ ?_<;>intro c2 d2
  ·have hz:enE u e=kD (mZ u.gr) u.nr u.gr (e.gn 0) e.Day:=by unfold enE;rw[if_neg hg0,if_pos (.inl (by simpa using d2))]
   simp[go_sem];refine aJ [0,3] ?_ ?_<;>intro c3 d3
   ·simp[go_sem];refine T.dr 22 fun K hK=>sm ?_;repeat refine⟨by omega,?_⟩
    refine dF.mk (zW _ none u.nr u.gr (e.gn 0) e.Day (e.gn 1==1) (by omega)) (sm ?_);refine hK _ ?_;refine go true (sm ?_);refine aO.gen (Qs σ _ u c m rg e (.d (SL none 7 dU.enc u.nr u.gr)) (fun _=>trivial) _ _ _) ?_;rintro r σ' X ⟨rfl,rfl,rfl⟩;simp[go_sem];refine aj ?_;rw[hz,hy];by_cases hk:kD (mZ u.gr) u.nr u.gr (e.gn 0) e.Day=0
    ·simp[go_sem,hk];exact au (by simp[go_sem,ay])
    ·simp[go_sem,hk];refine dP ?_;exact .refl _
   ·exact absurd d2 d3
  ·simp[go_sem];refine aJ [0,3] ?_ ?_<;>intro c4 d4
   ·have hz:enE u e=kD (mZ u.gr) u.nr u.gr (e.gn 0) e.Day:=by unfold enE;rw[if_neg hg0,if_pos (.inr (by simpa using d4))]
    simp[go_sem];refine T.dr 22 fun K hK=>sm ?_;repeat refine⟨by omega,?_⟩
    refine dF.mk (zW _ none u.nr u.gr (e.gn 0) e.Day (e.gn 1==1) (by omega)) (sm ?_);refine hK _ ?_;refine go true (sm ?_);refine aO.gen (Qs σ _ u c m rg e (.d (SL none 7 dU.enc u.nr u.gr)) (fun _=>trivial) _ _ _) ?_;rintro r σ' X ⟨rfl,rfl,rfl⟩;simp[go_sem];refine aj ?_;rw[hz,hy];by_cases hk:kD (mZ u.gr) u.nr u.gr (e.gn 0) e.Day=0
    ·simp[go_sem,hk];exact au (by simp[go_sem,ay])
    ·simp[go_sem,hk];refine dP ?_;exact .refl _
   ·have hz:enE u e=1:=by unfold enE;rw[if_neg hg0,if_neg (by rintro(h|h);exact d2 h;exact d4 h)]
    simp[go_sem];refine aj ?_;rw[hz];simp[go_sem];refine dP ?_;exact .refl _
theorem insp_nu{x:fU}{m:Nat}{h:Nat->Int}(hx:x.nu<1000000000)(hm:m<1000000000):(l9 x m h).1.nu<1000000000/\(l9 x m h).1.nb<1000000000:=by
 unfold l9
 (repeat' split)<;>simp[rQ,IV]<;>omega
theorem setBtT_cs(τ:List aG)(u:Use)(c:Option Nat)(m:Nat)(rg:Nat->Row)(e:Ev)(n:Nat)(row:Nat->List D)(k:Int):CS prog 268 [.ptr (σ.length+2) 12,.ms σ.length 8 0 n,.d (I k)] (σ++ .arr 8 n row:: .dead:: .var (bg ((u.cells u.bG).set 12 (.undef)) c m rg e)::τ) (fun r σ' X'=>X'=[]/\r= .d (I k)/\σ'=σ++ .arr 8 n row:: .dead:: .var (bg ((u.cells u.bG).set 12 (if k=0 then .ms σ.length 8 0 n else .undef)) c m rg e)::τ):=by
 refine CS.NT true [] func268 fun hwf=> ?_;refine fZ ?_ ?_<;>intro c0 d0
 ·obtain rfl:k=0:=by simpa using d0
  simp[go_sem];refine aj (sm ?_);exact au (by simp[go_sem,ay]<;>omega)
 ·have hk: ¬k=0:=by simpa using d0
  simp[go_sem];refine aj ?_;simp[go_sem,hk];exact .refl _
theorem setBa_cs(τ:List aG)(n:Nat)(g:Nat->fU)(i:Nat)(hi:i<n)(x:fU)(k:Int):CS prog 271 [.pe σ.length 8 i 0,.agg (x.enc.map .d),.d (I k)] (σ++ .arr 8 n (fun q=>fU.enc (g q))::τ) (fun r σ' X'=>X'=[]/\r= .d (I k)/\σ'=σ++ .arr 8 n (fun q=>fU.enc (if k=0 then iD g i x q else g q))::τ):=by
 refine CS.bdD true [] func271 fun hwf=> ?_;simp[go_sem];refine fZ ?_ ?_<;>intro c0 d0
 ·obtain rfl:k=0:=by simpa using d0
  simp[go_sem,hi];refine aY σ.length (fun q=>fU.enc (iD g i x q)) (by simp[go_sem];exact⟨rfl,rfl,rfl⟩) (by intro q hq;unfold iD;by_cases h:q=i<;>simp[h,fU.enc]) (by simp[go_sem];rfl) ?_;refine aj ?_;simp[go_sem];exact au (by simp[go_sem,ay])
 ·have hk: ¬k=0:=by simpa using d0
  simp[go_sem];refine aj ?_;simp[go_sem,hk];exact .refl _
theorem IW(τ:List aG)(n:Nat)(g:Nat->fU)(f:FuncId)(cap:List AV)(p:fU->Bool)(hn:n<1000000000)(hf: ∀i,i<n->aA prog f (.agg ((g i).enc.map .d)::cap) (σ++ .arr 8 n (fun q=>fU.enc (g q))::τ) (.d (B (p (g i))))):aA prog 331 [.ms σ.length 8 0 n,.clo (.func f) [] cap] (σ++ .arr 8 n (fun q=>fU.enc (g q))::τ) (.d (I (idxFrom p (lst n g) 0))):=by
 refine aA.bs true func331 fun hwf=> ?_;refine kQ (α:=Nat) true [0,1,7,8] (fun i=>[(8,.d (I i))]) (fun i=>_) (fun i=>i<=n/\idxFrom p (lst n g) 0=idxFrom p ((lst n g).drop i) i) (fun i=>n-i) 0 ?_;rintro i ⟨hi,hx⟩;simp[go_sem];refine aJ [0,1,7,8] ?_ ?_<;>intro c0 d0
 ·rw[gX d0,idxFrom] at hx;simp[go_sem];repeat refine⟨by omega,?_⟩
  refine aO.mk (hf i d0) (sm ?_);refine aJ [0,1,5,7,8] ?_ ?_<;>intro c1 d1
  ·simp[go_sem];refine aj ?_;simp[go_sem,hx,c1]<;>omega
  ·simp(disch:=first|omega|simp) [go_sem,aH];refine gB (i+1) ⟨by omega,by rw[hx,c1];simp⟩ (h:=by simp[go_sem]<;>omega)
 ·rw[gY d0,idxFrom] at hx;simp[go_sem];refine go true (sm ?_);refine aj ?_;simp[go_sem,hx]<;>omega
theorem Qb(τ:List aG)(u:Use)(c:Option Nat)(m:Nat)(rg:Nat->Row)(e:Ev)(x:fU)(hn:1<=e.nn):aA prog 332 [.agg (x.enc.map .d),.ptr (σ.length+3) 0] (σ++[.arr 8 u.nt (fun i=>fU.enc (u.gt i)),.dead,.var (bg ((u.cells u.bG).set 12 (.ms σ.length 8 0 u.nt)) c m rg e),.var [.ptr (σ.length+2) 0]]++τ) (.d (B (x.ID==e.gn 0))):=by
 refine aA.bs true func332 fun hwf=> ?_;refine T.dr 10 fun K hK=>sm ?_;repeat refine⟨by omega,?_⟩
 refine hK _ ?_;refine go true (sm ?_);exact aj so
theorem EU(u:Use)(c:Option Nat)(m:Nat)(rg:Nat->Row)(e:Ev)(hu:dB u)(hn:1<=e.nn)(hi:sJ u e<0):aA prog 269 [.ptr (σ.length+2) 0] (σ++[.arr 8 u.nt (fun i=>fU.enc (u.gt i)),.dead,.var (bg ((u.cells u.bG).set 12 (.ms σ.length 8 0 u.nt)) c m rg e)]) (.d (.v (.pointer none))):=by
 have b6:=hu.nt;unfold sJ at hi;refine aA.bs true func269 fun hwf=> ?_;refine aO.mk (IW σ _ u.nt u.gt _ _ (fun b=>b.ID==e.gn 0) (by omega) (fun i hi=>by have h:=Qb σ [] u c m rg e (u.gt i) hn;simpa[go_sem] using h)) ?_;simp[go_sem];refine aJ [1,3] ?_ ?_<;>intro c0 d0
 ·simp[go_sem];exact aj so
 ·exact absurd hi (by omega)
theorem ET(u:Use)(c:Option Nat)(m:Nat)(rg:Nat->Row)(e:Ev)(hu:dB u)(hn:1<=e.nn)(i:Nat)(hi:sJ u e=(i:Int))(hin:i<u.nt):aA prog 269 [.ptr (σ.length+2) 0] (σ++[.arr 8 u.nt (fun i=>fU.enc (u.gt i)),.dead,.var (bg ((u.cells u.bG).set 12 (.ms σ.length 8 0 u.nt)) c m rg e)]) (.pe σ.length 8 i 0):=by
 have b6:=hu.nt;unfold sJ at hi;refine aA.bd true func269 fun hwf=> ?_;simp[go_sem];refine aO.mk (IW σ _ u.nt u.gt _ _ (fun b=>b.ID==e.gn 0) (by omega) (fun i hi=>by have h:=Qb σ [] u c m rg e (u.gt i) hn;simpa[go_sem] using h)) ?_;simp[go_sem,hi];refine aJ [1,3] ?_ ?_<;>intro c0 d0
 ·exact absurd d0 (by omega)
 ·simp[go_sem];repeat refine⟨by omega,?_⟩
  refine aj ?_;simp[go_sem]<;>omega
theorem Om(u:Use)(c:Option Nat)(m:Nat)(rg:Nat->Row)(e:Ev)(hu:dB u)(hn:3<=e.nn)(hb:e.nn<1000000000)(h0:σ[0]? =some (.tab 0 gK))(gy:lS σ):CS prog 169 [.ptr (σ.length+2) 0] (σ++[.arr 8 u.nt (fun i=>fU.enc (u.gt i)),.dead,.var (bg ((u.cells u.bG).set 12 (.ms σ.length 8 0 u.nt)) c m rg e)]) (fun r σ' X'=>X'=[σ.length]/\r= .d (I (adE u e))/\∃cs,σ'=σ++[.dead,.dead,.var cs]/\(adE u e=0->cs=bg ((adU u e).cells (adU u e).bG) c m rg e)):=by
 have b6:=hu.nt;have hwp:=dn (i:=u.nt) (by omega);have h3:((e.nn:Int)-3).toNat=e.nn-3:=by omega
 have had:IC (e.gn 0) e.Day (e.nn-3) (fun i=>e.gn (3+i)) (e.gn 1) (e.gn 2)=adP u e:=rfl;refine CS.bdD true [σ.length] func169 fun hwf=> ?_;simp[go_sem];refine T.dr 19 fun K hK=> ?_;simp[go_sem,hwp];repeat refine⟨by omega,?_⟩
 refine hK _ ?_;refine go false ?_;simp[go_sem];refine aJ [0,3,4] ?_ ?_<;>intro c0 d0
 ·have hz:adE u e=5:=if_pos (by omega);simp[go_sem];refine aF gy σ.length ?_;refine go true ?_;simp[go_sem];refine aj ?_;rw[hz];simp[go_sem];refine tX ?_;exact au (by simp[go_sem,ay])
 ·have hz0: ¬(0<u.nt/\e.gn 0<=(u.gt (u.nt-1)).ID):=by omega
  simp[go_sem];refine go false ?_;simp[go_sem];refine aJ [0,3] ?_ ?_<;>intro c1 d1
  ·have hz:adE u e=12:=by unfold adE;rw[if_neg hz0,if_pos (by omega)]
   simp[go_sem];refine aF gy σ.length ?_;refine go true ?_;simp[go_sem];refine aj ?_;rw[hz];simp[go_sem];refine tX ?_;exact au (by simp[go_sem,ay])
  ·have hz:adE u e=(adP u e).2:=by unfold adE;rw[if_neg hz0,if_neg (by omega)]
   simp[go_sem];apply bW 22 20 21 T.mixed (by kernel_rfl)
   ·intro τ K hK;simp[go_sem,h3];repeat refine⟨by omega,?_⟩
    refine dF.mk (Ls _ (e.gn 0) e.Day (e.cn.map fun x=>x-3) (e.nn-3) (fun i=>e.gn (3+i)) (e.gn 1) (e.gn 2) (by omega) (aC h0)) ?_;simp[go_sem,had];exact hK _ _
   intro K hK;simp[go_sem];refine hK _ ?_;refine go true ?_;simp[go_sem];apply App1.NW 13 11 71 (.ms σ.length 8 0 (u.nt+1)) ((σ++[.arr 8 (u.nt+1) (bf u.nt (fun i=>fU.enc (u.gt i)) (rowsOf 8 (adP u e).1.enc)),.dead,.var (bg ((u.cells u.bG).set 12 (.undef)) c m rg e),.var ((adP u e).1.enc.map .d)])) ([σ.length]) [5,6,7,8,9,10] T.mixed (by kernel_rfl)
   ·intro K hK;simp[go_sem];exact hK _ _
   ·decide
   ·simp[go_sem,gy.zero];repeat refine⟨by omega,?_⟩
    all_goals omega
   ·intro K hK;simp[go_sem];exact hK _ _
   ·simp[go_sem]
   intro K hK;simp[go_sem];have h:=setBtT_cs σ [.var ((adP u e).1.enc.map .d)] u c m rg e (u.nt+1) (bf u.nt (fun i=>fU.enc (u.gt i)) (rowsOf 8 (adP u e).1.enc)) (adP u e).2;refine aO.gen h ?_;rintro r σ' X ⟨rfl,rfl,rfl⟩;simp[go_sem];refine hK _ ?_;refine go true ?_;simp[go_sem];refine aY σ.length (fun q=>fU.enc (aV u.gt u.nt (adP u e).1 q)) (by simp[go_sem];exact⟨rfl,rfl,rfl⟩) (by exact fun q hq=>yj (enc:=fU.enc) (x:=(adP u e).1) rfl q hq) (by simp[go_sem];rfl) ?_;by_cases hk:(adP u e).2=0
   ·rw[hz];simp only[hk,if_true];refine aF gy σ.length ?_;refine aj ?_;simp[go_sem,adU];exact au (by simp[go_sem,ay])
   simp only[hk,if_false];refine aF gy σ.length ?_;refine aj ?_;rw[hz];simp[go_sem,hk];refine tX ?_;exact au (by simp[go_sem,ay])
theorem V5(u:Use)(c:Option Nat)(m:Nat)(rg:Nat->Row)(e:Ev)(hu:dB u)(hn:1<=e.nn)(hb:e.nn<1000000000)(hi:sJ u e<0)(gy:lS σ):CS prog 170 [.ptr (σ.length+2) 0] (σ++[.arr 8 u.nt (fun i=>fU.enc (u.gt i)),.dead,.var (bg ((u.cells u.bG).set 12 (.ms σ.length 8 0 u.nt)) c m rg e)]) (fun r σ' X'=>X'=[σ.length]/\r= .d (I (scE u e))/\∃cs,σ'=σ++[.dead,.dead,.var cs]/\(scE u e=0->cs=bg ((scU u e).cells (scU u e).bG) c m rg e)):=by
 have hz:scE u e=7:=if_pos hi;refine CS.bdD false [σ.length] func170 fun hwf=> ?_;simp[go_sem];refine go false ?_;simp[go_sem];refine aO.mk (EU σ u c m rg e hu hn hi) ?_;simp[go_sem];refine go false ?_;simp[go_sem];refine go false ?_;simp[go_sem];refine cn [3] rfl ?_ ?_<;>intro c0 d0<;>try simp at d0
 ·simp[go_sem];refine aF gy σ.length ?_;refine go true ?_;simp[go_sem];refine aj ?_;rw[hz];simp[go_sem];refine tX ?_;exact au (by simp[go_sem,ay])
theorem V4(u:Use)(c:Option Nat)(m:Nat)(rg:Nat->Row)(e:Ev)(hu:dB u)(hn:1<=e.nn)(hb:e.nn<1000000000)(h0:σ[0]? =some (.tab 0 gK))(i:Nat)(hi:sJ u e=(i:Int))(hin:i<u.nt)(gy:lS σ):CS prog 170 [.ptr (σ.length+2) 0] (σ++[.arr 8 u.nt (fun i=>fU.enc (u.gt i)),.dead,.var (bg ((u.cells u.bG).set 12 (.ms σ.length 8 0 u.nt)) c m rg e)]) (fun r σ' X'=>X'=[σ.length]/\r= .d (I (scE u e))/\∃cs,σ'=σ++[.dead,.dead,.var cs]/\(scE u e=0->cs=bg ((scU u e).cells (scU u e).bG) c m rg e)):=by
 have b6:=hu.nt;have g1:=hu.bu i hin;have g2:=hu.bb i hin;have hz:scE u e=(nS (u.gt i)).2:=by unfold scE;rw[if_neg (by omega),hi,Int.toNat_natCast]
 have hy:scU u e= { u with gt:=iD u.gt i (nS (u.gt i)).1 } :=by unfold scU;rw[hi,Int.toNat_natCast]
 refine CS.bdD true [σ.length] func170 fun hwf=> ?_;simp[go_sem];refine aO.mk (ET σ u c m rg e hu hn i hi hin) ?_;simp[go_sem];refine cn [3] rfl ?_ ?_<;>intro c0 d0<;>try simp at d0
 ·simp[go_sem,hin];refine aO.mk (Lr _ (u.gt i) (by omega) (by omega) (aC h0)) ?_;simp[go_sem];refine aO.gen (setBa_cs σ _ u.nt u.gt i hin (nS (u.gt i)).1 _) ?_;rintro r σ' X ⟨rfl,rfl,rfl⟩;simp[go_sem];by_cases hk:(nS (u.gt i)).2=0
  ·rw[hz,hy];simp only[hk,if_true];refine aF gy σ.length ?_;refine aj ?_;simp[go_sem];exact au (by simp[go_sem,ay])
  simp only[hk,if_false];refine aF gy σ.length ?_;refine aj ?_;rw[hz];simp[go_sem,hk];refine tX ?_;exact au (by simp[go_sem,ay])
theorem Oh(u:Use)(c:Option Nat)(m:Nat)(rg:Nat->Row)(e:Ev)(hu:dB u)(hn:1<=e.nn)(hb:e.nn<1000000000)(hi:sJ u e<0)(gy:lS σ):CS prog 171 [.ptr (σ.length+2) 0] (σ++[.arr 8 u.nt (fun i=>fU.enc (u.gt i)),.dead,.var (bg ((u.cells u.bG).set 12 (.ms σ.length 8 0 u.nt)) c m rg e)]) (fun r σ' X'=>X'=[σ.length]/\r= .d (I (ZO u e))/\∃cs,σ'=σ++[.dead,.dead,.var cs]/\(ZO u e=0->cs=bg ((ipU u e).cells (ipU u e).bG) c m rg e)):=by
 have hz:ZO u e=7:=if_pos hi;refine CS.bdD false [σ.length] func171 fun hwf=> ?_;simp[go_sem];refine go false ?_;simp[go_sem];refine aO.mk (EU σ u c m rg e hu hn hi) ?_;simp[go_sem];refine go false ?_;simp[go_sem];refine go false ?_;simp[go_sem];refine cn [0,3] rfl ?_ ?_<;>intro c0 d0<;>try simp at d0
 ·simp[go_sem];refine aF gy σ.length ?_;refine go true ?_;simp[go_sem];refine aj ?_;rw[hz];simp[go_sem];refine tX ?_;exact au (by simp[go_sem,ay])
theorem Og(u:Use)(c:Option Nat)(m:Nat)(rg:Nat->Row)(e:Ev)(hu:dB u)(hn:1<=e.nn)(hb:e.nn<1000000000)(h0:σ[0]? =some (.tab 0 gK))(i:Nat)(hi:sJ u e=(i:Int))(hin:i<u.nt)(gy:lS σ):CS prog 171 [.ptr (σ.length+2) 0] (σ++[.arr 8 u.nt (fun i=>fU.enc (u.gt i)),.dead,.var (bg ((u.cells u.bG).set 12 (.ms σ.length 8 0 u.nt)) c m rg e)]) (fun r σ' X'=>X'=[σ.length]/\r= .d (I (ZO u e))/\∃cs,σ'=σ++[.dead,.dead,.var cs]/\(ZO u e=0->cs=bg ((ipU u e).cells (ipU u e).bG) c m rg e)):=by
 have b6:=hu.nt;have b7:=hu.nl;have g1:=hu.bu i hin;have g2:=hu.bb i hin;have h1:((e.nn:Int)-1).toNat=e.nn-1:=by omega
 have hp:l9 (u.gt i) (e.nn-1) (fun i=>e.gn (1+i))=vZ u e:=by unfold vZ;rw[hi,Int.toNat_natCast]
 have hy1:ipU1 u e= { u with gt:=iD u.gt i (vZ u e).1 } :=by unfold ipU1;rw[hi,Int.toNat_natCast]
 have hib: ¬sJ u e<0:=by omega
 have hnu:=insp_nu (x:=u.gt i) (m:=e.nn-1) (h:=fun i=>e.gn (1+i)) (by omega) (by omega);rw[hp] at hnu;have hwp:=dn (i:=u.nl) (by omega);refine CS.bdD true [σ.length] func171 fun hwf=> ?_;simp[go_sem];refine aO.mk (ET σ u c m rg e hu hn i hi hin) ?_;simp[go_sem];refine cn [0,3] rfl ?_ ?_<;>intro c0 d0<;>try simp at d0
 ·simp[go_sem];apply bW 15 13 14 T.mixed (by kernel_rfl)
  ·intro τ K hK;simp[go_sem,hin,h1];repeat refine⟨by omega,?_⟩
   refine dF.mk (EI _ (u.gt i) (e.cn.map fun x=>x-1) (e.nn-1) (fun i=>e.gn (1+i)) (by omega) (by omega) (by omega) (aC h0)) ?_;simp[go_sem,hp];exact hK _ _
  intro K hK;simp[go_sem];refine hK _ ?_;refine go false ?_;simp[go_sem];refine go false ?_;simp[go_sem];refine aJ [0,3,4,5] ?_ ?_<;>intro c1 d1
  ·have hk: ¬(vZ u e).2=0:=by simpa using d1
   have hz:ZO u e=(vZ u e).2:=by unfold ZO;rw[if_neg hib,if_pos hk]
   simp[go_sem];refine aF gy σ.length ?_;refine go true ?_;simp[go_sem];refine aj ?_;rw[hz];simp[go_sem,hk];refine tX ?_;exact au (by simp[go_sem,ay])
  ·have hk1:(vZ u e).2=0:=by simpa using d1
   simp[go_sem,hin];refine aY σ.length (fun q=>fU.enc (iD u.gt i (vZ u e).1 q)) (by simp[go_sem];exact⟨rfl,rfl,rfl⟩) (by intro q hq;unfold iD;by_cases h:q=i<;>simp[h,fU.enc]) (by simp[go_sem];rfl) ?_;refine aF gy σ.length ?_;refine go false ?_;simp[go_sem];refine go true ?_;simp[go_sem];refine aJ [0,4] ?_ ?_<;>intro c2 d2
   ·have hk2:(vZ u e).1.State≠3:=by simpa using d2
    have hz:ZO u e=0:=by unfold ZO;rw[if_neg hib,if_neg (fun h=>h hk1),if_pos hk2]
    have hy:ipU u e=ipU1 u e:=if_pos hk2;simp[go_sem];refine aj ?_;rw[hz,hy,hy1];simp[go_sem];exact au (by simp[go_sem,ay])
   ·have hk2: ¬(vZ u e).1.State≠3:=by simpa using d2
    have hz:ZO u e=jZ u.gl u.nl (vZ u e).1 (Yk u):=by unfold ZO;rw[if_neg hib,if_neg (fun h=>h hk1),if_neg hk2]
    have hy:ipU u e= { ipU1 u e with nl:=CG u.gl u.nl (vZ u e).1 (Yk u),gl:=U9 u.gl u.nl (vZ u e).1 (Yk u) } :=if_neg hk2;simp[go_sem];refine aJ [0,4,6,7] ?_ ?_<;>intro c3 d3
    ·have hf:IntKind.i64.wrap ((u.gl (u.nl-1)).mM+1)=Yk u:=(if_pos (by omega)).symm;simp(disch:=first|omega|simp) [go_sem,hwp,hf];repeat refine⟨by omega,?_⟩
     refine T.dr 12 fun K hK=> ?_;simp[go_sem];refine dF.mk (xZ _ none u.nl u.gl (vZ u e).1 (Yk u) (by omega) hnu.1 hnu.2 (aC h0)) ?_;simp[go_sem];refine hK _ ?_;refine go true ?_;simp[go_sem];have h:=nA (YX (σ++[.dead,.dead]) [.var ((vZ u e).1.enc.map .d)] { u with gt:=iD u.gt i (vZ u e).1 } c m rg e (.d (SL none 2 lD.enc u.nl u.gl)) (fun _=>trivial) (CG u.gl u.nl (vZ u e).1 (Yk u)) (U9 u.gl u.nl (vZ u e).1 (Yk u)) (jZ u.gl u.nl (vZ u e).1 (Yk u)));refine aO.gen h ?_;rintro r σ' X ⟨rfl,rfl,rfl⟩;simp[go_sem];refine aj ?_;rw[hz,hy,hy1];by_cases hk:jZ u.gl u.nl (vZ u e).1 (Yk u)=0
     ·simp[go_sem,hk];exact au (by simp[go_sem,ay])
     ·simp[go_sem,hk];refine tX ?_;exact au (by simp[go_sem,ay])
    ·have hf:Yk u=1:=if_neg (by omega);rw[hf] at hz hy;simp[go_sem];refine T.dr 12 fun K hK=> ?_;simp[go_sem];refine dF.mk (xZ _ none u.nl u.gl (vZ u e).1 1 (by omega) hnu.1 hnu.2 (aC h0)) ?_;simp[go_sem];refine hK _ ?_;refine go true ?_;simp[go_sem];have h:=nA (YX (σ++[.dead,.dead]) [.var ((vZ u e).1.enc.map .d)] { u with gt:=iD u.gt i (vZ u e).1 } c m rg e (.d (SL none 2 lD.enc u.nl u.gl)) (fun _=>trivial) (CG u.gl u.nl (vZ u e).1 1) (U9 u.gl u.nl (vZ u e).1 1) (jZ u.gl u.nl (vZ u e).1 1));refine aO.gen h ?_;rintro r σ' X ⟨rfl,rfl,rfl⟩;simp[go_sem];refine aj ?_;rw[hz,hy,hy1];by_cases hk:jZ u.gl u.nl (vZ u e).1 1=0
     ·simp[go_sem,hk];exact au (by simp[go_sem,ay])
     ·simp[go_sem,hk];refine tX ?_;exact au (by simp[go_sem,ay])
end Go.Proofs.YtmahphgjkpgidaaGreatDoor
