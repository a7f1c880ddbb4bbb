/- Contracts and lemmas, joined out of smaller texts by a program; no conditions. -/
import Derived.Test.YthlhlnbcjlpigaaGreatDoorKB29
import Derived.Test.YthlhlnbcjlpigaaGreatDoorKB32
import Derived.Test.YthlhlnbcjlpigaaGreatDoorKB33
set_option linter.unusedVariables false
set_option linter.unusedSimpArgs false
set_option maxHeartbeats 4000000
set_option maxRecDepth 100000
namespace Go.Proofs.YthlhlnbcjlpigaaGreatDoor
open Go.aU Go.bY Go.Proofs.Tryz
noncomputable def evE(u:Use)(m:Nat)(rg:Nat->Row)(e:Ev):Int:=
 if e.Kind=48 then abE u e
 else if e.Kind=49 then puE u e
 else if e.Kind=51 then asE u e
 else if e.Kind=52 then ZC u e
 else if e.Kind=53 then akE u m rg e
 else if e.Kind=54 then JE u m rg e
 else if e.Kind=56 then boE u e
 else 0
noncomputable def evU(u:Use)(e:Ev):Use:=
 if e.Kind=48 then abU u e
 else if e.Kind=49 then puU u e
 else if e.Kind=51 then asU u e
 else if e.Kind=52 then I4 u e (e.gn 0) ⟨e.gn 1,e.gn 2⟩
 else if e.Kind=53 then akU u e
 else if e.Kind=54 then ldU u e
 else if e.Kind=56 then boU u e
 else u
def evQ(σ:List aC)(E:Int)(cs0:List AV)(r:AV)(σ':List aC):Prop:=r= .d (I E)/\∃cs,σ'=σ++[.dead,.dead,.dead,.dead,.dead,.dead,.dead,.var cs]/\(E=0->cs=cs0)
def L7(σ:List aC):List Nat:=[σ.length,σ.length+1,σ.length+2,σ.length+3,σ.length+4,σ.length+5,σ.length+6]
attribute [simp] L7
theorem KQ{nM:List aC}(hwf:sF nM){f:FuncId}{args args':List AV}{σ σ':List aC}{Q:AV->List aC->Prop}{L:List Nat}(k:Nat){sz n:Nat}{row:Nat->List D}(h:CS prog f args' σ' fun r σ1 X=>(∀x∈X,x∈L)/\Q r σ1)(hb:σ[nM.length+k]? =some (.arr sz n row):=by simp[go_sem];exact⟨rfl,rfl,rfl⟩)(ha:args.map (pV (nM.length+k) sz n row)=args':=by simp[go_sem];rfl)
  (hσ:(∀k sz n' row,nM.map (KT (nM.length+k) sz n' row)=nM)->(∀sz n' row,nM.map (KT nM.length sz n' row)=nM)->Yj (nM.length+k) sz n row σ=σ':=by intro h1 h2;simp[go_sem,h1,h2];rfl) (hm:nM.length+k∈L:=by simp):CS prog f args σ fun r σ1 X=>(∀x∈X,x∈L)/\Q r σ1:=
 CS.mono (CS.uN (Q:=fun r σ1 X=>(∀x∈X,x∈L)/\Q r σ1) _ hb ha (hσ hwf.uN hwf.yL) h) (by rintro r σ1 X ⟨X0,rfl,h1,h2⟩;refine⟨fun x hx=> ?_,h2⟩;rcases List.mem_cons.1 hx with rfl|hx;exact hm;exact h1 x hx)
theorem wrapD{σ:List aC}{u:Use}{c:Option Nat}{m:Nat}{rg:Nat->Row}{e:Ev}{f:FuncId}{Q:AV->List aC->Prop}(hwf:sF σ)(h:CS prog f [.ptr (σ.length+7) 0] (σ++[.dead,.dead,.dead,.dead,.dead,.dead,.dead,.var (fD (u.cells u.dw) c m rg e)]) (fun r σ' X=>X=[]/\Q r σ')):
  CS prog f [.ptr (σ.length+7) 0] (σ++(u.blks++[.var (fD (u.own σ.length) c m rg e)])) (fun r σ' X=>X=[σ.length,σ.length+1,σ.length+2,σ.length+3,σ.length+4,σ.length+5,σ.length+6]/\Q r σ'):=by
 refine CS.wide (Q:=Q) (L7 σ) ?_;refine KQ hwf 0 ?_;refine KQ hwf 1 ?_;refine KQ hwf 2 ?_;refine KQ hwf 3 ?_;refine KQ hwf 4 ?_;refine KQ hwf 5 ?_;refine KQ hwf 6 ?_;refine CS.mono (by simp[go_sem] at h⊢;exact h) (by rintro r σ1 X ⟨rfl,h2⟩;exact⟨by simp,h2⟩)
theorem wrapB{σ:List aC}{u:Use}{c:Option Nat}{m:Nat}{rg:Nat->Row}{e:Ev}{f:FuncId}{Q:AV->List aC->Prop}(hwf:sF σ)(h:CS prog f [.ptr (σ.length+7) 0] (σ++[.dead,.dead,.dead,.arr 5 u.nb (fun i=>Bx.enc (u.gb i)),.dead,.dead,.dead,.var (fD ((u.cells u.dw).set 6 (.ms (σ.length+3) 5 0 u.nb)) c m rg e)]) (fun r σ' X=>X=[σ.length+3]/\Q r σ')):
  CS prog f [.ptr (σ.length+7) 0] (σ++(u.blks++[.var (fD (u.own σ.length) c m rg e)])) (fun r σ' X=>X=[σ.length,σ.length+1,σ.length+2,σ.length+3,σ.length+4,σ.length+5,σ.length+6]/\Q r σ'):=by
 refine CS.wide (Q:=Q) (L7 σ) ?_;refine KQ hwf 0 ?_;refine KQ hwf 1 ?_;refine KQ hwf 2 ?_;refine KQ hwf 4 ?_;refine KQ hwf 5 ?_;refine KQ hwf 6 ?_;refine CS.mono (by simp[go_sem] at h⊢;exact h) (by rintro r σ1 X ⟨rfl,h2⟩;exact⟨by simp,h2⟩)
theorem wrapF{σ:List aC}{u:Use}{c:Option Nat}{m:Nat}{rg:Nat->Row}{e:Ev}{f:FuncId}{Q:AV->List aC->Prop}(hwf:sF σ)(h:CS prog f [.ptr (σ.length+7) 0] (σ++[.dead,.dead,.dead,.dead,.arr 4 u.nf (fun i=>nU.enc (u.gf i)),.dead,.dead,.var (fD ((u.cells u.dw).set 7 (.ms (σ.length+4) 4 0 u.nf)) c m rg e)]) (fun r σ' X=>X=[σ.length+4]/\Q r σ')):
  CS prog f [.ptr (σ.length+7) 0] (σ++(u.blks++[.var (fD (u.own σ.length) c m rg e)])) (fun r σ' X=>X=[σ.length,σ.length+1,σ.length+2,σ.length+3,σ.length+4,σ.length+5,σ.length+6]/\Q r σ'):=by
 refine CS.wide (Q:=Q) (L7 σ) ?_;refine KQ hwf 0 ?_;refine KQ hwf 1 ?_;refine KQ hwf 2 ?_;refine KQ hwf 3 ?_;refine KQ hwf 5 ?_;refine KQ hwf 6 ?_;refine CS.mono (by simp[go_sem] at h⊢;exact h) (by rintro r σ1 X ⟨rfl,h2⟩;exact⟨by simp,h2⟩)
theorem wrapW{σ:List aC}{u:Use}{c:Option Nat}{m:Nat}{rg:Nat->Row}{e:Ev}{f:FuncId}{Q:AV->List aC->Prop}(hwf:sF σ)(h:CS prog f [.ptr (σ.length+7) 0] (σ++[.dead,.dead,.dead,.dead,.dead,.dead,.arr 3 u.nw (fun i=>sG.enc (u.gw i)),.var (fD (u.cells (.ms (σ.length+6) 3 0 u.nw)) c m rg e)]) (fun r σ' X=>X=[σ.length+6]/\Q r σ')):
  CS prog f [.ptr (σ.length+7) 0] (σ++(u.blks++[.var (fD (u.own σ.length) c m rg e)])) (fun r σ' X=>X=[σ.length,σ.length+1,σ.length+2,σ.length+3,σ.length+4,σ.length+5,σ.length+6]/\Q r σ'):=by
 refine CS.wide (Q:=Q) (L7 σ) ?_;refine KQ hwf 0 ?_;refine KQ hwf 1 ?_;refine KQ hwf 2 ?_;refine KQ hwf 3 ?_;refine KQ hwf 4 ?_;refine KQ hwf 5 ?_;refine CS.mono (by simp[go_sem] at h⊢;exact h) (by rintro r σ1 X ⟨rfl,h2⟩;exact⟨by simp,h2⟩)
def kX(e:Ev):Prop:=e.Kind=48\/e.Kind=49\/e.Kind=51\/e.Kind=52\/e.Kind=53\/e.Kind=54\/e.Kind=56
theorem okS_iff{e:Ev}(h:okS e=true):(e.nt:Int)=(eG e.Kind).2.1/\(eG e.Kind).1<=(e.nn:Int):=by
 unfold okS at h;simp only[Bool.and_eq_true,decide_eq_true_eq] at h;exact⟨h.1.1.2,h.1.2⟩
theorem TQ{σ:List aC}(h:sF σ)(k:Nat):sF (σ++List.replicate k .dead):=fun X hX=>by
 rw[List.map_append,h X (fun b hb=>by have:=hX b hb;simp at this;omega),List.map_replicate];rfl
structure DoH(σ:List aC)(u:Use)(m:Nat)(e:Ev):Prop where
 hu:dR u
 hs:u.P.ns<=999
 hb:e.nn<=1000
 hm:m<1000000000
 htx: ∀i,i<e.nt->(e.gt i).size<4294967281
 h0:σ[0]? =some (.tab 0 iR)
 h1:σ[1]? =some (.loc 1)
 hwf:sF σ
def evq(σ:List aC)(c:Option Nat)(m:Nat)(rg:Nat->Row)(e:Ev)(E:Int)(U:Use):AV->List aC->Prop:=evQ σ E (fD (U.cells U.dw) c m rg e)
def DoE(σ:List aC)(u:Use)(c:Option Nat)(m:Nat)(rg:Nat->Row)(e:Ev)(f:Nat)(E:Int)(U:Use):Prop:=CS prog f [.ptr (σ.length+7) 0] (σ++(u.blks++[.var (fD (u.own σ.length) c m rg e)])) (fun r σ' X=>X=[σ.length,σ.length+1,σ.length+2,σ.length+3,σ.length+4,σ.length+5,σ.length+6]/\evq σ c m rg e E U r σ')
theorem do_addBox{σ u c m rg e}(H:DoH σ u m e)(hn:4<=e.nn):DoE σ u c m rg e 202 (abE u e) (abU u e):=by
 obtain⟨hu,hs,hb,hm,htx,h0,h1,hwf⟩:=H;have h:=nT (Qi (σ++[.dead,.dead,.dead]) u c m rg e hu (by omega) (by omega) (show sF (σ++[.dead,.dead,.dead]) from TQ hwf 3));exact wrapB (Q:=evq σ c m rg e (abE u e) (abU u e)) hwf h
theorem do_put{σ u c m rg e}(H:DoH σ u m e)(hn:4<=e.nn):DoE σ u c m rg e 203 (puE u e) (puU u e):=by
 obtain⟨hu,hs,hb,hm,htx,h0,h1,hwf⟩:=H;have h:=nT (ZQ (σ++[.dead,.dead,.dead,.dead,.dead,.dead,.dead]) u c m rg e hu (by omega) (by omega));exact wrapD (Q:=evq σ c m rg e (puE u e) (puU u e)) hwf h
theorem YN{σ u c m rg e}(H:DoH σ u m e)(hn:4<=e.nn):DoE σ u c m rg e 205 (asE u e) (asU u e):=by
 obtain⟨hu,hs,hb,hm,htx,h0,h1,hwf⟩:=H;have h:=nT (Kq (σ++[.dead,.dead,.dead,.dead]) u c m rg e hu (by omega) (by omega) (show sF (σ++[.dead,.dead,.dead,.dead]) from TQ hwf 4));exact wrapF (Q:=evq σ c m rg e (asE u e) (asU u e)) hwf h
theorem do_move{σ u c m rg e}(H:DoH σ u m e)(hn:3<=e.nn):DoE σ u c m rg e 206 (ZC u e) (I4 u e (e.gn 0) ⟨e.gn 1,e.gn 2⟩):=by
 obtain⟨hu,hs,hb,hm,htx,h0,h1,hwf⟩:=H;have h:=nT (WH (σ++[.dead,.dead,.dead,.dead,.dead,.dead,.dead]) u c m rg e hu (by omega) (by omega));exact wrapD (Q:=evq σ c m rg e (ZC u e) (I4 u e (e.gn 0) ⟨e.gn 1,e.gn 2⟩)) hwf h
theorem do_ask{σ u c m rg e}(H:DoH σ u m e)(hn:3<=e.nn):DoE σ u c m rg e 207 (akE u m rg e) (akU u e):=by
 obtain⟨hu,hs,hb,hm,htx,h0,h1,hwf⟩:=H;have h:=nT (ZU (σ++[.dead,.dead,.dead,.dead,.dead,.dead,.dead]) u c m rg e hu (by omega) (by omega) hm (aO h1));exact wrapD (Q:=evq σ c m rg e (akE u m rg e) (akU u e)) hwf h
theorem do_lend{σ u c m rg e}(H:DoH σ u m e)(hn:1<=e.nn):DoE σ u c m rg e 208 (JE u m rg e) (ldU u e):=by
 obtain⟨hu,hs,hb,hm,htx,h0,h1,hwf⟩:=H;have h:=nT (WJ (σ++[.dead,.dead,.dead,.dead,.dead,.dead]) u c m rg e hu (by omega) (by omega) hm (aO h1) (show sF (σ++[.dead,.dead,.dead,.dead,.dead,.dead]) from TQ hwf 6));exact wrapW (Q:=evq σ c m rg e (JE u m rg e) (ldU u e)) hwf h
theorem do_book{σ u c m rg e}(H:DoH σ u m e)(hn:4<=e.nn):DoE σ u c m rg e 210 (boE u e) (boU u e):=by
 obtain⟨hu,hs,hb,hm,htx,h0,h1,hwf⟩:=H;have h:=nT (WM (σ++[.dead,.dead,.dead,.dead,.dead,.dead,.dead]) u c m rg e hu (by omega) (by omega));exact wrapD (Q:=evq σ c m rg e (boE u e) (boU u e)) hwf h
theorem doK{σ:List aC}{u:Use}{c:Option Nat}{m:Nat}{rg:Nat->Row}{e:Ev}{q:Int}{k:Nat}{E:Int}{U:Use}(hK:e.Kind=q)(hd:DoE σ u c m rg e k E U)(hf:(eG q).2.2.2.2=k:=by exact rfl)(he:e.Kind=q->evE u m rg e=E:=by intro h;simp[evE,h])(hy:e.Kind=q->evU u e=U:=by intro h;simp[evU,h]):DoE σ u c m rg e (eG e.Kind).2.2.2.2 (evE u m rg e) (evU u e):=by
 rw[he hK,hy hK,hK,hf];exact hd
theorem do_cs{σ:List aC}{u:Use}{c:Option Nat}{m:Nat}{rg:Nat->Row}{e:Ev}(hu:dR u)(hs:u.P.ns<=999)(hb:e.nn<=1000)(hm:m<1000000000)(htx: ∀i,i<e.nt->(e.gt i).size<4294967281)(h0:σ[0]? =some (.tab 0 iR))(h1:σ[1]? =some (.loc 1))(hwf:sF σ)(hok:okS e=true)(hkx:kX e):
  CS prog (eG e.Kind).2.2.2.2 [.ptr (σ.length+7) 0] (σ++(u.blks++[.var (fD (u.own σ.length) c m rg e)])) (fun r σ' X=>X=[σ.length,σ.length+1,σ.length+2,σ.length+3,σ.length+4,σ.length+5,σ.length+6]/\evQ σ (evE u m rg e) (fD ((evU u e).cells (evU u e).dw) c m rg e) r σ'):=by
 have H:DoH σ u m e:=⟨hu,hs,hb,hm,htx,h0,h1,hwf⟩;suffices hh:DoE σ u c m rg e (eG e.Kind).2.2.2.2 (evE u m rg e) (evU u e) from hh
 obtain⟨hx,hn⟩:=okS_iff hok;have hcs:e.Kind=48\/e.Kind=49\/e.Kind=51\/e.Kind=52\/e.Kind=53\/e.Kind=54\/e.Kind=56:=hkx;rcases hcs with hK|hK|hK|hK|hK|hK|hK
 ·exact doK hK (do_addBox H (by rw[hK] at hn;simp[eG] at hn;omega))
 ·exact doK hK (do_put H (by rw[hK] at hn;simp[eG] at hn;omega))
 ·exact doK hK (YN H (by rw[hK] at hn;simp[eG] at hn;omega))
 ·exact doK hK (do_move H (by rw[hK] at hn;simp[eG] at hn;omega))
 ·exact doK hK (do_ask H (by rw[hK] at hn;simp[eG] at hn;omega))
 ·exact doK hK (do_lend H (by rw[hK] at hn;simp[eG] at hn;omega))
 ·exact doK hK (do_book H (by rw[hK] at hn;simp[eG] at hn;omega))
variable (σ : List aC)
def jk:Use:=⟨⟨0,fun _=>nV.zero,0,fun _=>⟨0,0,0,false,⟨0,0⟩⟩,0,fun _=>⟨0,.empty,⟨0,0⟩,⟨0,0⟩⟩,0,0,fun _=>⟨0,0,0,false,⟨0,0⟩⟩,0,fun _=>⟨0,0,0,0,⟨0,0⟩⟩⟩,0,fun _=>⟨0,0,0,0,0,fun _=>⟨0,0⟩⟩,0,fun _=>⟨0,0,0,0⟩,0,fun _=>⟨0,0,⟨0,0⟩,⟨0,0⟩⟩,0,fun _=>eU.zero,0,0,fun _=>⟨0,0,⟨0,0⟩⟩,0,fun _=>bat0,0,fun _=>⟨0,0⟩,0,fun _=>⟨0,0,0⟩,0⟩
structure TL(u:Use)(m:Nat)(e:Ev):Prop where
 use:dR u
 ns:u.P.ns<=999
 nn:e.nn<=1000
 m:m<1000000000
 tx: ∀i,i<e.nt->(e.gt i).size<4294967281
 nt:e.nt<=1000
 kx:kX e
noncomputable def stpU(u:Use)(e:Ev):Use:= { evU u e with Changed:=e.Day }
noncomputable def sK(u:Use)(m:Nat)(rg:Nat->Row)(e:Ev):Int:=if okB e=false then 1 else if e.Day<u.Changed then 5 else if 1048575<e.Day then 2 else evE u m rg e
noncomputable def jq(u:Use)(m:Nat)(rg:Nat->Row)(e:Ev):Use×Int:=if sK u m rg e≠0 then(jk,sK u m rg e) else(stpU u e,0)
theorem wf_app{σ τ:List aC}(h:sF σ)(ht: ∀x∈τ,∀X,bW X x=x):sF (σ++τ):=fun X hX=>by
 rw[List.map_append,h X (fun b hb=>by have:=hX b hb;simp at this;omega)];congr 1
 exact(List.map_congr_left fun x hx=>ht x hx X).trans (List.map_id _)
theorem TV(u:Use)(c:Option Nat)(m:Nat)(rg:Nat->Row)(e:Ev)(hu:TL u m e)(hok:okS e=false):ay prog 56 [.agg (u.cells u.dw),.d (SL c 3 Row.enc m rg),.agg (e.enc.map .d)] σ (.eX [.agg (jk.cells jk.dw),.d (I 1)]):=by
 have hb:okB e=false:=by unfold okB;rw[hok];rfl
 have hk:kdR e=kd0:=if_neg (by rw[hok];decide);have g1:=hu.nn;have hfc: ∀nM:List aC,ay prog 110 [.agg (e.enc.map .d)] nM (.eX [kd0,.d (B false)]):=fun nM=>by have h:=Du nM e (by omega);rw[hk,hb] at h;exact h
 refine ay.bs true func56 fun hwf=> ?_;refine aW.mk (hfc _) (sm ?_);refine cn [1,3,5,6,8] rfl ?_ ?_<;>intro c0 d0<;>try simp at d0
 ·simp[go_sem];refine aj ?_;simp[go_sem,jk,jr,Go.aU.dD]
theorem TU(u:Use)(c:Option Nat)(m:Nat)(rg:Nat->Row)(e:Ev)(hu:TL u m e)(h0:σ[0]? =some (.tab 0 iR))(h1:σ[1]? =some (.loc 1))(hok:okS e=true):ay prog 56 [.agg (u.cells u.dw),.d (SL c 3 Row.enc m rg),.agg (e.enc.map .d)] σ (.eX [.agg ((jq u m rg e).1.cells (jq u m rg e).1.dw),.d (I (jq u m rg e).2)]):=by
 have hk:kdR e=kdF (.i e.Kind):=if_pos hok;have g1:=hu.nn;have hfc: ∀nM:List aC,ay prog 110 [.agg (e.enc.map .d)] nM (.eX [kdF (.i e.Kind),.d (B (okB e))]):=fun nM=>by have h:=Du nM e (by omega);rw[hk] at h;exact h
 refine ay.bd true func56 fun hwf=> ?_;simp[go_sem];refine aW.mk (hfc _) ?_;simp[go_sem,kdF_i];refine aH [1,3,5,6,8] ?_ ?_<;>intro c0 d0
 ·have hz:sK u m rg e=1:=if_pos (by simpa using d0);have hr:jq u m rg e=(jk,1):=by unfold jq;rw[hz,if_pos (by decide)]
  simp[go_sem];refine aj ?_;rw[hr];simp[go_sem,jk,jr,Go.aU.dD]
 ·have hq0: ¬okB e=false:=by simpa using d0
  simp[go_sem];refine aH [1,3,5,6,8] ?_ ?_<;>intro c1 d1
  ·have hz:sK u m rg e=5:=by unfold sK;rw[if_neg hq0,if_pos (by omega)]
   have hr:jq u m rg e=(jk,5):=by unfold jq;rw[hz,if_pos (by decide)]
   simp[go_sem];refine aj ?_;rw[hr];simp[go_sem,jk,jr,Go.aU.dD]
  ·simp[go_sem];refine aH [1,3,5,6,8] ?_ ?_<;>intro c2 d2
   ·have hz:sK u m rg e=2:=by unfold sK;rw[if_neg hq0,if_neg (by omega),if_pos (by omega)]
    have hr:jq u m rg e=(jk,2):=by unfold jq;rw[hz,if_pos (by decide)]
    simp[go_sem];refine aj ?_;rw[hr];simp[go_sem,jk,jr,Go.aU.dD]
   ·have hz:sK u m rg e=evE u m rg e:=by unfold sK;rw[if_neg hq0,if_neg (by omega),if_neg (by omega)]
    simp[go_sem];apply Ownl.V3 5 1 55 (.agg (u.own (σ.length+7))) ([.var (u.own (σ.length+7)),.var (u.own (σ.length+7)),.dead,.arr 6 u.P.nc (fun i=>Rule.enc (u.P.gc i)),.arr 6 u.P.np (fun i=>iU.enc (u.P.gp i)),.arr 6 u.P.na (fun i=>kP.enc (u.P.ga i)),.arr 5 u.nb (fun i=>Bx.enc (u.gb i)),.arr 4 u.nf (fun i=>nU.enc (u.gf i)),.arr 8 u.nt (fun i=>nJ.enc (u.gt i)),.arr 3 u.nw (fun i=>sG.enc (u.gw i))]) T.mixed (by kernel_rfl)
    ·intro τ K hK;simp[go_sem];exact hK _ _
    ·simp[go_sem];have h:=EY (σ++[.var (u.cells u.dw),.var (e.enc.map .d),.var [.d (.v (.slice none 0 0)),.d (.v (.slice none 0 0)),.d (.v (.slice none 0 0)),.d (I 0),.d (.v (.slice none 0 0)),.d (.v (.slice none 0 0)),.d (.v (.slice none 0 0)),.d (.v (.slice none 0 0)),.d (.v (.slice none 0 0)),.d (.v (.slice none 0 0)),.d (I 0),.d (.v (.slice none 0 0)),.d (.v (.slice none 0 0)),.d (.v (.slice none 0 0)),.d (.v (.slice none 0 0)),.d (I 0)],.var [.d (I (eG e.Kind).1),.d (I (eG e.Kind).2.1),.d (B (eG e.Kind).2.2.1),.d (I (eG e.Kind).2.2.2.1),.d (Fn0 (eG e.Kind).2.2.2.2)]]) u hu.use;refine CS.mono (by simp[go_sem] at h⊢;exact h) ?_;rintro r σ' X ⟨rfl,rfl,rfl⟩;simp[go_sem]
    intro K hK;simp[go_sem];refine hK _ ?_;refine AU (σ.length+4) (by simp[go_sem];first|rfl|skip) (by simp[go_sem,hwf.one];first|rfl|skip) ?_;refine AU (σ.length+5) (by simp[go_sem];first|rfl|skip) (by simp[go_sem,hwf.one];first|rfl|skip) ?_;refine go false ?_;simp[go_sem];have h:=do_cs (σ:=σ++[.var (u.cells u.dw),.var (e.enc.map .d),.var [.d (.v (.slice none 0 0)),.d (.v (.slice none 0 0)),.d (.v (.slice none 0 0)),.d (I 0),.d (.v (.slice none 0 0)),.d (.v (.slice none 0 0)),.d (.v (.slice none 0 0)),.d (.v (.slice none 0 0)),.d (.v (.slice none 0 0)),.d (.v (.slice none 0 0)),.d (I 0),.d (.v (.slice none 0 0)),.d (.v (.slice none 0 0)),.d (.v (.slice none 0 0)),.d (.v (.slice none 0 0)),.d (I 0)],.var [.d (I (eG e.Kind).1),.d (I (eG e.Kind).2.1),.d (B (eG e.Kind).2.2.1),.d (I (eG e.Kind).2.2.2.1),.d (Fn0 (eG e.Kind).2.2.2.2)],.dead,.dead,.dead]) (u:=u) (c:=c) (m:=m) (rg:=rg) (e:=e) hu.use hu.ns hu.nn hu.m hu.tx (aO h0) (aO h1) (wf_app hwf (by intro x hx X;simp only[List.mem_cons,List.not_mem_nil,or_false] at hx;rcases hx with rfl|rfl|rfl|rfl|rfl|rfl|rfl<;>simp[go_sem])) hok hu.kx;simp[go_sem,Nat.add_assoc] at h;refine aW.gen h ?_;rintro r σ' X ⟨rfl,rfl,cs,rfl,hcs⟩;simp[go_sem];refine go true ?_;simp[go_sem];refine aH [5,6,10,11] ?_ ?_<;>intro c3 d3
    ·have hk3:evE u m rg e≠0:=by simpa using d3
     have hr:jq u m rg e=(jk,evE u m rg e):=by unfold jq;rw[hz,if_pos hk3]
     simp[go_sem];refine aj ?_;rw[hr];simp[go_sem,jk,jr,Go.aU.dD]
    ·have hk3:evE u m rg e=0:=by simpa using d3
     have hr:jq u m rg e=(stpU u e,0):=by unfold jq;rw[hz,if_neg (fun h=>h hk3)]
     obtain rfl:=hcs hk3;simp[go_sem];refine aj ?_;rw[hr];simp[go_sem,stpU]
theorem Jm(u:Use)(c:Option Nat)(m:Nat)(rg:Nat->Row)(e:Ev)(hu:TL u m e)(h0:σ[0]? =some (.tab 0 iR))(h1:σ[1]? =some (.loc 1)):ay prog 56 [.agg (u.cells u.dw),.d (SL c 3 Row.enc m rg),.agg (e.enc.map .d)] σ (.eX [.agg ((jq u m rg e).1.cells (jq u m rg e).1.dw),.d (I (jq u m rg e).2)]):=by
 cases hok:okS e with
 |true=>exact TU σ u c m rg e hu h0 h1 hok
 |false=>
  have hb:okB e=false:=by unfold okB;rw[hok];rfl
  have hz:sK u m rg e=1:=if_pos hb;have hr:jq u m rg e=(jk,1):=by unfold jq;rw[hz,if_pos (by decide)]
  rw[hr];exact TV σ u c m rg e hu hok
noncomputable def Le(u:Use)(m:Nat)(rg:Nat->Row)(e:Ev):Use×Int:=if bT u=false\/dH m rg≠0 then(jk,1) else jq u m rg e
theorem yU(u:Use)(c:Option Nat)(m:Nat)(rg:Nat->Row)(e:Ev)(hu:TL u m e)(h0:σ[0]? =some (.tab 0 iR))(h1:σ[1]? =some (.loc 1)):ay prog 20 [.agg (u.cells u.dw),.d (SL c 3 Row.enc m rg),.agg (e.enc.map .d)] σ (.eX [.agg ((Le u m rg e).1.cells (Le u m rg e).1.dw),.d (I (Le u m rg e).2)]):=by
 refine ay.bs true func20 fun hwf=> ?_;refine aW.mk (mJ _ u hu.use (aO h0) (aO h1)) (sm ?_);refine fA.mk' (.d (I (dH m rg))) (fun _=>rD _ c m rg hu.m) (sm ?_);refine aH [1,3,5,6] ?_ ?_<;>intro c0 d0
 ·have hr:Le u m rg e=(jk,1):=if_pos (by simpa using d0);simp[go_sem];refine aj ?_;rw[hr];simp[go_sem,jk,jr,Go.aU.dD]
 ·have hr:Le u m rg e=jq u m rg e:=if_neg (by simpa using d0);simp[go_sem];refine aW.mk (Jm _ u c m rg e hu (aO h0) (aO h1)) (sm ?_);rw[hr];exact aj sc
theorem MH(s y:Int):ay prog 13 [.d (I s),.d (I y)] σ (.eX [.agg ((if jy s 1 32=true/\jy y 0 200=true then { jk with P:= { jk.P with jg:=y },nI:=s } else jk).cells (jk.dw)),.d (I (if jy s 1 32=true/\jy y 0 200=true then 0 else 2))]):=by
 refine ay.bs true func13 fun hwf=> ?_;refine aW.mk (nY _ s 1 32) (sm ?_);refine fA.mk' (.d (B (jy y 0 200))) (fun _=>nY _ y 0 200) (sm ?_);refine aH [0,1,4] ?_ ?_<;>intro c0 d0
 ·have hz: ¬(jy s 1 32=true/\jy y 0 200=true):=by rintro⟨h1,h2⟩;simp[h1,h2] at d0
  simp[go_sem];refine aj ?_;rw[if_neg hz,if_neg hz];simp[go_sem,jk,jr,Go.aU.dD]
 ·have hz:jy s 1 32=true/\jy y 0 200=true:=by simpa using d0
  simp[go_sem];refine aj ?_;rw[if_pos hz,if_pos hz];simp[go_sem,jk,jr,Go.aU.dD]
theorem E5(u:Use)(k:Int)(hu:dR u)(h0:σ[0]? =some (.tab 0 iR))(h1:σ[1]? =some (.loc 1)):ay prog 7 [.agg (u.cells u.dw),.d (I k)] σ (.eX [.agg ((if bT u=false\/qc u.nb u.gb k<0 then⟨0,0⟩ else aY u k).enc.map .d),.d (I (if bT u=false then 1 else if qc u.nb u.gb k<0 then 7 else 0))]):=by
 have b1:=hu.nb;have b3:=hu.nv;refine ay.bs true func7 fun hwf=> ?_;refine aW.mk (mJ _ u hu (aO h0) (aO h1)) (sm ?_);refine aH [1,2,4] ?_ ?_<;>intro c0 d0
 ·have hz:bT u=false:=by simpa using d0
  simp[go_sem];rw[if_pos (.inl hz),if_pos hz];exact aj sc
 ·have hz0: ¬bT u=false:=by simpa using d0
  simp[go_sem];refine aW.mk (Ia _ u k (by omega)) (sm ?_);refine aH [1,2,4] ?_ ?_<;>intro c1 d1
  ·have hz:qc u.nb u.gb k<0:=by omega
   simp[go_sem];rw[if_pos (.inr hz),if_neg hz0,if_pos hz];exact aj sc
  ·have hz: ¬qc u.nb u.gb k<0:=by omega
   simp[go_sem];refine aW.mk (lI _ u k (by omega)) (sm ?_);rw[if_neg (by rintro(h|h);exact hz0 h;exact hz h),if_neg hz0,if_neg hz];exact aj sc
end Go.Proofs.YthlhlnbcjlpigaaGreatDoor
