/- Contracts and lemmas, joined out of smaller texts by a program; no conditions. -/
import Derived.Test.YtmahphgjkpgidaaGreatDoorKB36
import Derived.Test.YtmahphgjkpgidaaGreatDoorKB39
import Derived.Test.YtmahphgjkpgidaaGreatDoorKB40
set_option linter.unusedVariables false
set_option linter.unusedSimpArgs false
set_option maxHeartbeats 4000000
set_option maxRecDepth 100000
namespace Go.Proofs.YtmahphgjkpgidaaGreatDoor
open Go.aU Go.dh Go.Proofs.Tryz
noncomputable def Vp(u:Use)(m:Nat)(rg:Nat->Row)(e:Ev):Int:=
 if e.Kind=40 then clE u e
 else if e.Kind=41 then ecE u e
 else if e.Kind=42 then apE u e
 else if e.Kind=43 then(leR u e).2
 else if e.Kind=44 then aaE u e
 else if e.Kind=45 then pgE u e
 else if e.Kind=46 then TK u.P.nm u.P.gm (e.gn 0) e.Day
 else if e.Kind=47 then ssE u e
 else if e.Kind=48 then abE u e
 else if e.Kind=49 then puE u e
 else if e.Kind=50 then taE u e
 else if e.Kind=51 then asE u e
 else if e.Kind=52 then TS u e
 else if e.Kind=53 then akE u m rg e
 else if e.Kind=54 then GL u m rg e
 else if e.Kind=55 then enE u e
 else if e.Kind=56 then boE u e
 else if e.Kind=57 then adE u e
 else if e.Kind=58 then scE u e
 else if e.Kind=59 then ZO u e
 else 0
noncomputable def Ny(u:Use)(e:Ev):Use:=
 if e.Kind=40 then clU u e
 else if e.Kind=41 then ecU u e
 else if e.Kind=42 then apU u e
 else if e.Kind=43 then leU u e
 else if e.Kind=44 then aaU u e
 else if e.Kind=45 then grU u e
 else if e.Kind=46 then rvU u e
 else if e.Kind=47 then ssU u e
 else if e.Kind=48 then abU u e
 else if e.Kind=49 then puU u e
 else if e.Kind=50 then taU u e
 else if e.Kind=51 then asU u e
 else if e.Kind=52 then jE u e (e.gn 0) ⟨e.gn 1,e.gn 2⟩
 else if e.Kind=53 then akU u e
 else if e.Kind=54 then ldU u e
 else if e.Kind=55 then enU u e
 else if e.Kind=56 then boU u e
 else if e.Kind=57 then adU u e
 else if e.Kind=58 then scU u e
 else if e.Kind=59 then ipU u e
 else u
def evQ(σ:List aG)(E:Int)(cs0:List AV)(r:AV)(σ':List aG):Prop:=r= .d (I E)/\∃cs,σ'=σ++[.dead,.dead,.dead,.dead,.dead,.dead,.dead,.var cs]/\(E=0->cs=cs0)
def L7(σ:List aG):List Nat:=[σ.length,σ.length+1,σ.length+2,σ.length+3,σ.length+4,σ.length+5,σ.length+6]
attribute [simp] L7
theorem tN{pY:List aG}(hwf:lS pY){f:FuncId}{args args':List AV}{σ σ':List aG}{Q:AV->List aG->Prop}{L:List Nat}(k:Nat){sz n:Nat}{row:Nat->List D}(h:CS prog f args' σ' fun r σ1 X=>(∀x∈X,x∈L)/\Q r σ1)(hb:σ[pY.length+k]? =some (.arr sz n row):=by simp[go_sem];exact⟨rfl,rfl,rfl⟩)(ha:args.map (uU (pY.length+k) sz n row)=args':=by simp[go_sem];rfl)
  (hσ:(∀k sz n' row,pY.map (O1 (pY.length+k) sz n' row)=pY)->(∀sz n' row,pY.map (O1 pY.length sz n' row)=pY)->aag (pY.length+k) sz n row σ=σ':=by intro h1 h2;simp[go_sem,h1,h2];rfl) (hm:pY.length+k∈L:=by simp):CS prog f args σ fun r σ1 X=>(∀x∈X,x∈L)/\Q r σ1:=
 CS.mono (CS.sZ (Q:=fun r σ1 X=>(∀x∈X,x∈L)/\Q r σ1) _ hb ha (hσ hwf.sZ hwf.qH) h) (by rintro r σ1 X ⟨X0,rfl,h1,h2⟩;refine⟨fun x hx=> ?_,h2⟩;rcases List.mem_cons.1 hx with rfl|hx;exact hm;exact h1 x hx)
theorem A8{σ:List aG}{u:Use}{c:Option Nat}{m:Nat}{rg:Nat->Row}{e:Ev}{f:FuncId}{Q:AV->List aG->Prop}(hwf:lS σ)(h:CS prog f [.ptr (σ.length+7) 0] (σ++[.dead,.dead,.dead,.dead,.dead,.dead,.dead,.var (bg (u.cells u.bG) c m rg e)]) (fun r σ' X=>X=[]/\Q r σ')):
  CS prog f [.ptr (σ.length+7) 0] (σ++(u.blks++[.var (bg (u.own σ.length) c m rg e)])) (fun r σ' X=>X=[σ.length,σ.length+1,σ.length+2,σ.length+3,σ.length+4,σ.length+5,σ.length+6]/\Q r σ'):=by
 refine CS.wide (Q:=Q) (L7 σ) ?_;refine tN hwf 0 ?_;refine tN hwf 1 ?_;refine tN hwf 2 ?_;refine tN hwf 3 ?_;refine tN hwf 4 ?_;refine tN hwf 5 ?_;refine tN hwf 6 ?_;refine CS.mono (by simp[go_sem] at h⊢;exact h) (by rintro r σ1 X ⟨rfl,h2⟩;exact⟨by simp,h2⟩)
theorem wrapR{σ:List aG}{u:Use}{c:Option Nat}{m:Nat}{rg:Nat->Row}{e:Ev}{f:FuncId}{Q:AV->List aG->Prop}(hwf:lS σ)(h:CS prog f [.ptr (σ.length+7) 0] (σ++[.arr 6 u.P.nc (fun i=>Rule.enc (u.P.gc i)),.dead,.dead,.dead,.dead,.dead,.dead,.var (bg ((u.cells u.bG).set 1 (.ms σ.length 6 0 u.P.nc)) c m rg e)]) (fun r σ' X=>X=[σ.length]/\Q r σ')):
  CS prog f [.ptr (σ.length+7) 0] (σ++(u.blks++[.var (bg (u.own σ.length) c m rg e)])) (fun r σ' X=>X=[σ.length,σ.length+1,σ.length+2,σ.length+3,σ.length+4,σ.length+5,σ.length+6]/\Q r σ'):=by
 refine CS.wide (Q:=Q) (L7 σ) ?_;refine tN hwf 1 ?_;refine tN hwf 2 ?_;refine tN hwf 3 ?_;refine tN hwf 4 ?_;refine tN hwf 5 ?_;refine tN hwf 6 ?_;refine CS.mono (by simp[go_sem] at h⊢;exact h) (by rintro r σ1 X ⟨rfl,h2⟩;exact⟨by simp,h2⟩)
theorem wrapP{σ:List aG}{u:Use}{c:Option Nat}{m:Nat}{rg:Nat->Row}{e:Ev}{f:FuncId}{Q:AV->List aG->Prop}(hwf:lS σ)(h:CS prog f [.ptr (σ.length+7) 0] (σ++[.dead,.arr 6 u.P.np (fun i=>iq.enc (u.P.gp i)),.dead,.dead,.dead,.dead,.dead,.var (bg ((u.cells u.bG).set 2 (.ms (σ.length+1) 6 0 u.P.np)) c m rg e)]) (fun r σ' X=>X=[σ.length+1]/\Q r σ')):
  CS prog f [.ptr (σ.length+7) 0] (σ++(u.blks++[.var (bg (u.own σ.length) c m rg e)])) (fun r σ' X=>X=[σ.length,σ.length+1,σ.length+2,σ.length+3,σ.length+4,σ.length+5,σ.length+6]/\Q r σ'):=by
 refine CS.wide (Q:=Q) (L7 σ) ?_;refine tN hwf 0 ?_;refine tN hwf 2 ?_;refine tN hwf 3 ?_;refine tN hwf 4 ?_;refine tN hwf 5 ?_;refine tN hwf 6 ?_;refine CS.mono (by simp[go_sem] at h⊢;exact h) (by rintro r σ1 X ⟨rfl,h2⟩;exact⟨by simp,h2⟩)
theorem wrapA{σ:List aG}{u:Use}{c:Option Nat}{m:Nat}{rg:Nat->Row}{e:Ev}{f:FuncId}{Q:AV->List aG->Prop}(hwf:lS σ)(h:CS prog f [.ptr (σ.length+7) 0] (σ++[.dead,.dead,.arr 6 u.P.na (fun i=>jW.enc (u.P.ga i)),.dead,.dead,.dead,.dead,.var (bg ((u.cells u.bG).set 4 (.ms (σ.length+2) 6 0 u.P.na)) c m rg e)]) (fun r σ' X=>X=[σ.length+2]/\Q r σ')):
  CS prog f [.ptr (σ.length+7) 0] (σ++(u.blks++[.var (bg (u.own σ.length) c m rg e)])) (fun r σ' X=>X=[σ.length,σ.length+1,σ.length+2,σ.length+3,σ.length+4,σ.length+5,σ.length+6]/\Q r σ'):=by
 refine CS.wide (Q:=Q) (L7 σ) ?_;refine tN hwf 0 ?_;refine tN hwf 1 ?_;refine tN hwf 3 ?_;refine tN hwf 4 ?_;refine tN hwf 5 ?_;refine tN hwf 6 ?_;refine CS.mono (by simp[go_sem] at h⊢;exact h) (by rintro r σ1 X ⟨rfl,h2⟩;exact⟨by simp,h2⟩)
theorem wrapB{σ:List aG}{u:Use}{c:Option Nat}{m:Nat}{rg:Nat->Row}{e:Ev}{f:FuncId}{Q:AV->List aG->Prop}(hwf:lS σ)(h:CS prog f [.ptr (σ.length+7) 0] (σ++[.dead,.dead,.dead,.arr 5 u.nb (fun i=>Bx.enc (u.gb i)),.dead,.dead,.dead,.var (bg ((u.cells u.bG).set 6 (.ms (σ.length+3) 5 0 u.nb)) c m rg e)]) (fun r σ' X=>X=[σ.length+3]/\Q r σ')):
  CS prog f [.ptr (σ.length+7) 0] (σ++(u.blks++[.var (bg (u.own σ.length) c m rg e)])) (fun r σ' X=>X=[σ.length,σ.length+1,σ.length+2,σ.length+3,σ.length+4,σ.length+5,σ.length+6]/\Q r σ'):=by
 refine CS.wide (Q:=Q) (L7 σ) ?_;refine tN hwf 0 ?_;refine tN hwf 1 ?_;refine tN hwf 2 ?_;refine tN hwf 4 ?_;refine tN hwf 5 ?_;refine tN hwf 6 ?_;refine CS.mono (by simp[go_sem] at h⊢;exact h) (by rintro r σ1 X ⟨rfl,h2⟩;exact⟨by simp,h2⟩)
theorem wrapF{σ:List aG}{u:Use}{c:Option Nat}{m:Nat}{rg:Nat->Row}{e:Ev}{f:FuncId}{Q:AV->List aG->Prop}(hwf:lS σ)(h:CS prog f [.ptr (σ.length+7) 0] (σ++[.dead,.dead,.dead,.dead,.arr 4 u.nf (fun i=>sO.enc (u.gf i)),.dead,.dead,.var (bg ((u.cells u.bG).set 7 (.ms (σ.length+4) 4 0 u.nf)) c m rg e)]) (fun r σ' X=>X=[σ.length+4]/\Q r σ')):
  CS prog f [.ptr (σ.length+7) 0] (σ++(u.blks++[.var (bg (u.own σ.length) c m rg e)])) (fun r σ' X=>X=[σ.length,σ.length+1,σ.length+2,σ.length+3,σ.length+4,σ.length+5,σ.length+6]/\Q r σ'):=by
 refine CS.wide (Q:=Q) (L7 σ) ?_;refine tN hwf 0 ?_;refine tN hwf 1 ?_;refine tN hwf 2 ?_;refine tN hwf 3 ?_;refine tN hwf 5 ?_;refine tN hwf 6 ?_;refine CS.mono (by simp[go_sem] at h⊢;exact h) (by rintro r σ1 X ⟨rfl,h2⟩;exact⟨by simp,h2⟩)
theorem Yo{σ:List aG}{u:Use}{c:Option Nat}{m:Nat}{rg:Nat->Row}{e:Ev}{f:FuncId}{Q:AV->List aG->Prop}(hwf:lS σ)(h:CS prog f [.ptr (σ.length+7) 0] (σ++[.dead,.dead,.dead,.dead,.dead,.arr 8 u.nt (fun i=>fU.enc (u.gt i)),.dead,.var (bg ((u.cells u.bG).set 12 (.ms (σ.length+5) 8 0 u.nt)) c m rg e)]) (fun r σ' X=>X=[σ.length+5]/\Q r σ')):
  CS prog f [.ptr (σ.length+7) 0] (σ++(u.blks++[.var (bg (u.own σ.length) c m rg e)])) (fun r σ' X=>X=[σ.length,σ.length+1,σ.length+2,σ.length+3,σ.length+4,σ.length+5,σ.length+6]/\Q r σ'):=by
 refine CS.wide (Q:=Q) (L7 σ) ?_;refine tN hwf 0 ?_;refine tN hwf 1 ?_;refine tN hwf 2 ?_;refine tN hwf 3 ?_;refine tN hwf 4 ?_;refine tN hwf 6 ?_;refine CS.mono (by simp[go_sem] at h⊢;exact h) (by rintro r σ1 X ⟨rfl,h2⟩;exact⟨by simp,h2⟩)
theorem wrapW{σ:List aG}{u:Use}{c:Option Nat}{m:Nat}{rg:Nat->Row}{e:Ev}{f:FuncId}{Q:AV->List aG->Prop}(hwf:lS σ)(h:CS prog f [.ptr (σ.length+7) 0] (σ++[.dead,.dead,.dead,.dead,.dead,.dead,.arr 3 u.nw (fun i=>sN.enc (u.gw i)),.var (bg (u.cells (.ms (σ.length+6) 3 0 u.nw)) c m rg e)]) (fun r σ' X=>X=[σ.length+6]/\Q r σ')):
  CS prog f [.ptr (σ.length+7) 0] (σ++(u.blks++[.var (bg (u.own σ.length) c m rg e)])) (fun r σ' X=>X=[σ.length,σ.length+1,σ.length+2,σ.length+3,σ.length+4,σ.length+5,σ.length+6]/\Q r σ'):=by
 refine CS.wide (Q:=Q) (L7 σ) ?_;refine tN hwf 0 ?_;refine tN hwf 1 ?_;refine tN hwf 2 ?_;refine tN hwf 3 ?_;refine tN hwf 4 ?_;refine tN hwf 5 ?_;refine CS.mono (by simp[go_sem] at h⊢;exact h) (by rintro r σ1 X ⟨rfl,h2⟩;exact⟨by simp,h2⟩)
theorem okS_iff{e:Ev}(h:okS e=true):(e.nt:Int)=(dM e.Kind).2.1/\(dM e.Kind).1<=(e.nn:Int):=by
 unfold okS at h;simp only[Bool.and_eq_true,decide_eq_true_eq] at h;exact⟨h.1.1.2,h.1.2⟩
theorem oH{σ:List aG}(h:lS σ)(k:Nat):lS (σ++List.replicate k .dead):=fun X hX=>by
 rw[List.map_append,h X (fun b hb=>by have:=hX b hb;simp at this;omega),List.map_replicate];rfl
structure Uu(σ:List aG)(u:Use)(m:Nat)(e:Ev):Prop where
 hu:dB u
 hs:u.P.ns<=999
 hb:e.nn<=1000
 hm:m<1000000000
 htx: ∀i,i<e.nt->(e.gt i).size<4294967281
 h0:σ[0]? =some (.tab 0 gK)
 h1:σ[1]? =some (.loc 1)
 hwf:lS σ
def RU(σ:List aG)(c:Option Nat)(m:Nat)(rg:Nat->Row)(e:Ev)(E:Int)(U:Use):AV->List aG->Prop:=evQ σ E (bg (U.cells U.bG) c m rg e)
def Tv(σ:List aG)(u:Use)(c:Option Nat)(m:Nat)(rg:Nat->Row)(e:Ev)(f:Nat)(E:Int)(U:Use):Prop:=CS prog f [.ptr (σ.length+7) 0] (σ++(u.blks++[.var (bg (u.own σ.length) c m rg e)])) (fun r σ' X=>X=[σ.length,σ.length+1,σ.length+2,σ.length+3,σ.length+4,σ.length+5,σ.length+6]/\RU σ c m rg e E U r σ')
theorem Ug{σ u c m rg e}(H:Uu σ u m e)(hn:6<=e.nn):Tv σ u c m rg e 152 (clE u e) (clU u e):=by
 obtain⟨hu,hs,hb,hm,htx,h0,h1,hwf⟩:=H;have h:=nT (He σ u c m rg e hu (by omega) (by omega) hwf);exact wrapR (Q:=RU σ c m rg e (clE u e) (clU u e)) hwf h
theorem Uf{σ u c m rg e}(H:Uu σ u m e)(hn:2<=e.nn):Tv σ u c m rg e 153 (ecE u e) (ecU u e):=by
 obtain⟨hu,hs,hb,hm,htx,h0,h1,hwf⟩:=H;have h:=nT (G8 (σ++[.dead,.dead,.dead,.dead,.dead,.dead,.dead]) u c m rg e hu (by omega) (by omega));exact A8 (Q:=RU σ c m rg e (ecE u e) (ecU u e)) hwf h
theorem Xz{σ u c m rg e}(H:Uu σ u m e)(hn:5<=e.nn)(ht:e.nt=1):Tv σ u c m rg e 154 (apE u e) (apU u e):=by
 obtain⟨hu,hs,hb,hm,htx,h0,h1,hwf⟩:=H;have h:=nT (Kv (σ++[.dead]) u c m rg e hu (by omega) (by omega) (by omega) (by omega) (htx 0 (by omega)) (aC h1) (show lS (σ++[.dead]) from oH hwf 1));exact wrapP (Q:=RU σ c m rg e (apE u e) (apU u e)) hwf h
theorem do_learn{σ u c m rg e}(H:Uu σ u m e)(hn:5<=e.nn):Tv σ u c m rg e 155 ((leR u e).2) (leU u e):=by
 obtain⟨hu,hs,hb,hm,htx,h0,h1,hwf⟩:=H;have h:=nT (V9 (σ++[.dead,.dead,.dead,.dead,.dead,.dead,.dead]) u c m rg e hu (by omega) (by omega) (aC h1));exact A8 (Q:=RU σ c m rg e ((leR u e).2) (leU u e)) hwf h
theorem O4{σ u c m rg e}(H:Uu σ u m e)(hn:6<=e.nn):Tv σ u c m rg e 156 (aaE u e) (aaU u e):=by
 obtain⟨hu,hs,hb,hm,htx,h0,h1,hwf⟩:=H;have h:=nT (Ep (σ++[.dead,.dead]) u c m rg e hu (by omega) (by omega) (show lS (σ++[.dead,.dead]) from oH hwf 2));exact wrapA (Q:=RU σ c m rg e (aaE u e) (aaU u e)) hwf h
theorem do_grant{σ u c m rg e}(H:Uu σ u m e)(hn:6<=e.nn):Tv σ u c m rg e 157 (pgE u e) (grU u e):=by
 obtain⟨hu,hs,hb,hm,htx,h0,h1,hwf⟩:=H;have h:=nT (Wi (σ++[.dead,.dead,.dead,.dead,.dead,.dead,.dead]) u c m rg e hu (by omega) (by omega));exact A8 (Q:=RU σ c m rg e (pgE u e) (grU u e)) hwf h
theorem do_revoke{σ u c m rg e}(H:Uu σ u m e)(hn:1<=e.nn):Tv σ u c m rg e 158 (TK u.P.nm u.P.gm (e.gn 0) e.Day) (rvU u e):=by
 obtain⟨hu,hs,hb,hm,htx,h0,h1,hwf⟩:=H;have h:=nT (TA (σ++[.dead,.dead,.dead,.dead,.dead,.dead,.dead]) u c m rg e hu (by omega) (by omega));exact A8 (Q:=RU σ c m rg e (TK u.P.nm u.P.gm (e.gn 0) e.Day) (rvU u e)) hwf h
theorem Ue{σ u c m rg e}(H:Uu σ u m e)(hn:4<=e.nn):Tv σ u c m rg e 159 (ssE u e) (ssU u e):=by
 obtain⟨hu,hs,hb,hm,htx,h0,h1,hwf⟩:=H;have h:=nT (GY (σ++[.dead,.dead,.dead,.dead,.dead,.dead,.dead]) u c m rg e hu hs (by omega) (by omega) (aC h1) (show lS (σ++[.dead,.dead,.dead,.dead,.dead,.dead,.dead]) from oH hwf 7));exact A8 (Q:=RU σ c m rg e (ssE u e) (ssU u e)) hwf h
theorem do_addBox{σ u c m rg e}(H:Uu σ u m e)(hn:4<=e.nn):Tv σ u c m rg e 160 (abE u e) (abU u e):=by
 obtain⟨hu,hs,hb,hm,htx,h0,h1,hwf⟩:=H;have h:=nT (TG (σ++[.dead,.dead,.dead]) u c m rg e hu (by omega) (by omega) (show lS (σ++[.dead,.dead,.dead]) from oH hwf 3));exact wrapB (Q:=RU σ c m rg e (abE u e) (abU u e)) hwf h
theorem do_put{σ u c m rg e}(H:Uu σ u m e)(hn:4<=e.nn):Tv σ u c m rg e 161 (puE u e) (puU u e):=by
 obtain⟨hu,hs,hb,hm,htx,h0,h1,hwf⟩:=H;have h:=nT (svc_put_cs (σ++[.dead,.dead,.dead,.dead,.dead,.dead,.dead]) u c m rg e hu (by omega) (by omega));exact A8 (Q:=RU σ c m rg e (puE u e) (puU u e)) hwf h
theorem do_take{σ u c m rg e}(H:Uu σ u m e)(hn:1<=e.nn):Tv σ u c m rg e 162 (taE u e) (taU u e):=by
 obtain⟨hu,hs,hb,hm,htx,h0,h1,hwf⟩:=H;have h:=nT (Yy (σ++[.dead,.dead,.dead,.dead,.dead,.dead,.dead]) u c m rg e hu (by omega) (by omega));exact A8 (Q:=RU σ c m rg e (taE u e) (taU u e)) hwf h
theorem do_addShelf{σ u c m rg e}(H:Uu σ u m e)(hn:4<=e.nn):Tv σ u c m rg e 163 (asE u e) (asU u e):=by
 obtain⟨hu,hs,hb,hm,htx,h0,h1,hwf⟩:=H;have h:=nT (Ol (σ++[.dead,.dead,.dead,.dead]) u c m rg e hu (by omega) (by omega) (show lS (σ++[.dead,.dead,.dead,.dead]) from oH hwf 4));exact wrapF (Q:=RU σ c m rg e (asE u e) (asU u e)) hwf h
theorem do_move{σ u c m rg e}(H:Uu σ u m e)(hn:3<=e.nn):Tv σ u c m rg e 164 (TS u e) (jE u e (e.gn 0) ⟨e.gn 1,e.gn 2⟩):=by
 obtain⟨hu,hs,hb,hm,htx,h0,h1,hwf⟩:=H;have h:=nT (Yz (σ++[.dead,.dead,.dead,.dead,.dead,.dead,.dead]) u c m rg e hu (by omega) (by omega));exact A8 (Q:=RU σ c m rg e (TS u e) (jE u e (e.gn 0) ⟨e.gn 1,e.gn 2⟩)) hwf h
theorem do_ask{σ u c m rg e}(H:Uu σ u m e)(hn:3<=e.nn):Tv σ u c m rg e 165 (akE u m rg e) (akU u e):=by
 obtain⟨hu,hs,hb,hm,htx,h0,h1,hwf⟩:=H;have h:=nT (svc_ask_cs (σ++[.dead,.dead,.dead,.dead,.dead,.dead,.dead]) u c m rg e hu (by omega) (by omega) hm (aC h1));exact A8 (Q:=RU σ c m rg e (akE u m rg e) (akU u e)) hwf h
theorem do_lend{σ u c m rg e}(H:Uu σ u m e)(hn:1<=e.nn):Tv σ u c m rg e 166 (GL u m rg e) (ldU u e):=by
 obtain⟨hu,hs,hb,hm,htx,h0,h1,hwf⟩:=H;have h:=nT (YB (σ++[.dead,.dead,.dead,.dead,.dead,.dead]) u c m rg e hu (by omega) (by omega) hm (aC h1) (show lS (σ++[.dead,.dead,.dead,.dead,.dead,.dead]) from oH hwf 6));exact wrapW (Q:=RU σ c m rg e (GL u m rg e) (ldU u e)) hwf h
theorem do_end{σ u c m rg e}(H:Uu σ u m e)(hn:2<=e.nn):Tv σ u c m rg e 167 (enE u e) (enU u e):=by
 obtain⟨hu,hs,hb,hm,htx,h0,h1,hwf⟩:=H;have h:=nT (svc_end_cs (σ++[.dead,.dead,.dead,.dead,.dead,.dead,.dead]) u c m rg e hu (by omega) (by omega));exact A8 (Q:=RU σ c m rg e (enE u e) (enU u e)) hwf h
theorem do_book{σ u c m rg e}(H:Uu σ u m e)(hn:4<=e.nn):Tv σ u c m rg e 168 (boE u e) (boU u e):=by
 obtain⟨hu,hs,hb,hm,htx,h0,h1,hwf⟩:=H;have h:=nT (YE (σ++[.dead,.dead,.dead,.dead,.dead,.dead,.dead]) u c m rg e hu (by omega) (by omega));exact A8 (Q:=RU σ c m rg e (boE u e) (boU u e)) hwf h
theorem do_addBatch{σ u c m rg e}(H:Uu σ u m e)(hn:3<=e.nn):Tv σ u c m rg e 169 (adE u e) (adU u e):=by
 obtain⟨hu,hs,hb,hm,htx,h0,h1,hwf⟩:=H;have h:=nT (Om (σ++[.dead,.dead,.dead,.dead,.dead]) u c m rg e hu (by omega) (by omega) (aC h0) (show lS (σ++[.dead,.dead,.dead,.dead,.dead]) from oH hwf 5));exact Yo (Q:=RU σ c m rg e (adE u e) (adU u e)) hwf h
theorem do_scan{σ u c m rg e}(H:Uu σ u m e)(hn:1<=e.nn):Tv σ u c m rg e 170 (scE u e) (scU u e):=by
 obtain⟨hu,hs,hb,hm,htx,h0,h1,hwf⟩:=H;have hlt:=XZ u e;by_cases hi:sJ u e<0
 ·skip
  have h:=nT (V5 (σ++[.dead,.dead,.dead,.dead,.dead]) u c m rg e hu (by omega) (by omega) hi (show lS (σ++[.dead,.dead,.dead,.dead,.dead]) from oH hwf 5));exact Yo (Q:=RU σ c m rg e (scE u e) (scU u e)) hwf h
 ·obtain⟨i,hi2,hin⟩: ∃i:Nat,sJ u e=(i:Int)/\i<u.nt:=⟨(sJ u e).toNat,by omega,by omega⟩;have h:=nT (V4 (σ++[.dead,.dead,.dead,.dead,.dead]) u c m rg e hu (by omega) (by omega) (aC h0) i hi2 hin (show lS (σ++[.dead,.dead,.dead,.dead,.dead]) from oH hwf 5));exact Yo (Q:=RU σ c m rg e (scE u e) (scU u e)) hwf h
theorem do_inspect{σ u c m rg e}(H:Uu σ u m e)(hn:1<=e.nn):Tv σ u c m rg e 171 (ZO u e) (ipU u e):=by
 obtain⟨hu,hs,hb,hm,htx,h0,h1,hwf⟩:=H;have hlt:=XZ u e;by_cases hi:sJ u e<0
 ·skip
  have h:=nT (Oh (σ++[.dead,.dead,.dead,.dead,.dead]) u c m rg e hu (by omega) (by omega) hi (show lS (σ++[.dead,.dead,.dead,.dead,.dead]) from oH hwf 5));exact Yo (Q:=RU σ c m rg e (ZO u e) (ipU u e)) hwf h
 ·obtain⟨i,hi2,hin⟩: ∃i:Nat,sJ u e=(i:Int)/\i<u.nt:=⟨(sJ u e).toNat,by omega,by omega⟩;have h:=nT (Og (σ++[.dead,.dead,.dead,.dead,.dead]) u c m rg e hu (by omega) (by omega) (aC h0) i hi2 hin (show lS (σ++[.dead,.dead,.dead,.dead,.dead]) from oH hwf 5));exact Yo (Q:=RU σ c m rg e (ZO u e) (ipU u e)) hwf h
theorem Vu{σ:List aG}{u:Use}{c:Option Nat}{m:Nat}{rg:Nat->Row}{e:Ev}{q:Int}{k:Nat}{E:Int}{U:Use}(hK:e.Kind=q)(hd:Tv σ u c m rg e k E U)(hf:(dM q).2.2.2.2=k:=by exact rfl)(he:e.Kind=q->Vp u m rg e=E:=by intro h;simp[Vp,h])(hy:e.Kind=q->Ny u e=U:=by intro h;simp[Ny,h]):Tv σ u c m rg e (dM e.Kind).2.2.2.2 (Vp u m rg e) (Ny u e):=by
 rw[he hK,hy hK,hK,hf];exact hd
theorem do_cs{σ:List aG}{u:Use}{c:Option Nat}{m:Nat}{rg:Nat->Row}{e:Ev}(hu:dB u)(hs:u.P.ns<=999)(hb:e.nn<=1000)(hm:m<1000000000)(htx: ∀i,i<e.nt->(e.gt i).size<4294967281)(h0:σ[0]? =some (.tab 0 gK))(h1:σ[1]? =some (.loc 1))(hwf:lS σ)(hok:okS e=true):
  CS prog (dM e.Kind).2.2.2.2 [.ptr (σ.length+7) 0] (σ++(u.blks++[.var (bg (u.own σ.length) c m rg e)])) (fun r σ' X=>X=[σ.length,σ.length+1,σ.length+2,σ.length+3,σ.length+4,σ.length+5,σ.length+6]/\evQ σ (Vp u m rg e) (bg ((Ny u e).cells (Ny u e).bG) c m rg e) r σ'):=by
 have H:Uu σ u m e:=⟨hu,hs,hb,hm,htx,h0,h1,hwf⟩;suffices hh:Tv σ u c m rg e (dM e.Kind).2.2.2.2 (Vp u m rg e) (Ny u e) from hh
 have hk:=okS_hk hok;rw[kKs_iff] at hk;obtain⟨hx,hn⟩:=okS_iff hok;have hcs:e.Kind=40\/e.Kind=41\/e.Kind=42\/e.Kind=43\/e.Kind=44\/e.Kind=45\/e.Kind=46\/e.Kind=47\/e.Kind=48\/e.Kind=49\/e.Kind=50\/e.Kind=51\/e.Kind=52\/e.Kind=53\/e.Kind=54\/e.Kind=55\/e.Kind=56\/e.Kind=57\/e.Kind=58\/e.Kind=59:=by omega
 rcases hcs with hK|hK|hK|hK|hK|hK|hK|hK|hK|hK|hK|hK|hK|hK|hK|hK|hK|hK|hK|hK
 ·exact Vu hK (Ug H (by rw[hK] at hn;simp[dM] at hn;omega))
 ·exact Vu hK (Uf H (by rw[hK] at hn;simp[dM] at hn;omega))
 ·exact Vu hK (Xz H (by rw[hK] at hn;simp[dM] at hn;omega) (by rw[hK] at hx;simp[dM] at hx;omega))
 ·exact Vu hK (do_learn H (by rw[hK] at hn;simp[dM] at hn;omega))
 ·exact Vu hK (O4 H (by rw[hK] at hn;simp[dM] at hn;omega))
 ·exact Vu hK (do_grant H (by rw[hK] at hn;simp[dM] at hn;omega))
 ·exact Vu hK (do_revoke H (by rw[hK] at hn;simp[dM] at hn;omega))
 ·exact Vu hK (Ue H (by rw[hK] at hn;simp[dM] at hn;omega))
 ·exact Vu hK (do_addBox H (by rw[hK] at hn;simp[dM] at hn;omega))
 ·exact Vu hK (do_put H (by rw[hK] at hn;simp[dM] at hn;omega))
 ·exact Vu hK (do_take H (by rw[hK] at hn;simp[dM] at hn;omega))
 ·exact Vu hK (do_addShelf H (by rw[hK] at hn;simp[dM] at hn;omega))
 ·exact Vu hK (do_move H (by rw[hK] at hn;simp[dM] at hn;omega))
 ·exact Vu hK (do_ask H (by rw[hK] at hn;simp[dM] at hn;omega))
 ·exact Vu hK (do_lend H (by rw[hK] at hn;simp[dM] at hn;omega))
 ·exact Vu hK (do_end H (by rw[hK] at hn;simp[dM] at hn;omega))
 ·exact Vu hK (do_book H (by rw[hK] at hn;simp[dM] at hn;omega))
 ·exact Vu hK (do_addBatch H (by rw[hK] at hn;simp[dM] at hn;omega))
 ·exact Vu hK (do_scan H (by rw[hK] at hn;simp[dM] at hn;omega))
 ·exact Vu hK (do_inspect H (by rw[hK] at hn;simp[dM] at hn;omega))
variable (σ : List aG)
def jL:Use:=⟨⟨0,fun _=>kP.zero,0,fun _=>⟨0,0,0,false,⟨0,0⟩⟩,0,fun _=>⟨0,.empty,⟨0,0⟩,⟨0,0⟩⟩,0,0,fun _=>⟨0,0,0,false,⟨0,0⟩⟩,0,fun _=>⟨0,0,0,0,⟨0,0⟩⟩⟩,0,fun _=>⟨0,0,0,0,0,fun _=>⟨0,0⟩⟩,0,fun _=>⟨0,0,0,0⟩,0,fun _=>⟨0,0,⟨0,0⟩,⟨0,0⟩⟩,0,fun _=>dU.zero,0,0,fun _=>⟨0,0,⟨0,0⟩⟩,0,fun _=>rQ,0,fun _=>⟨0,0⟩,0,fun _=>⟨0,0,0⟩,0⟩
structure J7(u:Use)(m:Nat)(e:Ev):Prop where
 use:dB u
 ns:u.P.ns<=999
 nn:e.nn<=1000
 m:m<1000000000
 tx: ∀i,i<e.nt->(e.gt i).size<4294967281
 nt:e.nt<=1000
noncomputable def Ot(u:Use)(e:Ev):Use:= { Ny u e with Changed:=e.Day }
noncomputable def qo(u:Use)(m:Nat)(rg:Nat->Row)(e:Ev):Int:=if okB e=false then 1 else if e.Day<u.Changed then 5 else if 1048575<e.Day then 2 else Vp u m rg e
noncomputable def iQ(u:Use)(m:Nat)(rg:Nat->Row)(e:Ev):Use×Int:=if qo u m rg e≠0 then(jL,qo u m rg e) else(Ot u e,0)
theorem wf_app{σ τ:List aG}(h:lS σ)(ht: ∀x∈τ,∀X,bQ X x=x):lS (σ++τ):=fun X hX=>by
 rw[List.map_append,h X (fun b hb=>by have:=hX b hb;simp at this;omega)];congr 1
 exact(List.map_congr_left fun x hx=>ht x hx X).trans (List.map_id _)
theorem V3(u:Use)(c:Option Nat)(m:Nat)(rg:Nat->Row)(e:Ev)(hu:J7 u m e)(hok:okS e=false):aA prog 39 [.agg (u.cells u.bG),.d (SL c 3 Row.enc m rg),.agg (e.enc.map .d)] σ (.eU [.agg (jL.cells jL.bG),.d (I 1)]):=by
 have hb:okB e=false:=by unfold okB;rw[hok];rfl
 have hk:kdR e=kd0:=if_neg (by rw[hok];decide);have g1:=hu.nn;have hfc: ∀pY:List aG,aA prog 70 [.agg (e.enc.map .d)] pY (.eU [kd0,.d (B false)]):=fun pY=>by have h:=ER pY e (by omega);rw[hk,hb] at h;exact h
 refine aA.bs true func39 fun hwf=> ?_;refine aO.mk (hfc _) (sm ?_);refine cn [1,3,5,6,8] rfl ?_ ?_<;>intro c0 d0<;>try simp at d0
 ·simp[go_sem];refine aj ?_;simp[go_sem,jL,eu,Go.aU.bC]
theorem VZ(u:Use)(c:Option Nat)(m:Nat)(rg:Nat->Row)(e:Ev)(hu:J7 u m e)(h0:σ[0]? =some (.tab 0 gK))(h1:σ[1]? =some (.loc 1))(hok:okS e=true):aA prog 39 [.agg (u.cells u.bG),.d (SL c 3 Row.enc m rg),.agg (e.enc.map .d)] σ (.eU [.agg ((iQ u m rg e).1.cells (iQ u m rg e).1.bG),.d (I (iQ u m rg e).2)]):=by
 have hk:kdR e=kdF (.i e.Kind):=if_pos hok;have g1:=hu.nn;have hfc: ∀pY:List aG,aA prog 70 [.agg (e.enc.map .d)] pY (.eU [kdF (.i e.Kind),.d (B (okB e))]):=fun pY=>by have h:=ER pY e (by omega);rw[hk] at h;exact h
 refine aA.bd true func39 fun hwf=> ?_;simp[go_sem];refine aO.mk (hfc _) ?_;simp[go_sem,kdF_i];refine aJ [1,3,5,6,8] ?_ ?_<;>intro c0 d0
 ·have hz:qo u m rg e=1:=if_pos (by simpa using d0);have hr:iQ u m rg e=(jL,1):=by unfold iQ;rw[hz,if_pos (by decide)]
  simp[go_sem];refine aj ?_;rw[hr];simp[go_sem,jL,eu,Go.aU.bC]
 ·have hq0: ¬okB e=false:=by simpa using d0
  simp[go_sem];refine aJ [1,3,5,6,8] ?_ ?_<;>intro c1 d1
  ·have hz:qo u m rg e=5:=by unfold qo;rw[if_neg hq0,if_pos (by omega)]
   have hr:iQ u m rg e=(jL,5):=by unfold iQ;rw[hz,if_pos (by decide)]
   simp[go_sem];refine aj ?_;rw[hr];simp[go_sem,jL,eu,Go.aU.bC]
  ·simp[go_sem];refine aJ [1,3,5,6,8] ?_ ?_<;>intro c2 d2
   ·have hz:qo u m rg e=2:=by unfold qo;rw[if_neg hq0,if_neg (by omega),if_pos (by omega)]
    have hr:iQ u m rg e=(jL,2):=by unfold iQ;rw[hz,if_pos (by decide)]
    simp[go_sem];refine aj ?_;rw[hr];simp[go_sem,jL,eu,Go.aU.bC]
   ·have hz:qo u m rg e=Vp u m rg e:=by unfold qo;rw[if_neg hq0,if_neg (by omega),if_neg (by omega)]
    simp[go_sem];apply Ownl.X8 5 1 51 (.agg (u.own (σ.length+7))) ([.var (u.own (σ.length+7)),.var (u.own (σ.length+7)),.dead,.arr 6 u.P.nc (fun i=>Rule.enc (u.P.gc i)),.arr 6 u.P.np (fun i=>iq.enc (u.P.gp i)),.arr 6 u.P.na (fun i=>jW.enc (u.P.ga i)),.arr 5 u.nb (fun i=>Bx.enc (u.gb i)),.arr 4 u.nf (fun i=>sO.enc (u.gf i)),.arr 8 u.nt (fun i=>fU.enc (u.gt i)),.arr 3 u.nw (fun i=>sN.enc (u.gw i))]) T.mixed (by kernel_rfl)
    ·intro τ K hK;simp[go_sem];exact hK _ _
    ·simp[go_sem];have h:=G9 (σ++[.var (u.cells u.bG),.var (e.enc.map .d),.var [.d (.v (.slice none 0 0)),.d (.v (.slice none 0 0)),.d (.v (.slice none 0 0)),.d (I 0),.d (.v (.slice none 0 0)),.d (.v (.slice none 0 0)),.d (.v (.slice none 0 0)),.d (.v (.slice none 0 0)),.d (.v (.slice none 0 0)),.d (.v (.slice none 0 0)),.d (I 0),.d (.v (.slice none 0 0)),.d (.v (.slice none 0 0)),.d (.v (.slice none 0 0)),.d (.v (.slice none 0 0)),.d (I 0)],.var [.d (I (dM e.Kind).1),.d (I (dM e.Kind).2.1),.d (B (dM e.Kind).2.2.1),.d (I (dM e.Kind).2.2.2.1),.d (Fn0 (dM e.Kind).2.2.2.2)]]) u hu.use;refine CS.mono (by simp[go_sem] at h⊢;exact h) ?_;rintro r σ' X ⟨rfl,rfl,rfl⟩;simp[go_sem]
    intro K hK;simp[go_sem];refine hK _ ?_;refine yx (σ.length+4) (by simp[go_sem];first|rfl|skip) (by simp[go_sem,hwf.one];first|rfl|skip) ?_;refine yx (σ.length+5) (by simp[go_sem];first|rfl|skip) (by simp[go_sem,hwf.one];first|rfl|skip) ?_;refine go false ?_;simp[go_sem];have h:=do_cs (σ:=σ++[.var (u.cells u.bG),.var (e.enc.map .d),.var [.d (.v (.slice none 0 0)),.d (.v (.slice none 0 0)),.d (.v (.slice none 0 0)),.d (I 0),.d (.v (.slice none 0 0)),.d (.v (.slice none 0 0)),.d (.v (.slice none 0 0)),.d (.v (.slice none 0 0)),.d (.v (.slice none 0 0)),.d (.v (.slice none 0 0)),.d (I 0),.d (.v (.slice none 0 0)),.d (.v (.slice none 0 0)),.d (.v (.slice none 0 0)),.d (.v (.slice none 0 0)),.d (I 0)],.var [.d (I (dM e.Kind).1),.d (I (dM e.Kind).2.1),.d (B (dM e.Kind).2.2.1),.d (I (dM e.Kind).2.2.2.1),.d (Fn0 (dM e.Kind).2.2.2.2)],.dead,.dead,.dead]) (u:=u) (c:=c) (m:=m) (rg:=rg) (e:=e) hu.use hu.ns hu.nn hu.m hu.tx (aC h0) (aC h1) (wf_app hwf (by intro x hx X;simp only[List.mem_cons,List.not_mem_nil,or_false] at hx;rcases hx with rfl|rfl|rfl|rfl|rfl|rfl|rfl<;>simp[go_sem])) hok;simp[go_sem,Nat.add_assoc] at h;refine aO.gen h ?_;rintro r σ' X ⟨rfl,rfl,cs,rfl,hcs⟩;simp[go_sem];refine go true ?_;simp[go_sem];refine aJ [5,6,10,11] ?_ ?_<;>intro c3 d3
    ·have hk3:Vp u m rg e≠0:=by simpa using d3
     have hr:iQ u m rg e=(jL,Vp u m rg e):=by unfold iQ;rw[hz,if_pos hk3]
     simp[go_sem];refine aj ?_;rw[hr];simp[go_sem,jL,eu,Go.aU.bC]
    ·have hk3:Vp u m rg e=0:=by simpa using d3
     have hr:iQ u m rg e=(Ot u e,0):=by unfold iQ;rw[hz,if_neg (fun h=>h hk3)]
     obtain rfl:=hcs hk3;simp[go_sem];refine aj ?_;rw[hr];simp[go_sem,Ot]
theorem LZ(u:Use)(c:Option Nat)(m:Nat)(rg:Nat->Row)(e:Ev)(hu:J7 u m e)(h0:σ[0]? =some (.tab 0 gK))(h1:σ[1]? =some (.loc 1)):aA prog 39 [.agg (u.cells u.bG),.d (SL c 3 Row.enc m rg),.agg (e.enc.map .d)] σ (.eU [.agg ((iQ u m rg e).1.cells (iQ u m rg e).1.bG),.d (I (iQ u m rg e).2)]):=by
 cases hok:okS e with
 |true=>exact VZ σ u c m rg e hu h0 h1 hok
 |false=>
  have hb:okB e=false:=by unfold okB;rw[hok];rfl
  have hz:qo u m rg e=1:=if_pos hb;have hr:iQ u m rg e=(jL,1):=by unfold iQ;rw[hz,if_pos (by decide)]
  rw[hr];exact V3 σ u c m rg e hu hok
noncomputable def ig(u:Use)(m:Nat)(rg:Nat->Row)(e:Ev):Use×Int:=if dD u=false\/cu m rg≠0 then(jL,1) else iQ u m rg e
theorem nR(u:Use)(c:Option Nat)(m:Nat)(rg:Nat->Row)(e:Ev)(hu:J7 u m e)(h0:σ[0]? =some (.tab 0 gK))(h1:σ[1]? =some (.loc 1)):aA prog 10 [.agg (u.cells u.bG),.d (SL c 3 Row.enc m rg),.agg (e.enc.map .d)] σ (.eU [.agg ((ig u m rg e).1.cells (ig u m rg e).1.bG),.d (I (ig u m rg e).2)]):=by
 refine aA.bs true func10 fun hwf=> ?_;refine aO.mk (oJ _ u hu.use (aC h0) (aC h1)) (sm ?_);refine fM.mk' (.d (I (cu m rg))) (fun _=>uJ _ c m rg hu.m) (sm ?_);refine aJ [1,3,5,6] ?_ ?_<;>intro c0 d0
 ·have hr:ig u m rg e=(jL,1):=if_pos (by simpa using d0);simp[go_sem];refine aj ?_;rw[hr];simp[go_sem,jL,eu,Go.aU.bC]
 ·have hr:ig u m rg e=iQ u m rg e:=if_neg (by simpa using d0);simp[go_sem];refine aO.mk (LZ _ u c m rg e hu (aC h0) (aC h1)) (sm ?_);rw[hr];exact aj sc
theorem svc_New_cs(s y:Int):aA prog 28 [.d (I s),.d (I y)] σ (.eU [.agg ((if qc s 1 32=true/\qc y 0 200=true then { jL with P:= { jL.P with jI:=y },lT:=s } else jL).cells (jL.bG)),.d (I (if qc s 1 32=true/\qc y 0 200=true then 0 else 2))]):=by
 refine aA.bs true func28 fun hwf=> ?_;refine aO.mk (qm _ s 1 32) (sm ?_);refine fM.mk' (.d (B (qc y 0 200))) (fun _=>qm _ y 0 200) (sm ?_);refine aJ [0,1,4] ?_ ?_<;>intro c0 d0
 ·have hz: ¬(qc s 1 32=true/\qc y 0 200=true):=by rintro⟨h1,h2⟩;simp[h1,h2] at d0
  simp[go_sem];refine aj ?_;rw[if_neg hz,if_neg hz];simp[go_sem,jL,eu,Go.aU.bC]
 ·have hz:qc s 1 32=true/\qc y 0 200=true:=by simpa using d0
  simp[go_sem];refine aj ?_;rw[if_pos hz,if_pos hz];simp[go_sem,jL,eu,Go.aU.bC]
theorem Hf(u:Use)(k:Int)(hu:dB u)(h0:σ[0]? =some (.tab 0 gK))(h1:σ[1]? =some (.loc 1)):aA prog 22 [.agg (u.cells u.bG),.d (I k)] σ (.eU [.agg ((if dD u=false\/lQ u.nb u.gb k<0 then⟨0,0⟩ else aW u k).enc.map .d),.d (I (if dD u=false then 1 else if lQ u.nb u.gb k<0 then 7 else 0))]):=by
 have b1:=hu.nb;have b3:=hu.nv;refine aA.bs true func22 fun hwf=> ?_;refine aO.mk (oJ _ u hu (aC h0) (aC h1)) (sm ?_);refine aJ [1,2,4] ?_ ?_<;>intro c0 d0
 ·have hz:dD u=false:=by simpa using d0
  simp[go_sem];rw[if_pos (.inl hz),if_pos hz];exact aj sc
 ·have hz0: ¬dD u=false:=by simpa using d0
  simp[go_sem];refine aO.mk (Ku _ u k (by omega)) (sm ?_);refine aJ [1,2,4] ?_ ?_<;>intro c1 d1
  ·have hz:lQ u.nb u.gb k<0:=by omega
   simp[go_sem];rw[if_pos (.inr hz),if_neg hz0,if_pos hz];exact aj sc
  ·have hz: ¬lQ u.nb u.gb k<0:=by omega
   simp[go_sem];refine aO.mk (nD _ u k (by omega)) (sm ?_);rw[if_neg (by rintro(h|h);exact hz0 h;exact hz h),if_neg hz0,if_neg hz];exact aj sc
def yR(n:Nat)(p:oC):Bool:=((lst p.ns p.gs).all fun s=>decide (s.np<=20))&&decide (n<=30)&&decide (p.ns<=30)&&decide (p.nc<=20)&&BR p.np p.gp&&decide (p.na<=20)&&decide (p.nm<=20)
def wX(n:Nat)(g:Nat->Bx):Bool:=((lst n g).all fun b=>decide (b.nc<=40))&&decide (n<=20)
def jw(m:Nat)(u:Use):Bool:=((lst u.nt u.gt).all fewB)&&yR m u.P&&wX u.nb u.gb&&decide (u.nf<=20)&&decide (u.nv<=60)&&decide (u.nr<=40)&&decide (u.nk<=40)&&decide (u.nt<=20)&&decide (u.nl<=100)&&decide (u.nw<=100)
structure LW(u:Use):Prop where
 ns:u.P.ns<=9223372036854775807
 np:u.P.np<=9223372036854775807
 nb:u.nb<=9223372036854775807
 nt:u.nt<=9223372036854775807
 bu: ∀i,i<u.nt->(u.gt i).nu<=9223372036854775807
 bb: ∀i,i<u.nt->(u.gt i).nb<=9223372036854775807
theorem wG(a b:Nat):decide ((a:Int)<=(b:Int))=decide (a<=b):=by rw[Bool.eq_iff_iff];simp
theorem few32_cs(c:Option Nat)(n:Nat)(g:Nat->iq)(hn:n<=9223372036854775807):aA prog 60 [.d (SL c 6 iq.enc n g)] σ (.d (B (BR n g))):=by
 refine aA.bs true func60 fun hwf=> ?_;refine kQ (α:=Nat) true [0,5,6,7] (fun i=>[(7,.d (I i))]) (fun i=>_) (fun i=>i<=n/\∀q,q<i->(g q).Name.size<=200) (fun i=>n-i) 0 ?_;rintro i ⟨hi,hx⟩;simp[go_sem];refine aJ [0,5,6,7] ?_ ?_<;>intro c0 d0
 ·simp[go_sem];repeat refine⟨by omega,?_⟩
  refine aJ [0,5,6,7] ?_ ?_<;>intro c1 d1
  ·simp[go_sem];rw[prsFew_no d0 (by omega)];exact aj sc
  ·simp(disch:=first|omega|simp) [go_sem,aH];refine gB (i+1) ⟨by omega,fun q hq=>by rcases Nat.lt_or_eq_of_le (Nat.le_of_lt_succ hq) with h|h;exact hx q h;rw[h];omega⟩ (h:=by simp[go_sem]<;>omega)
 ·obtain rfl:i=n:=by omega
  simp[go_sem];refine go true (sm ?_);rw[prsFew_yes hx];exact aj sc
theorem WI(c:Option Nat)(n:Nat)(g:Nat->Row)(p:oC)(hs:p.ns<=9223372036854775807)(hq:p.np<=9223372036854775807):aA prog 32 [.d (SL c 3 Row.enc n g),.agg (p.enc.map .d)] σ (.d (B (yR n p))):=by
 refine aA.bs true func32 fun hwf=> ?_;refine kQ (α:=Nat) true [0,3,8,9,10] (fun i=>[(10,.d (I i))]) (fun i=>_) (fun i=>i<=p.ns/\∀q,q<i->(p.gs q).np<=20) (fun i=>p.ns-i) 0 ?_;rintro i ⟨hi,hx⟩;simp[go_sem];refine aJ [0,3,8,9,10] ?_ ?_<;>intro c0 d0
 ·simp[go_sem];repeat refine⟨by omega,?_⟩
  refine aJ [0,3,8,9,10] ?_ ?_<;>intro c1 d1
  ·have hz:yR n p=false:=by
    cases hb:yR n p with
    |false=>rfl
    |true=>
     simp[yR,lst] at hb;have:=hb.1.1.1.1.1.1 i (by omega);omega
   simp[go_sem];rw[hz];exact aj sc
  ·simp(disch:=first|omega|simp) [go_sem,aH];refine gB (i+1) ⟨by omega,fun q hq=>by rcases Nat.lt_or_eq_of_le (Nat.le_of_lt_succ hq) with h|h;exact hx q h;rw[h];omega⟩ (h:=by simp[go_sem]<;>omega)
 ·have hin:i=p.ns:=by omega
  simp[go_sem];refine go true (sm ?_);refine fM.mk (WM _ none p.nc p.gc) (sm ?_);refine fM.mk (few32_cs _ none p.np p.gp hq) (sm ?_);refine fM.mk (WL _ none p.na p.ga) (sm ?_);refine fM.mk ((WJ _ none none p.nm 0 p.gm (fun _=>0)).sub (by simp[go_sem,xw,sS,bC])) (sm ?_);refine aj ?_;have hz:yR n p=(decide ((n:Int)<=30)&&decide ((p.ns:Int)<=30)&&decide ((p.nc:Int)<=20)&&BR p.np p.gp&&decide ((p.na:Int)<=20)&&decide ((p.nm:Int)<=20)):=by
   have h1:((lst p.ns p.gs).all fun s=>decide (s.np<=20))=true:=by simp[lst];exact fun q hq=>hx q (by omega)
   have e: ∀(a:Nat) (b:Nat),decide ((a:Int)<=(b:Int))=decide (a<=b):=fun a b=>by rw[Bool.eq_iff_iff];simp
   have e1:=e n 30;have e2:=e p.ns 30;have e3:=e p.nc 20;have e4:=e p.na 20;have e5:=e p.nm 20;simp only[Int.cast_ofNat_Int] at e1 e2 e3 e4 e5;unfold yR;rw[h1,e1,e2,e3,e4,e5];rfl
  rw[hz];simp[go_sem]
theorem WH(c:Option Nat)(n:Nat)(g:Nat->Bx)(hn:n<=9223372036854775807):aA prog 33 [.d (SL c 5 Bx.enc n g)] σ (.d (B (wX n g))):=by
 refine aA.bs true func33 fun hwf=> ?_;refine kQ (α:=Nat) true [0,5,6,7] (fun i=>[(7,.d (I i))]) (fun i=>_) (fun i=>i<=n/\∀q,q<i->(g q).nc<=40) (fun i=>n-i) 0 ?_;rintro i ⟨hi,hx⟩;simp[go_sem];refine aJ [0,5,6,7] ?_ ?_<;>intro c0 d0
 ·have hi0:i<n:=by omega
  simp[go_sem,hi0];refine aJ [0,5,6,7] ?_ ?_<;>intro c1 d1
  ·have hz:wX n g=false:=by
    cases hb:wX n g with
    |false=>rfl
    |true=>
     simp[wX,lst] at hb;have:=hb.1 i hi0;omega
   simp[go_sem];rw[hz];exact aj sc
  ·simp(disch:=first|omega|simp) [go_sem,aH];refine gB (i+1) ⟨by omega,lu hx (by omega)⟩ (h:=by simp[go_sem]<;>omega)
 ·have hin:i=n:=by omega
  simp[go_sem];refine go true (sm ?_);refine aj ?_;have hz:wX n g=decide ((n:Int)<=20):=by
   have h1:((lst n g).all fun b=>decide (b.nc<=40))=true:=by simp[lst];exact fun q hq=>hx q (by omega)
   unfold wX;rw[h1,Bool.true_and];exact(wG n 20).symm
  rw[hz];simp[go_sem]
theorem WG(c:Option Nat)(n:Nat)(g:Nat->iE):aA prog 34 [.d (SL c 6 iE.enc n g)] σ (.d (B (decide (n<=60)))):=by
 refine aA.bs true func34 fun hwf=> ?_;rw[←wG];exact aj sc
theorem WE(c:Option Nat)(n:Nat)(g:Nat->dU):aA prog 35 [.d (SL c 7 dU.enc n g)] σ (.d (B (decide (n<=40)))):=by
 refine aA.bs true func35 fun hwf=> ?_;rw[←wG];exact aj sc
theorem WC(c:Option Nat)(n:Nat)(g:Nat->jH):aA prog 36 [.d (SL c 4 jH.enc n g)] σ (.d (B (decide (n<=40)))):=by
 refine aA.bs true func36 fun hwf=> ?_;rw[←wG];exact aj sc
theorem tH(u:Use)(c:Option Nat)(m:Nat)(rg:Nat->Row)(hu:LW u):aA prog 8 [.agg (u.cells u.bG),.d (SL c 3 Row.enc m rg)] σ (.d (B (jw m u))):=by
 have b1:=hu.nt;refine aA.bs true func8 fun hwf=> ?_;refine kQ (α:=Nat) true [1,2,8,9,10] (fun i=>[(10,.d (I i))]) (fun i=>_) (fun i=>i<=u.nt/\∀q,q<i->fewB (u.gt q)=true) (fun i=>u.nt-i) 0 ?_;rintro i ⟨hi,hx⟩;simp[go_sem];refine aJ [1,2,8,9,10] ?_ ?_<;>intro c0 d0
 ·have hi0:i<u.nt:=by omega
  simp[go_sem,hi0];refine aO.mk (WB _ (u.gt i) (hu.bu i hi0) (hu.bb i hi0)) ?_;simp[go_sem];refine aJ [1,2,8,9,10] ?_ ?_<;>intro c1 d1
  ·have hz:jw m u=false:=by
    cases hb:jw m u with
    |false=>rfl
    |true=>
     simp only[jw,Bool.and_eq_true] at hb;have:=List.all_eq_true.1 hb.1.1.1.1.1.1.1.1.1 (u.gt i) (List.mem_map.2 ⟨i,by simpa using hi0,rfl⟩);simp[this] at d1
   simp[go_sem];rw[hz];exact aj sc
  ·have hb1:fewB (u.gt i)=true:=by simpa using d1
   simp(disch:=first|omega|simp) [go_sem,aH];refine gB (i+1) ⟨by omega,lu hx hb1⟩ (h:=by simp[go_sem]<;>omega)
 ·obtain rfl:i=u.nt:=by omega
  simp[go_sem];refine go true (sm ?_);refine aO.mk (WI _ c m rg u.P hu.ns hu.np) (sm ?_);refine fM.mk' (.d (B (wX u.nb u.gb))) (fun _=>WH _ none u.nb u.gb hu.nb) (sm ?_);refine fM.mk' (.d (B (decide (u.nv<=60)))) (fun _=>WG _ none u.nv u.gv) (sm ?_);refine fM.mk' (.d (B (decide (u.nr<=40)))) (fun _=>WE _ none u.nr u.gr) (sm ?_);refine fM.mk' (.d (B (decide (u.nk<=40)))) (fun _=>WC _ none u.nk u.gk) (sm ?_);refine aj ?_;have h1:(lst u.nt u.gt).all fewB=true:=List.all_eq_true.2 fun b hb=>by
   obtain⟨q,hq,rfl⟩:=List.mem_map.1 hb;exact hx q (by simpa using hq)
  have hz:jw m u=(yR m u.P&&wX u.nb u.gb&&decide ((u.nf:Int)<=20)&&decide (u.nv<=60)&&decide (u.nr<=40)&&decide (u.nk<=40)&&decide ((u.nt:Int)<=20)&&decide ((u.nl:Int)<=100)&&decide ((u.nw:Int)<=100)):=by
   unfold jw;rw[h1,Bool.true_and,←wG u.nf 20,←wG u.nt 20,←wG u.nl 100,←wG u.nw 100];rfl
  rw[hz];simp[go_sem]
theorem Dl(c c':Option Nat)(n m:Nat)(f g:Nat->iE)(hn:n<1000000000)(hm:m<1000000000):aA prog 15 [.d (SL c 6 iE.enc n f),.d (SL c' 6 iE.enc m g)] σ (.d (B (xk (lst n f) (lst m g)))):=by
 refine aA.bs true func15 fun hwf=> ?_;refine aJ [0,1] ?_ ?_<;>intro c0 d0
 ·have hz:xk (lst n f) (lst m g)=false:=wC (by omega);simp[go_sem];rw[hz];exact aj sc
 ·simp[go_sem];refine kQ (α:=Nat) true [0,1,12,13] (fun i=>[(13,.d (I i))]) (fun i=>_) (fun i=>i<=n/\∀q,q<i->f q=g q) (fun i=>n-i) 0 ?_;rintro i ⟨hi,hx⟩;simp[go_sem];refine aJ [0,1,12,13] ?_ ?_<;>intro c1 d1
  ·simp[go_sem];refine T.dr 9 fun K hK=>sm ?_;repeat refine⟨by omega,?_⟩
   refine hK _ ?_;refine go true (sm ?_);refine aJ [0,1,12,13] ?_ ?_<;>intro c2 d2
   ·have hz:xk (lst n f) (lst m g)=false:=Dn (i:=i) (by omega) (by omega) (fun h=>by simp[h] at d2);simp[go_sem];rw[hz];exact aj sc
   ·have heq:f i=g i:=by
     revert c2;rcases f i with⟨_,_,⟨_,_⟩,⟨_,_⟩⟩;rcases g i with⟨_,_,⟨_,_⟩,⟨_,_⟩⟩;simp<;>(intros;simp_all)
    simp(disch:=first|omega|simp) [go_sem,aH];refine gB (i+1) ⟨by omega,fun q hq=>by rcases Nat.lt_or_eq_of_le (Nat.le_of_lt_succ hq) with h|h;exact hx q h;rw[h];exact heq⟩ (h:=by simp[go_sem]<;>omega)
  ·have hz:xk (lst n f) (lst m g)=true:=tY (by omega) (fun q hq=>hx q (by omega));simp[go_sem];refine go true (sm ?_);rw[hz];exact aj sc
theorem wB(c c':Option Nat)(n m:Nat)(f g:Nat->sN)(hn:n<1000000000)(hm:m<1000000000):aA prog 16 [.d (SL c 3 sN.enc n f),.d (SL c' 3 sN.enc m g)] σ (.d (B (xk (lst n f) (lst m g)))):=by
 refine aA.bs true func16 fun hwf=> ?_;refine aJ [0,1] ?_ ?_<;>intro c0 d0
 ·have hz:xk (lst n f) (lst m g)=false:=wC (by omega);simp[go_sem];rw[hz];exact aj sc
 ·simp[go_sem];refine kQ (α:=Nat) true [0,1,12,13] (fun i=>[(13,.d (I i))]) (fun i=>_) (fun i=>i<=n/\∀q,q<i->f q=g q) (fun i=>n-i) 0 ?_;rintro i ⟨hi,hx⟩;simp[go_sem];refine aJ [0,1,12,13] ?_ ?_<;>intro c1 d1
  ·simp[go_sem];refine T.dr 9 fun K hK=>sm ?_;repeat refine⟨by omega,?_⟩
   refine hK _ ?_;refine go true (sm ?_);refine aJ [0,1,12,13] ?_ ?_<;>intro c2 d2
   ·have hz:xk (lst n f) (lst m g)=false:=Dn (i:=i) (by omega) (by omega) (fun h=>by simp[h] at d2);simp[go_sem];rw[hz];exact aj sc
   ·have heq:f i=g i:=by
     revert c2;rcases f i with⟨_,_,_⟩;rcases g i with⟨_,_,_⟩;simp<;>(intros;simp_all)
    simp(disch:=first|omega|simp) [go_sem,aH];refine gB (i+1) ⟨by omega,fun q hq=>by rcases Nat.lt_or_eq_of_le (Nat.le_of_lt_succ hq) with h|h;exact hx q h;rw[h];exact heq⟩ (h:=by simp[go_sem]<;>omega)
  ·have hz:xk (lst n f) (lst m g)=true:=tY (by omega) (fun q hq=>hx q (by omega));simp[go_sem];refine go true (sm ?_);rw[hz];exact aj sc
def jC(n:Nat)(g:Nat->Ev):Bool:=((lst n g).all fun e=>decide (e.nn<=40)&&decide (e.nt<=4)&&(lst e.nt e.gt).all fun s=>decide (s.size<=200))&&decide (n<=40)
noncomputable def gU(m:Nat)(rg:Nat->Row)(g:Nat->Ev)(u:Use):Nat->Use
 |0=>u
 |k+1=>(iQ (gU m rg g u k) m rg (g k)).1
noncomputable def pX(m:Nat)(rg:Nat->Row)(g:Nat->Ev)(u:Use)(i:Nat):Int:=(iQ (gU m rg g u i) m rg (g i)).2
noncomputable def dV(m:Nat)(rg:Nat->Row)(g:Nat->Ev)(u:Use)(i:Nat):Nat->Int×Int
 |0=>(-1,0)
 |k+1=>if pX m rg g u i≠0 then((i:Int),pX m rg g u i) else dV m rg g u (i+1) k
theorem runGo_step{m:Nat}{rg:Nat->Row}{g:Nat->Ev}{u:Use}{i n:Nat}(h:i<n):dV m rg g u i (n-i)=if pX m rg g u i≠0 then((i:Int),pX m rg g u i) else dV m rg g u (i+1) (n-(i+1)):=by
 obtain⟨k,hk⟩: ∃k,n-i=k+1:=⟨n-i-1,by omega⟩;rw[hk,dV,show n-(i+1)=k by omega]
noncomputable def gu(u:Use)(m:Nat)(rg:Nat->Row)(n:Nat)(g:Nat->Ev):Use×Int×Int:=if dD u=false\/cu m rg≠0 then(jL,-1,1) else if(dV m rg g u 0 n).2≠0 then(jL,dV m rg g u 0 n) else(gU m rg g u n,-1,0)
theorem yJ(u:Use)(c:Option Nat)(m:Nat)(rg:Nat->Row)(c':Option Nat)(n:Nat)(g:Nat->Ev)(hu:dB u)(hm:m<1000000000)(hn:n<1000000000)(hst:dD u=true->∀i,i<n->(∀q,q<i->pX m rg g u q=0)->J7 (gU m rg g u i) m (g i))(h0:σ[0]? =some (.tab 0 gK))(h1:σ[1]? =some (.loc 1)):aA prog 17 [.agg (u.cells u.bG),.d (SL c 3 Row.enc m rg),.d (SL c' 5 Ev.enc n g)] σ (.eU [.agg ((gu u m rg n g).1.cells (gu u m rg n g).1.bG),.d (I (gu u m rg n g).2.1),.d (I (gu u m rg n g).2.2)]):=by
 refine aA.be func17 fun hwf=> ?_;refine ak fun K hK=>sm ?_;refine hK _ ?_;refine aK ?_;refine ak fun K hK=>sm ?_;refine aO.mk (oJ _ u hu (aC h0) (aC h1)) (sm ?_);refine fM.mk' (.d (I (cu m rg))) (fun _=>uJ _ c m rg hm) (sm ?_);refine hK _ ?_;refine tq [1,2,3,6,21] ?_;refine jr ?_ ?_<;>intro c0 d0
 ·have hr:gu u m rg n g=(jL,-1,1):=if_pos (by simpa using d0);refine ak fun K hK=> ?_;simp[go_sem,c0];refine hK _ ?_;refine aj ?_;rw[hr];simp[go_sem,jL,eu,Go.aU.bC]
 ·have hq0: ¬(dD u=false\/cu m rg≠0):=by simpa using d0
  have hrt:dD u=true:=by simpa using fun h=>hq0 (.inl h)
  have hst:=hst hrt;refine aX ?_;refine ak fun K hK=> ?_;simp[go_sem,d0];have h:=G9 (σ++[.var (u.cells u.bG),.var [.d (.v (.slice none 0 0)),.d (.v (.slice none 0 0)),.d (.v (.slice none 0 0)),.d (I 0),.d (.v (.slice none 0 0)),.d (.v (.slice none 0 0)),.d (.v (.slice none 0 0)),.d (.v (.slice none 0 0)),.d (.v (.slice none 0 0)),.d (.v (.slice none 0 0)),.d (I 0),.d (.v (.slice none 0 0)),.d (.v (.slice none 0 0)),.d (.v (.slice none 0 0)),.d (.v (.slice none 0 0)),.d (I 0)]]) u hu;simp[go_sem,Use.own,Use.blks,Nat.add_assoc] at h;refine aO.gen h ?_;rintro r σ' X ⟨rfl,rfl,rfl⟩;simp[go_sem];refine hK _ ?_;refine aK ?_;refine yx (σ.length+2) (by simp[go_sem];first|rfl|skip) (by simp[go_sem,hwf.one];first|rfl|skip) ?_;refine yx (σ.length+3) (by simp[go_sem];first|rfl|skip) (by simp[go_sem,hwf.one];first|rfl|skip) ?_;refine aF hwf (σ.length+5) ?_;refine aF hwf (σ.length+6) ?_;refine aF hwf (σ.length+7) ?_;refine aF hwf (σ.length+8) ?_;refine aF hwf (σ.length+9) ?_;refine aF hwf (σ.length+10) ?_;refine aF hwf (σ.length+11) ?_;refine ak fun K hK=> ?_;simp[go_sem];refine hK _ ?_;refine aS ?_;refine bZ [1,6,9,25,26,27] (by simp[go_sem,bD];rfl) ?_;refine dO (α:=Nat) (fun i=>[(27,.d (I i))]) (fun i=>σ++[.var (u.cells u.bG),.var [.d (.v (.slice none 0 0)),.d (.v (.slice none 0 0)),.d (.v (.slice none 0 0)),.d (I 0),.d (.v (.slice none 0 0)),.d (.v (.slice none 0 0)),.d (.v (.slice none 0 0)),.d (.v (.slice none 0 0)),.d (.v (.slice none 0 0)),.d (.v (.slice none 0 0)),.d (I 0),.d (.v (.slice none 0 0)),.d (.v (.slice none 0 0)),.d (.v (.slice none 0 0)),.d (.v (.slice none 0 0)),.d (I 0)],.dead,.dead,.dead,.dead,.dead,.dead,.dead,.dead,.dead,.dead,.var ((gU m rg g u i).cells (gU m rg g u i).bG)]) (fun i=>i<=n/\dV m rg g u 0 n=dV m rg g u i (n-i)/\∀q,q<i->pX m rg g u q=0) (fun i=>n-i) 0 (by simp[go_sem]) (rfl) (by simp) ?_;rintro i ⟨hi,hx,hq9⟩;refine ak fun K hK=> ?_;simp[go_sem];refine hK _ ?_;refine aK ?_;refine tq [1,6,9,25,26,27,28] ?_;refine jr ?_ ?_<;>intro c1 d1
  ·have hi1:i<n:=by omega
   have hrs:(iQ (gU m rg g u i) m rg (g i)).1=gU m rg g u (i+1):=rfl;have hgs:=runGo_step (m:=m) (rg:=rg) (g:=g) (u:=u) hi1;refine aX ?_;refine aK ?_;refine aS ?_;refine ak fun K hK=> ?_;simp[go_sem,d1];refine hK _ ?_;refine ak fun K hK=> ?_;simp[go_sem];refine aO.mk (LZ _ (gU m rg g u i) c m rg (g i) (hst i hi1 hq9) (aC h0) (aC h1)) ?_;simp[go_sem,hrs];refine hK _ ?_;refine aK ?_;refine ak fun K hK=> ?_;simp[go_sem];refine hK _ ?_;refine tq [1,6,9,10,12,13,25,26,27,40] ?_;refine jr ?_ ?_<;>intro c2 d2
   ·have hk2:pX m rg g u i≠0:=by unfold pX;simpa using d2
    have hgo:dV m rg g u 0 n=((i:Int),pX m rg g u i):=by rw[hx,hgs,if_pos hk2]
    have hr:gu u m rg n g=(jL,(i:Int),pX m rg g u i):=by unfold gu;rw[if_neg hq0,hgo,if_pos hk2]
    refine ak fun K hK=> ?_;simp[go_sem,c2];refine hK _ ?_;refine aj ?_;rw[hr];simp[go_sem,jL,eu,Go.aU.bC,pX]
   ·have hk2:pX m rg g u i=0:=by unfold pX;simpa using d2
    refine aX ?_;refine aZ fun K hK=> ?_;simp[go_sem,d2];refine hK _ ?_;refine aZ fun K hK=> ?_;simp[go_sem];try simp(disch:=omega) only[aH]
    refine hK _ ?_;refine⟨i+1,dI (by simp[go_sem]) ((au (by simp[go_sem]))) (by(simp[go_sem]<;>omega)),⟨by omega,by rw[hx,hgs,if_neg (fun h=>h hk2)],lu hq9 hk2⟩,by first|omega|(dsimp only;omega)⟩
  ·obtain rfl:i=n:=by omega
   have hgo:(dV m rg g u 0 i).2=0:=by rw[hx,Nat.sub_self];rfl
   have hr:gu u m rg i g=(gU m rg g u i,-1,0):=by unfold gu;rw[if_neg hq0,if_neg (fun h=>h hgo)]
   refine fF ?_;refine ak fun K hK=> ?_;simp[go_sem];refine hK _ ?_;rw[hr];exact aj sc
end Go.Proofs.YtmahphgjkpgidaaGreatDoor
