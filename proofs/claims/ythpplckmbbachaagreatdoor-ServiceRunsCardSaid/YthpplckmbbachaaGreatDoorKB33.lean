/- Lemmas, no conditions. -/
import Derived.Test.YthpplckmbbachaaGreatDoorKB29
import Derived.Test.YthpplckmbbachaaGreatDoorKB31
import Derived.Test.YthpplckmbbachaaGreatDoorKB32
set_option linter.unusedVariables false
set_option linter.unusedSimpArgs false
set_option maxHeartbeats 4000000
set_option maxRecDepth 100000
namespace Go.Proofs.YthpplckmbbachaaGreatDoor
open Go.aI Go.bI Go.Proofs.Tryz
noncomputable def rE(u:Use)(m:Nat)(rg:Nat->Row)(e:Ev):Int:=
 if e.Kind=40 then SR u e
 else if e.Kind=41 then SJ u e
 else if e.Kind=42 then Zv u e
 else if e.Kind=43 then(Sh u e).2
 else if e.Kind=44 then S8 u e
 else if e.Kind=45 then RO u e
 else if e.Kind=46 then rD u.P.nm u.P.gm (e.gn 0) e.Day
 else if e.Kind=47 then Wz u e
 else if e.Kind=48 then Vv u e
 else if e.Kind=49 then PV u e
 else if e.Kind=50 then Hm u e
 else if e.Kind=51 then Y3 u e
 else if e.Kind=52 then AQ u e
 else if e.Kind=53 then Ge u m rg e
 else if e.Kind=54 then ml u m rg e
 else if e.Kind=55 then x3 u e
 else if e.Kind=56 then QM u e
 else if e.Kind=57 then Pb u e
 else if e.Kind=58 then LS u e
 else if e.Kind=59 then Cs u e
 else 0
noncomputable def Fo(u:Use)(e:Ev):Use:=
 if e.Kind=40 then VR u e
 else if e.Kind=41 then VQ u e
 else if e.Kind=42 then VT u e
 else if e.Kind=43 then VM u e
 else if e.Kind=44 then VW u e
 else if e.Kind=45 then Zt u e
 else if e.Kind=46 then VJ u e
 else if e.Kind=47 then VI u e
 else if e.Kind=48 then Pk u e
 else if e.Kind=49 then W1 u e
 else if e.Kind=50 then Zo u e
 else if e.Kind=51 then S2 u e
 else if e.Kind=52 then dz u e (e.gn 0) ⟨e.gn 1,e.gn 2⟩
 else if e.Kind=53 then Zd u e
 else if e.Kind=54 then KY u e
 else if e.Kind=55 then VO u e
 else if e.Kind=56 then YR u e
 else if e.Kind=57 then VU u e
 else if e.Kind=58 then Rz u e
 else if e.Kind=59 then Nz u e
 else u
def evQ(σ:List aZ)(E:Int)(cs0:List AV)(r:AV)(σ':List aZ):Prop:=r= .d (I E)/\∃cs,σ'=σ++[.dead,.dead,.dead,.dead,.dead,.dead,.dead,.var cs]/\(E=0->cs=cs0)
def L7(σ:List aZ):List Nat:=[σ.length,σ.length+1,σ.length+2,σ.length+3,σ.length+4,σ.length+5,σ.length+6]
attribute [simp] L7
theorem mI{kp:List aZ}(hwf:gJ kp){f:FuncId}{args args':List AV}{σ σ':List aZ}{Q:AV->List aZ->Prop}{L:List Nat}(k:Nat){sz n:Nat}{row:Nat->List D}(h:CS prog f args' σ' fun r σ1 X=>(∀x∈X,x∈L)/\Q r σ1)(hb:σ[kp.length+k]? =some (.arr sz n row):=by simp[go_sem];exact⟨rfl,rfl,rfl⟩)(ha:args.map (lf (kp.length+k) sz n row)=args':=by simp[go_sem];rfl)
  (hσ:(∀k sz n' row,kp.map (Cx (kp.length+k) sz n' row)=kp)->(∀sz n' row,kp.map (Cx kp.length sz n' row)=kp)->GS (kp.length+k) sz n row σ=σ':=by intro h1 h2;simp[go_sem,h1,h2];rfl) (hm:kp.length+k∈L:=by simp):CS prog f args σ fun r σ1 X=>(∀x∈X,x∈L)/\Q r σ1:=
 CS.mono (CS.tY (Q:=fun r σ1 X=>(∀x∈X,x∈L)/\Q r σ1) _ hb ha (hσ hwf.tY hwf.aat) h) (by rintro r σ1 X ⟨X0,rfl,h1,h2⟩;refine⟨fun x hx=> ?_,h2⟩;rcases List.mem_cons.1 hx with rfl|hx;exact hm;exact h1 x hx)
theorem rK{σ}{u:Use}{c m rg e f}{Q:AV->List aZ->Prop}(hwf:gJ σ)(h:CS prog f [.ptr (σ.length+7) 0] (σ++[.dead,.dead,.dead,.dead,.dead,.dead,.dead,.var (bm (u.cells u.aX) c m rg e)]) (fun r σ' X=>X=[]/\Q r σ')):
  CS prog f [.ptr (σ.length+7) 0] (σ++(u.blks++[.var (bm (u.own σ.length) c m rg e)])) (fun r σ' X=>X=[σ.length,σ.length+1,σ.length+2,σ.length+3,σ.length+4,σ.length+5,σ.length+6]/\Q r σ'):=by
 refine CS.wide (Q:=Q) (L7 σ) ?_;refine mI hwf 0 ?_;refine mI hwf 1 ?_;refine mI hwf 2 ?_;refine mI hwf 3 ?_;refine mI hwf 4 ?_;refine mI hwf 5 ?_;refine mI hwf 6 ?_;refine CS.mono vZ AE
theorem aeq{σ}{u:Use}{c m rg e f}{Q:AV->List aZ->Prop}(hwf:gJ σ)(h:CS prog f [.ptr (σ.length+7) 0] (σ++[.arr 6 u.P.nc (fun i=>Rule.enc (u.P.gc i)),.dead,.dead,.dead,.dead,.dead,.dead,.var (bm ((u.cells u.aX).set 1 (.ms σ.length 6 0 u.P.nc)) c m rg e)]) (fun r σ' X=>X=[σ.length]/\Q r σ')):
  CS prog f [.ptr (σ.length+7) 0] (σ++(u.blks++[.var (bm (u.own σ.length) c m rg e)])) (fun r σ' X=>X=[σ.length,σ.length+1,σ.length+2,σ.length+3,σ.length+4,σ.length+5,σ.length+6]/\Q r σ'):=by
 refine CS.wide (Q:=Q) (L7 σ) ?_;refine mI hwf 1 ?_;refine mI hwf 2 ?_;refine mI hwf 3 ?_;refine mI hwf 4 ?_;refine mI hwf 5 ?_;refine mI hwf 6 ?_;refine CS.mono vZ AE
theorem aer{σ}{u:Use}{c m rg e f}{Q:AV->List aZ->Prop}(hwf:gJ σ)(h:CS prog f [.ptr (σ.length+7) 0] (σ++[.dead,.arr 6 u.P.np (fun i=>dF.enc (u.P.gp i)),.dead,.dead,.dead,.dead,.dead,.var (bm ((u.cells u.aX).set 2 (.ms (σ.length+1) 6 0 u.P.np)) c m rg e)]) (fun r σ' X=>X=[σ.length+1]/\Q r σ')):
  CS prog f [.ptr (σ.length+7) 0] (σ++(u.blks++[.var (bm (u.own σ.length) c m rg e)])) (fun r σ' X=>X=[σ.length,σ.length+1,σ.length+2,σ.length+3,σ.length+4,σ.length+5,σ.length+6]/\Q r σ'):=by
 refine CS.wide (Q:=Q) (L7 σ) ?_;refine mI hwf 0 ?_;refine mI hwf 2 ?_;refine mI hwf 3 ?_;refine mI hwf 4 ?_;refine mI hwf 5 ?_;refine mI hwf 6 ?_;refine CS.mono vZ AE
theorem aeu{σ}{u:Use}{c m rg e f}{Q:AV->List aZ->Prop}(hwf:gJ σ)(h:CS prog f [.ptr (σ.length+7) 0] (σ++[.dead,.dead,.arr 6 u.P.na (fun i=>fM.enc (u.P.ga i)),.dead,.dead,.dead,.dead,.var (bm ((u.cells u.aX).set 4 (.ms (σ.length+2) 6 0 u.P.na)) c m rg e)]) (fun r σ' X=>X=[σ.length+2]/\Q r σ')):
  CS prog f [.ptr (σ.length+7) 0] (σ++(u.blks++[.var (bm (u.own σ.length) c m rg e)])) (fun r σ' X=>X=[σ.length,σ.length+1,σ.length+2,σ.length+3,σ.length+4,σ.length+5,σ.length+6]/\Q r σ'):=by
 refine CS.wide (Q:=Q) (L7 σ) ?_;refine mI hwf 0 ?_;refine mI hwf 1 ?_;refine mI hwf 3 ?_;refine mI hwf 4 ?_;refine mI hwf 5 ?_;refine mI hwf 6 ?_;refine CS.mono vZ AE
theorem aet{σ}{u:Use}{c m rg e f}{Q:AV->List aZ->Prop}(hwf:gJ σ)(h:CS prog f [.ptr (σ.length+7) 0] (σ++[.dead,.dead,.dead,.arr 5 u.nb (fun i=>Bx.enc (u.gb i)),.dead,.dead,.dead,.var (bm ((u.cells u.aX).set 6 (.ms (σ.length+3) 5 0 u.nb)) c m rg e)]) (fun r σ' X=>X=[σ.length+3]/\Q r σ')):
  CS prog f [.ptr (σ.length+7) 0] (σ++(u.blks++[.var (bm (u.own σ.length) c m rg e)])) (fun r σ' X=>X=[σ.length,σ.length+1,σ.length+2,σ.length+3,σ.length+4,σ.length+5,σ.length+6]/\Q r σ'):=by
 refine CS.wide (Q:=Q) (L7 σ) ?_;refine mI hwf 0 ?_;refine mI hwf 1 ?_;refine mI hwf 2 ?_;refine mI hwf 4 ?_;refine mI hwf 5 ?_;refine mI hwf 6 ?_;refine CS.mono vZ AE
theorem aes{σ}{u:Use}{c m rg e f}{Q:AV->List aZ->Prop}(hwf:gJ σ)(h:CS prog f [.ptr (σ.length+7) 0] (σ++[.dead,.dead,.dead,.dead,.arr 4 u.nf (fun i=>l4.enc (u.gf i)),.dead,.dead,.var (bm ((u.cells u.aX).set 7 (.ms (σ.length+4) 4 0 u.nf)) c m rg e)]) (fun r σ' X=>X=[σ.length+4]/\Q r σ')):
  CS prog f [.ptr (σ.length+7) 0] (σ++(u.blks++[.var (bm (u.own σ.length) c m rg e)])) (fun r σ' X=>X=[σ.length,σ.length+1,σ.length+2,σ.length+3,σ.length+4,σ.length+5,σ.length+6]/\Q r σ'):=by
 refine CS.wide (Q:=Q) (L7 σ) ?_;refine mI hwf 0 ?_;refine mI hwf 1 ?_;refine mI hwf 2 ?_;refine mI hwf 3 ?_;refine mI hwf 5 ?_;refine mI hwf 6 ?_;refine CS.mono vZ AE
theorem Lc{σ}{u:Use}{c m rg e f}{Q:AV->List aZ->Prop}(hwf:gJ σ)(h:CS prog f [.ptr (σ.length+7) 0] (σ++[.dead,.dead,.dead,.dead,.dead,.arr 8 u.nt (fun i=>ek.enc (u.gt i)),.dead,.var (bm ((u.cells u.aX).set 12 (.ms (σ.length+5) 8 0 u.nt)) c m rg e)]) (fun r σ' X=>X=[σ.length+5]/\Q r σ')):
  CS prog f [.ptr (σ.length+7) 0] (σ++(u.blks++[.var (bm (u.own σ.length) c m rg e)])) (fun r σ' X=>X=[σ.length,σ.length+1,σ.length+2,σ.length+3,σ.length+4,σ.length+5,σ.length+6]/\Q r σ'):=by
 refine CS.wide (Q:=Q) (L7 σ) ?_;refine mI hwf 0 ?_;refine mI hwf 1 ?_;refine mI hwf 2 ?_;refine mI hwf 3 ?_;refine mI hwf 4 ?_;refine mI hwf 6 ?_;refine CS.mono vZ AE
theorem aep{σ}{u:Use}{c m rg e f}{Q:AV->List aZ->Prop}(hwf:gJ σ)(h:CS prog f [.ptr (σ.length+7) 0] (σ++[.dead,.dead,.dead,.dead,.dead,.dead,.arr 3 u.nw (fun i=>ke.enc (u.gw i)),.var (bm (u.cells (.ms (σ.length+6) 3 0 u.nw)) c m rg e)]) (fun r σ' X=>X=[σ.length+6]/\Q r σ')):
  CS prog f [.ptr (σ.length+7) 0] (σ++(u.blks++[.var (bm (u.own σ.length) c m rg e)])) (fun r σ' X=>X=[σ.length,σ.length+1,σ.length+2,σ.length+3,σ.length+4,σ.length+5,σ.length+6]/\Q r σ'):=by
 refine CS.wide (Q:=Q) (L7 σ) ?_;refine mI hwf 0 ?_;refine mI hwf 1 ?_;refine mI hwf 2 ?_;refine mI hwf 3 ?_;refine mI hwf 4 ?_;refine mI hwf 5 ?_;refine CS.mono vZ AE
theorem RU{e}(h:okS e=true):(e.nt:Int)=(cx e.Kind).2.1/\(cx e.Kind).1<=(e.nn:Int):=by
 unfold okS at h;simp only[Bool.and_eq_true,decide_eq_true_eq] at h;exact⟨h.1.1.2,h.1.2⟩
theorem jz{σ}(h:gJ σ)(k):gJ (σ++List.replicate k .dead):=fun X hX=>by
 rw[List.map_append,h X (fun b hb=>by have:=hX b hb;simp at this;omega),List.map_replicate];rfl
structure G9(σ:List aZ)(u:Use)(m:Nat)(e:Ev):Prop where
 hu:br u
 hs:u.P.ns<=999
 hb:e.nn<=1000
 hm:m<1000000000
 htx: ∀i,i<e.nt->(e.gt i).size<4294967281
 h0:σ[0]? =some (.tab 0 dG)
 h1:σ[1]? =some (.loc 1)
 hwf:gJ σ
def Fk(σ:List aZ)(c:Option Nat)(m:Nat)(rg:Nat->Row)(e:Ev)(E:Int)(U:Use):AV->List aZ->Prop:=evQ σ E (bm (U.cells U.aX) c m rg e)
def F8(σ:List aZ)(u:Use)(c:Option Nat)(m:Nat)(rg:Nat->Row)(e:Ev)(f:Nat)(E:Int)(U:Use):Prop:=CS prog f [.ptr (σ.length+7) 0] (σ++(u.blks++[.var (bm (u.own σ.length) c m rg e)])) (fun r σ' X=>X=[σ.length,σ.length+1,σ.length+2,σ.length+3,σ.length+4,σ.length+5,σ.length+6]/\Fk σ c m rg e E U r σ')
theorem GY{σ u c m rg e}(H:G9 σ u m e)(hn:6<=e.nn):F8 σ u c m rg e 206 (SR u e) (VR u e):=by
 obtain⟨hu,hs,hb,hm,htx,h0,h1,hwf⟩:=H;have h:=nT (w6 σ u c m rg e hu aa aa hwf);exact aeq (Q:=Fk σ c m rg e (SR u e) (VR u e)) hwf h
theorem GX{σ u c m rg e}(H:G9 σ u m e)(hn:2<=e.nn):F8 σ u c m rg e 207 (SJ u e) (VQ u e):=by
 obtain⟨hu,hs,hb,hm,htx,h0,h1,hwf⟩:=H;have h:=nT (wz (σ++[.dead,.dead,.dead,.dead,.dead,.dead,.dead]) u c m rg e hu aa aa);exact rK (Q:=Fk σ c m rg e (SJ u e) (VQ u e)) hwf h
theorem Kf{σ u c m rg e}(H:G9 σ u m e)(hn:5<=e.nn)(ht:e.nt=1):F8 σ u c m rg e 208 (Zv u e) (VT u e):=by
 obtain⟨hu,hs,hb,hm,htx,h0,h1,hwf⟩:=H;have h:=nT (yP (σ++[.dead]) u c m rg e hu aa aa aa aa (htx 0 aa) (ay h1) (show gJ (σ++[.dead]) from jz hwf 1));exact aer (Q:=Fk σ c m rg e (Zv u e) (VT u e)) hwf h
theorem YB{σ u c m rg e}(H:G9 σ u m e)(hn:5<=e.nn):F8 σ u c m rg e 209 ((Sh u e).2) (VM u e):=by
 obtain⟨hu,hs,hb,hm,htx,h0,h1,hwf⟩:=H;have h:=nT (IQ (σ++[.dead,.dead,.dead,.dead,.dead,.dead,.dead]) u c m rg e hu aa aa (ay h1));exact rK (Q:=Fk σ c m rg e ((Sh u e).2) (VM u e)) hwf h
theorem Cz{σ u c m rg e}(H:G9 σ u m e)(hn:6<=e.nn):F8 σ u c m rg e 210 (S8 u e) (VW u e):=by
 obtain⟨hu,hs,hb,hm,htx,h0,h1,hwf⟩:=H;have h:=nT (tM (σ++[.dead,.dead]) u c m rg e hu aa aa (show gJ (σ++[.dead,.dead]) from jz hwf 2));exact aeu (Q:=Fk σ c m rg e (S8 u e) (VW u e)) hwf h
theorem YC{σ u c m rg e}(H:G9 σ u m e)(hn:6<=e.nn):F8 σ u c m rg e 211 (RO u e) (Zt u e):=by
 obtain⟨hu,hs,hb,hm,htx,h0,h1,hwf⟩:=H;have h:=nT (IT (σ++[.dead,.dead,.dead,.dead,.dead,.dead,.dead]) u c m rg e hu aa aa);exact rK (Q:=Fk σ c m rg e (RO u e) (Zt u e)) hwf h
theorem UM{σ u c m rg e}(H:G9 σ u m e)(hn:1<=e.nn):F8 σ u c m rg e 212 (rD u.P.nm u.P.gm (e.gn 0) e.Day) (VJ u e):=by
 obtain⟨hu,hs,hb,hm,htx,h0,h1,hwf⟩:=H;have h:=nT (Gg (σ++[.dead,.dead,.dead,.dead,.dead,.dead,.dead]) u c m rg e hu aa aa);exact rK (Q:=Fk σ c m rg e (rD u.P.nm u.P.gm (e.gn 0) e.Day) (VJ u e)) hwf h
theorem GW{σ u c m rg e}(H:G9 σ u m e)(hn:4<=e.nn):F8 σ u c m rg e 213 (Wz u e) (VI u e):=by
 obtain⟨hu,hs,hb,hm,htx,h0,h1,hwf⟩:=H;have h:=nT (wu (σ++[.dead,.dead,.dead,.dead,.dead,.dead,.dead]) u c m rg e hu hs aa aa (ay h1) (show gJ (σ++[.dead,.dead,.dead,.dead,.dead,.dead,.dead]) from jz hwf 7));exact rK (Q:=Fk σ c m rg e (Wz u e) (VI u e)) hwf h
theorem UN{σ u c m rg e}(H:G9 σ u m e)(hn:4<=e.nn):F8 σ u c m rg e 214 (Vv u e) (Pk u e):=by
 obtain⟨hu,hs,hb,hm,htx,h0,h1,hwf⟩:=H;have h:=nT (Gk (σ++[.dead,.dead,.dead]) u c m rg e hu aa aa (show gJ (σ++[.dead,.dead,.dead]) from jz hwf 3));exact aet (Q:=Fk σ c m rg e (Vv u e) (Pk u e)) hwf h
theorem adY{σ u c m rg e}(H:G9 σ u m e)(hn:4<=e.nn):F8 σ u c m rg e 215 (PV u e) (W1 u e):=by
 obtain⟨hu,hs,hb,hm,htx,h0,h1,hwf⟩:=H;have h:=nT (Pw (σ++[.dead,.dead,.dead,.dead,.dead,.dead,.dead]) u c m rg e hu aa aa);exact rK (Q:=Fk σ c m rg e (PV u e) (W1 u e)) hwf h
theorem aa1{σ u c m rg e}(H:G9 σ u m e)(hn:1<=e.nn):F8 σ u c m rg e 216 (Hm u e) (Zo u e):=by
 obtain⟨hu,hs,hb,hm,htx,h0,h1,hwf⟩:=H;have h:=nT (Lo (σ++[.dead,.dead,.dead,.dead,.dead,.dead,.dead]) u c m rg e hu aa aa);exact rK (Q:=Fk σ c m rg e (Hm u e) (Zo u e)) hwf h
theorem On{σ u c m rg e}(H:G9 σ u m e)(hn:4<=e.nn):F8 σ u c m rg e 217 (Y3 u e) (S2 u e):=by
 obtain⟨hu,hs,hb,hm,htx,h0,h1,hwf⟩:=H;have h:=nT (BM (σ++[.dead,.dead,.dead,.dead]) u c m rg e hu aa aa (show gJ (σ++[.dead,.dead,.dead,.dead]) from jz hwf 4));exact aes (Q:=Fk σ c m rg e (Y3 u e) (S2 u e)) hwf h
theorem aa3{σ u c m rg e}(H:G9 σ u m e)(hn:3<=e.nn):F8 σ u c m rg e 218 (AQ u e) (dz u e (e.gn 0) ⟨e.gn 1,e.gn 2⟩):=by
 obtain⟨hu,hs,hb,hm,htx,h0,h1,hwf⟩:=H;have h:=nT (Lp (σ++[.dead,.dead,.dead,.dead,.dead,.dead,.dead]) u c m rg e hu aa aa);exact rK (Q:=Fk σ c m rg e (AQ u e) (dz u e (e.gn 0) ⟨e.gn 1,e.gn 2⟩)) hwf h
theorem ad0{σ u c m rg e}(H:G9 σ u m e)(hn:3<=e.nn):F8 σ u c m rg e 219 (Ge u m rg e) (Zd u e):=by
 obtain⟨hu,hs,hb,hm,htx,h0,h1,hwf⟩:=H;have h:=nT (PA (σ++[.dead,.dead,.dead,.dead,.dead,.dead,.dead]) u c m rg e hu aa aa hm (ay h1));exact rK (Q:=Fk σ c m rg e (Ge u m rg e) (Zd u e)) hwf h
theorem aa4{σ u c m rg e}(H:G9 σ u m e)(hn:1<=e.nn):F8 σ u c m rg e 220 (ml u m rg e) (KY u e):=by
 obtain⟨hu,hs,hb,hm,htx,h0,h1,hwf⟩:=H;have h:=nT (Lr (σ++[.dead,.dead,.dead,.dead,.dead,.dead]) u c m rg e hu aa aa hm (ay h1) (show gJ (σ++[.dead,.dead,.dead,.dead,.dead,.dead]) from jz hwf 6));exact aep (Q:=Fk σ c m rg e (ml u m rg e) (KY u e)) hwf h
theorem adZ{σ u c m rg e}(H:G9 σ u m e)(hn:2<=e.nn):F8 σ u c m rg e 221 (x3 u e) (VO u e):=by
 obtain⟨hu,hs,hb,hm,htx,h0,h1,hwf⟩:=H;have h:=nT (Py (σ++[.dead,.dead,.dead,.dead,.dead,.dead,.dead]) u c m rg e hu aa aa);exact rK (Q:=Fk σ c m rg e (x3 u e) (VO u e)) hwf h
theorem aa5{σ u c m rg e}(H:G9 σ u m e)(hn:4<=e.nn):F8 σ u c m rg e 222 (QM u e) (YR u e):=by
 obtain⟨hu,hs,hb,hm,htx,h0,h1,hwf⟩:=H;have h:=nT (Lu (σ++[.dead,.dead,.dead,.dead,.dead,.dead,.dead]) u c m rg e hu aa aa);exact rK (Q:=Fk σ c m rg e (QM u e) (YR u e)) hwf h
theorem Oo{σ u c m rg e}(H:G9 σ u m e)(hn:3<=e.nn):F8 σ u c m rg e 223 (Pb u e) (VU u e):=by
 obtain⟨hu,hs,hb,hm,htx,h0,h1,hwf⟩:=H;have h:=nT (BN (σ++[.dead,.dead,.dead,.dead,.dead]) u c m rg e hu aa aa (ay h0) (show gJ (σ++[.dead,.dead,.dead,.dead,.dead]) from jz hwf 5));exact Lc (Q:=Fk σ c m rg e (Pb u e) (VU u e)) hwf h
theorem aa2{σ u c m rg e}(H:G9 σ u m e)(hn:1<=e.nn):F8 σ u c m rg e 224 (LS u e) (Rz u e):=by
 obtain⟨hu,hs,hb,hm,htx,h0,h1,hwf⟩:=H;have hlt:=yv u e;by_cases hi:iK u e<0
 ·skip
  have h:=nT (IK (σ++[.dead,.dead,.dead,.dead,.dead]) u c m rg e hu aa aa hi (show gJ (σ++[.dead,.dead,.dead,.dead,.dead]) from jz hwf 5));exact Lc (Q:=Fk σ c m rg e (LS u e) (Rz u e)) hwf h
 ·obtain⟨i,hi2,hin⟩: ∃i:Nat,iK u e=(i:Int)/\i<u.nt:=⟨(iK u e).toNat,aa,aa⟩;have h:=nT (IJ (σ++[.dead,.dead,.dead,.dead,.dead]) u c m rg e hu aa aa (ay h0) i hi2 hin (show gJ (σ++[.dead,.dead,.dead,.dead,.dead]) from jz hwf 5));exact Lc (Q:=Fk σ c m rg e (LS u e) (Rz u e)) hwf h
theorem Qz{σ u c m rg e}(H:G9 σ u m e)(hn:1<=e.nn):F8 σ u c m rg e 225 (Cs u e) (Nz u e):=by
 obtain⟨hu,hs,hb,hm,htx,h0,h1,hwf⟩:=H;have hlt:=yv u e;by_cases hi:iK u e<0
 ·skip
  have h:=nT (BJ (σ++[.dead,.dead,.dead,.dead,.dead]) u c m rg e hu aa aa hi (show gJ (σ++[.dead,.dead,.dead,.dead,.dead]) from jz hwf 5));exact Lc (Q:=Fk σ c m rg e (Cs u e) (Nz u e)) hwf h
 ·obtain⟨i,hi2,hin⟩: ∃i:Nat,iK u e=(i:Int)/\i<u.nt:=⟨(iK u e).toNat,aa,aa⟩;have h:=nT (BI (σ++[.dead,.dead,.dead,.dead,.dead]) u c m rg e hu aa aa (ay h0) i hi2 hin (show gJ (σ++[.dead,.dead,.dead,.dead,.dead]) from jz hwf 5));exact Lc (Q:=Fk σ c m rg e (Cs u e) (Nz u e)) hwf h
theorem H9{σ:List aZ}{u:Use}{c:Option Nat}{m:Nat}{rg:Nat->Row}{e:Ev}{q:Int}{k:Nat}{E:Int}{U:Use}(hK:e.Kind=q)(hd:F8 σ u c m rg e k E U)(hf:(cx q).2.2.2.2=k:=by exact rfl)(he:e.Kind=q->rE u m rg e=E:=by intro h;simp[rE,h])(hy:e.Kind=q->Fo u e=U:=by intro h;simp[Fo,h]):F8 σ u c m rg e (cx e.Kind).2.2.2.2 (rE u m rg e) (Fo u e):=by
 rw[he hK,hy hK,hK,hf];exact hd
theorem afP{σ u c m rg e}(hu:br u)(hs:u.P.ns<=999)(hb:e.nn<=1000)(hm:m<1000000000)(htx: ∀i,i<e.nt->(e.gt i).size<4294967281)(h0:σ[0]? =some (.tab 0 dG))(h1:σ[1]? =some (.loc 1))(hwf:gJ σ)(hok:okS e=true):
  CS prog (cx e.Kind).2.2.2.2 [.ptr (σ.length+7) 0] (σ++(u.blks++[.var (bm (u.own σ.length) c m rg e)])) (fun r σ' X=>X=[σ.length,σ.length+1,σ.length+2,σ.length+3,σ.length+4,σ.length+5,σ.length+6]/\evQ σ (rE u m rg e) (bm ((Fo u e).cells (Fo u e).aX) c m rg e) r σ'):=by
 have H:G9 σ u m e:=⟨hu,hs,hb,hm,htx,h0,h1,hwf⟩;suffices hh:F8 σ u c m rg e (cx e.Kind).2.2.2.2 (rE u m rg e) (Fo u e) from hh
 have hk:=ado hok;rw[xS] at hk;obtain⟨hx,hn⟩:=RU hok;have hcs:e.Kind=40\/e.Kind=41\/e.Kind=42\/e.Kind=43\/e.Kind=44\/e.Kind=45\/e.Kind=46\/e.Kind=47\/e.Kind=48\/e.Kind=49\/e.Kind=50\/e.Kind=51\/e.Kind=52\/e.Kind=53\/e.Kind=54\/e.Kind=55\/e.Kind=56\/e.Kind=57\/e.Kind=58\/e.Kind=59:=aa;rcases hcs with hK|hK|hK|hK|hK|hK|hK|hK|hK|hK|hK|hK|hK|hK|hK|hK|hK|hK|hK|hK
 ·exact H9 hK (GY H jd)
 ·exact H9 hK (GX H jd)
 ·exact H9 hK (Kf H jd (by rw[hK] at hx;simp[cx] at hx;omega))
 ·exact H9 hK (YB H jd)
 ·exact H9 hK (Cz H jd)
 ·exact H9 hK (YC H jd)
 ·exact H9 hK (UM H jd)
 ·exact H9 hK (GW H jd)
 ·exact H9 hK (UN H jd)
 ·exact H9 hK (adY H jd)
 ·exact H9 hK (aa1 H jd)
 ·exact H9 hK (On H jd)
 ·exact H9 hK (aa3 H jd)
 ·exact H9 hK (ad0 H jd)
 ·exact H9 hK (aa4 H jd)
 ·exact H9 hK (adZ H jd)
 ·exact H9 hK (aa5 H jd)
 ·exact H9 hK (Oo H jd)
 ·exact H9 hK (aa2 H jd)
 ·exact H9 hK (Qz H jd)
variable (σ : List aZ)
def en:Use:=⟨⟨0,fun _=>ej.zero,0,fun _=>⟨0,0,0,false,⟨0,0⟩⟩,0,fun _=>⟨0,.empty,⟨0,0⟩,⟨0,0⟩⟩,0,0,fun _=>⟨0,0,0,false,⟨0,0⟩⟩,0,fun _=>⟨0,0,0,0,⟨0,0⟩⟩⟩,0,fun _=>⟨0,0,0,0,0,fun _=>⟨0,0⟩⟩,0,fun _=>⟨0,0,0,0⟩,0,fun _=>⟨0,0,⟨0,0⟩,⟨0,0⟩⟩,0,fun _=>cT.zero,0,0,fun _=>⟨0,0,⟨0,0⟩⟩,0,fun _=>fb,0,fun _=>⟨0,0⟩,0,fun _=>⟨0,0,0⟩,0⟩
structure s8(u:Use)(m:Nat)(e:Ev):Prop where
 use:br u
 ns:u.P.ns<=999
 nn:e.nn<=1000
 m:m<1000000000
 tx: ∀i,i<e.nt->(e.gt i).size<4294967281
 nt:e.nt<=1000
noncomputable def IY(u:Use)(e:Ev):Use:= { Fo u e with Changed:=e.Day }
noncomputable def gK(u:Use)(m:Nat)(rg:Nat->Row)(e:Ev):Int:=if okB e=false then 1 else if e.Day<u.Changed then 5 else if 1048575<e.Day then 2 else rE u m rg e
noncomputable def dx(u:Use)(m:Nat)(rg:Nat->Row)(e:Ev):Use×Int:=if gK u m rg e≠0 then(en,gK u m rg e) else(IY u e,0)
theorem Dp{σ τ}(h:gJ σ)(ht: ∀x∈τ,∀X,bP X x=x):gJ (σ++τ):=fun X hX=>by
 rw[List.map_append,h X (fun b hb=>ai)];congr 1
 exact(List.map_congr_left fun x hx=>ht x hx X).trans (List.map_id _)
theorem ab4{e}(h:okB e=true):okS e=true:=by grind [okB]
theorem II(u c m rg e)(hu:s8 u m e)(hok:okS e=false):ak prog 30 [.agg (u.cells u.aX),.d (SL c 3 Row.enc m rg),.agg (e.enc.map .d)] σ (.cj [.agg (en.cells en.aX),.d (I 1)]):=by
 have hb:okB e=false:=by grind [okB]
 have hk:kdR e=kd0:=if_neg ai;have g1:=hu.nn;have hfc: ∀kp:List aZ,ak prog 66 [.agg (e.enc.map .d)] kp (.cj [kd0,.d (B false)]):=fun kp=>by have h:=uq kp e aa;grind
 refine ak.bt func30 ?_;refine az.mk (hfc _) (sm ?_);refine cn [1,3,5,6,8] rfl ?_ ?_<;>intro c0 d0<;>try simp at d0
 ·refine wA ?_;simp[go_sem,en,bw,Go.aI.aK]
theorem IH(u c m rg e)(hu:s8 u m e)(h0:σ[0]? =some (.tab 0 dG))(h1:σ[1]? =some (.loc 1))(hok:okS e=true):ak prog 30 [.agg (u.cells u.aX),.d (SL c 3 Row.enc m rg),.agg (e.enc.map .d)] σ (.cj [.agg ((dx u m rg e).1.cells (dx u m rg e).1.aX),.d (I (dx u m rg e).2)]):=by
 have hk:kdR e=kdF (.i e.Kind):=if_pos hok;have g1:=hu.nn;have hfc: ∀kp:List aZ,ak prog 66 [.agg (e.enc.map .d)] kp (.cj [kdF (.i e.Kind),.d (B (okB e))]):=fun kp=>by have h:=uq kp e aa;grind
 refine ak.bd true func30 fun hwf=> ?_;simp[go_sem];refine az.mk (hfc _) ?_;simp[go_sem,ab9];refine dH [1,3,5,6,8] ?_ ?_<;>intro d0
 ·have hz:gK u m rg e=1:=if_pos ai;have hr:dx u m rg e=(en,1):=by grind [dx]
  refine wA ?_;rw[hr];simp[go_sem,en,bw,Go.aI.aK]
 ·have hq0: ¬okB e=false:=ai;refine gc [1,3,5,6,8] ?_ ?_<;>intro d1
  ·have hz:gK u m rg e=5:=by grind [gK]
   have hr:dx u m rg e=(en,5):=by grind [dx]
   refine wA ?_;rw[hr];simp[go_sem,en,bw,Go.aI.aK]
  ·refine gc [1,3,5,6,8] ?_ ?_<;>intro d2
   ·have hz:gK u m rg e=2:=by grind [gK]
    have hr:dx u m rg e=(en,2):=by grind [dx]
    refine wA ?_;rw[hr];simp[go_sem,en,bw,Go.aI.aK]
   ·have hz:gK u m rg e=rE u m rg e:=by grind [gK]
    simp[go_sem];apply ahl.KL 5 1 51 (.agg (u.own (σ.length+7))) ([.var (u.own (σ.length+7)),.var (u.own (σ.length+7)),.dead,.arr 6 u.P.nc (fun i=>Rule.enc (u.P.gc i)),.arr 6 u.P.np (fun i=>dF.enc (u.P.gp i)),.arr 6 u.P.na (fun i=>fM.enc (u.P.ga i)),.arr 5 u.nb (fun i=>Bx.enc (u.gb i)),.arr 4 u.nf (fun i=>l4.enc (u.gf i)),.arr 8 u.nt (fun i=>ek.enc (u.gt i)),.arr 3 u.nw (fun i=>ke.enc (u.gw i))]) T.mixed aD
    ·intro τ K hK;simp[go_sem];exact hK _ _
    ·simp[go_sem];have h:=w5 (σ++[.var (u.cells u.aX),.var (e.enc.map .d),.var [.d (.v (.slice none 0 0)),.d (.v (.slice none 0 0)),.d (.v (.slice none 0 0)),.d (I 0),.d (.v (.slice none 0 0)),.d (.v (.slice none 0 0)),.d (.v (.slice none 0 0)),.d (.v (.slice none 0 0)),.d (.v (.slice none 0 0)),.d (.v (.slice none 0 0)),.d (I 0),.d (.v (.slice none 0 0)),.d (.v (.slice none 0 0)),.d (.v (.slice none 0 0)),.d (.v (.slice none 0 0)),.d (I 0)],.var [.d (I (cx e.Kind).1),.d (I (cx e.Kind).2.1),.d (B (cx e.Kind).2.2.1),.d (I (cx e.Kind).2.2.2.1),.d (Fn0 (cx e.Kind).2.2.2.2)]]) u hu.use;refine CS.mono vZ ?_;rintro r σ' X ⟨rfl,rfl,rfl⟩;simp[go_sem]
    intro K hK;refine wD hK ?_;refine lY (σ.length+4) AD Hg ?_;refine lY (σ.length+5) AD Hg ?_;refine wM ?_;have h:=afP (σ:=σ++[.var (u.cells u.aX),.var (e.enc.map .d),.var [.d (.v (.slice none 0 0)),.d (.v (.slice none 0 0)),.d (.v (.slice none 0 0)),.d (I 0),.d (.v (.slice none 0 0)),.d (.v (.slice none 0 0)),.d (.v (.slice none 0 0)),.d (.v (.slice none 0 0)),.d (.v (.slice none 0 0)),.d (.v (.slice none 0 0)),.d (I 0),.d (.v (.slice none 0 0)),.d (.v (.slice none 0 0)),.d (.v (.slice none 0 0)),.d (.v (.slice none 0 0)),.d (I 0)],.var [.d (I (cx e.Kind).1),.d (I (cx e.Kind).2.1),.d (B (cx e.Kind).2.2.1),.d (I (cx e.Kind).2.2.2.1),.d (Fn0 (cx e.Kind).2.2.2.2)],.dead,.dead,.dead]) (u:=u) (c:=c) (m:=m) (rg:=rg) (e:=e) hu.use hu.ns hu.nn hu.m hu.tx (ay h0) (ay h1) (Dp hwf (by intro x hx X;simp only[List.mem_cons,List.not_mem_nil,or_false] at hx;rcases hx with rfl|rfl|rfl|rfl|rfl|rfl|rfl<;>simp[go_sem])) hok;simp[go_sem,Nat.add_assoc] at h;refine az.gen h ?_;rintro r σ' X ⟨rfl,rfl,cs,rfl,hcs⟩;refine wR ?_;refine gc [5,6,10,11] ?_ ?_<;>intro d3
    ·have hk3:rE u m rg e≠0:=ai;have hr:dx u m rg e=(en,rE u m rg e):=by grind [dx]
     refine wA ?_;rw[hr];simp[go_sem,en,bw,Go.aI.aK]
    ·have hk3:rE u m rg e=0:=ai;have hr:dx u m rg e=(IY u e,0):=by grind [dx]
     obtain rfl:=hcs hk3;refine wA ?_;rw[hr];simp[go_sem,IY]
theorem AH(u c m rg e)(hu:s8 u m e)(h0:σ[0]? =some (.tab 0 dG))(h1:σ[1]? =some (.loc 1)):ak prog 30 [.agg (u.cells u.aX),.d (SL c 3 Row.enc m rg),.agg (e.enc.map .d)] σ (.cj [.agg ((dx u m rg e).1.cells (dx u m rg e).1.aX),.d (I (dx u m rg e).2)]):=by
 cases hok:okS e with
 |true=>exact IH σ u c m rg e hu h0 h1 hok
 |false=>
  have hb:okB e=false:=by grind [okB]
  have hz:gK u m rg e=1:=if_pos hb;have hr:dx u m rg e=(en,1):=by grind [dx]
  simp_all [II]
noncomputable def ir(u:Use)(m:Nat)(rg:Nat->Row)(e:Ev):Use×Int:=if ck u=false\/bC m rg≠0 then(en,1) else dx u m rg e
theorem om(u c m rg e)(hu:s8 u m e)(h0:σ[0]? =some (.tab 0 dG))(h1:σ[1]? =some (.loc 1)):ak prog 8 [.agg (u.cells u.aX),.d (SL c 3 Row.enc m rg),.agg (e.enc.map .d)] σ (.cj [.agg ((ir u m rg e).1.cells (ir u m rg e).1.aX),.d (I (ir u m rg e).2)]):=by
 refine ak.bt func8 ?_;refine az.mk (mE _ u hu.use (ay h0) (ay h1)) (sm ?_);refine cE.mk' (.d (I (bC m rg))) (fun _=>nq _ c m rg hu.m) (gc [1,3,5,6] ?_ ?_)<;>intro d0
 ·have hr:ir u m rg e=(en,1):=if_pos ai;refine wA ?_;rw[hr];simp[go_sem,en,bw,Go.aI.aK]
 ·have hr:ir u m rg e=dx u m rg e:=if_neg ai;simp[go_sem];refine az.mk (AH _ u c m rg e hu (ay h0) (ay h1)) (sm ?_);exact sy hr
theorem PB(s y:Int):ak prog 16 [.d (I s),.d (I y)] σ (.cj [.agg ((if gD s 1 32=true/\gD y 0 200=true then { en with P:= { en.P with dE:=y },gq:=s } else en).cells (en.aX)),.d (I (if gD s 1 32=true/\gD y 0 200=true then 0 else 2))]):=by
 refine ak.bt func16 ?_;refine az.mk (kJ _ s 1 32) (sm ?_);refine cE.mk' (.d (B (gD y 0 200))) (fun _=>kJ _ y 0 200) (gc [0,1,4] ?_ ?_)<;>intro d0
 ·have hz: ¬(gD s 1 32=true/\gD y 0 200=true):=ai;refine wA ?_;rw[if_neg hz,if_neg hz];simp[go_sem,en,bw,Go.aI.aK]
 ·have hz:gD s 1 32=true/\gD y 0 200=true:=ai;refine wA ?_;rw[if_pos hz,if_pos hz];simp[go_sem,en,bw,Go.aI.aK]
theorem IV(u k)(hu:br u)(h0:σ[0]? =some (.tab 0 dG))(h1:σ[1]? =some (.loc 1)):ak prog 19 [.agg (u.cells u.aX),.d (I k)] σ (.cj [.agg ((if ck u=false\/hZ u.nb u.gb k<0 then⟨0,0⟩ else aM u k).enc.map .d),.d (I (if ck u=false then 1 else if hZ u.nb u.gb k<0 then 7 else 0))]):=by
 have b1:=hu.nb;have b3:=hu.nv;refine ak.bt func19 ?_;refine az.mk (mE _ u hu (ay h0) (ay h1)) (gc [1,2,4] ?_ ?_)<;>intro d0
 ·have hz:ck u=false:=ai;simp[go_sem];rw[if_pos (.inl hz),if_pos hz];exact af sc
 ·have hz0: ¬ck u=false:=ai;simp[go_sem];refine az.mk (yO _ u k aa) (gc [1,2,4] ?_ ?_)<;>intro d1
  ·have hz:hZ u.nb u.gb k<0:=aa;simp[go_sem];rw[if_pos (.inr hz),if_neg hz0,if_pos hz];exact af sc
  ·have hz: ¬hZ u.nb u.gb k<0:=aa;simp[go_sem];refine az.mk (iV _ u k aa) (sm ?_);rw[if_neg ai,if_neg hz0,if_neg hz];exact af sc
def oU(n:Nat)(p:u5):Bool:=((lst p.ns p.gs).all fun s=>decide (s.np<=20))&&decide (n<=30)&&decide (p.ns<=30)&&decide (p.nc<=20)&&vj p.np p.gp&&decide (p.na<=20)&&decide (p.nm<=20)
def nY(n:Nat)(g:Nat->Bx):Bool:=((lst n g).all fun b=>decide (b.nc<=40))&&decide (n<=20)
def iU(m:Nat)(u:Use):Bool:=((lst u.nt u.gt).all NX)&&oU m u.P&&nY u.nb u.gb&&decide (u.nf<=20)&&decide (u.nv<=60)&&decide (u.nr<=40)&&decide (u.nk<=40)&&decide (u.nt<=20)&&decide (u.nl<=100)&&decide (u.nw<=100)
structure KT(u:Use):Prop where
 ns:u.P.ns<=9223372036854775807
 np:u.P.np<=9223372036854775807
 nb:u.nb<=9223372036854775807
 nt:u.nt<=9223372036854775807
 bu: ∀i,i<u.nt->(u.gt i).nu<=9223372036854775807
 bb: ∀i,i<u.nt->(u.gt i).nb<=9223372036854775807
theorem oG(a b:Nat):decide ((a:Int)<=(b:Int))=decide (a<=b):=by rw[Bool.eq_iff_iff];simp
theorem Ye(c n g)(hn:n<=9223372036854775807):ak prog 56 [.d (SL c 6 dF.enc n g)] σ (.d (B (vj n g))):=by
 refine ak.bt func56 ?_;refine dm (α:=Nat) true [0,5,6,7] (fun i=>[(7,.d (I i))]) (fun i=>_) (fun i=>i<=n/\∀q,q<i->(g q).Name.size<=200) (fun i=>n-i) 0 ?_;rintro i ⟨hi,hx⟩;refine gc [0,5,6,7] ?_ ?_<;>intro d0
 ·refine wB ?_;refine dH [0,5,6,7] ?_ ?_<;>intro d1
  ·simp[go_sem];rw[T0 d0 aa];exact af sc
  ·refine wC ?_;refine bF (i+1) ⟨aa,fun q hq=>abH⟩ (h:=aR)
 ·obtain rfl:i=n:=by omega
  refine wF ?_;exact sy (PW hx)
theorem Jr(c n g p)(hs:p.ns<=9223372036854775807)(hq:p.np<=9223372036854775807):ak prog 23 [.d (SL c 3 Row.enc n g),.agg (p.enc.map .d)] σ (.d (B (oU n p))):=by
 refine ak.bt func23 ?_;refine dm (α:=Nat) true [0,3,8,9,10] (fun i=>[(10,.d (I i))]) (fun i=>_) (fun i=>i<=p.ns/\∀q,q<i->(p.gs q).np<=20) (fun i=>p.ns-i) 0 ?_;rintro i ⟨hi,hx⟩;refine gc [0,3,8,9,10] ?_ ?_<;>intro d0
 ·refine wB ?_;refine dH [0,3,8,9,10] ?_ ?_<;>intro d1
  ·have hz:oU n p=false:=by
    cases hb:oU n p with
    |false=>rfl
    |true=>
     simp[oU,lst] at hb;have:=hb.1.1.1.1.1.1 i aa;omega
   exact sx hz
  ·refine wC ?_;refine bF (i+1) ⟨aa,fun q hq=>abH⟩ (h:=aR)
 ·have hin:i=p.ns:=aa;refine wF ?_;refine cE.mk (Jv _ none p.nc p.gc) (sm ?_);refine cE.mk (Ye _ none p.np p.gp hq) (sm ?_);refine cE.mk (Ju _ none p.na p.ga) (sm ?_);refine cE.mk ((Jt _ none none p.nm 0 p.gm (fun _=>0)).sub (by simp[go_sem,mY,my,aK])) (sm ?_);refine af ?_;have hz:oU n p=(decide ((n:Int)<=30)&&decide ((p.ns:Int)<=30)&&decide ((p.nc:Int)<=20)&&vj p.np p.gp&&decide ((p.na:Int)<=20)&&decide ((p.nm:Int)<=20)):=by
   have h1:((lst p.ns p.gs).all fun s=>decide (s.np<=20))=true:=by simp[lst];exact fun q hq=>hx q aa
   have e: ∀(a:Nat) (b:Nat),decide ((a:Int)<=(b:Int))=decide (a<=b):=fun a b=>by rw[Bool.eq_iff_iff];simp
   have e1:=e n 30;have e2:=e p.ns 30;have e3:=e p.nc 20;have e4:=e p.na 20;have e5:=e p.nm 20;simp only[Int.cast_ofNat_Int] at e1 e2 e3 e4 e5;unfold oU;rw[h1,e1,e2,e3,e4,e5];rfl
  rw[hz];simp[go_sem]
theorem Jq(c n g)(hn:n<=9223372036854775807):ak prog 24 [.d (SL c 5 Bx.enc n g)] σ (.d (B (nY n g))):=by
 refine ak.bt func24 ?_;refine dm (α:=Nat) true [0,5,6,7] (fun i=>[(7,.d (I i))]) (fun i=>_) (fun i=>i<=n/\∀q,q<i->(g q).nc<=40) (fun i=>n-i) 0 ?_;rintro i ⟨hi,hx⟩;refine gc [0,5,6,7] ?_ ?_<;>intro d0
 ·have hi0:i<n:=aa;simp[go_sem,hi0];refine dH [0,5,6,7] ?_ ?_<;>intro d1
  ·have hz:nY n g=false:=by
    cases hb:nY n g with
    |false=>rfl
    |true=>
     simp[nY,lst] at hb;have:=hb.1 i hi0;omega
   exact sx hz
  ·refine wC ?_;refine bF (i+1) ⟨aa,gi hx aa⟩ (h:=aR)
 ·have hin:i=n:=aa;refine wN ?_;have hz:nY n g=decide ((n:Int)<=20):=by
   have h1:((lst n g).all fun b=>decide (b.nc<=40))=true:=by simp[lst];exact fun q hq=>hx q aa
   unfold nY;rw[h1,Bool.true_and];exact(oG n 20).symm
  rw[hz];simp[go_sem]
theorem Jn(c n g):ak prog 25 [.d (SL c 6 hY.enc n g)] σ (.d (B (decide (n<=60)))):=by
 refine ak.bt func25 ?_;rw[←oG];exact af sc
theorem Jm(c n g):ak prog 26 [.d (SL c 7 cT.enc n g)] σ (.d (B (decide (n<=40)))):=by
 refine ak.bt func26 ?_;rw[←oG];exact af sc
theorem Jl(c n g):ak prog 27 [.d (SL c 4 ju.enc n g)] σ (.d (B (decide (n<=40)))):=by
 refine ak.bt func27 ?_;rw[←oG];exact af sc
theorem xn(u c m rg)(hu:KT u):ak prog 6 [.agg (u.cells u.aX),.d (SL c 3 Row.enc m rg)] σ (.d (B (iU m u))):=by
 have b1:=hu.nt;refine ak.bt func6 ?_;refine dm (α:=Nat) true [1,2,8,9,10] (fun i=>[(10,.d (I i))]) (fun i=>_) (fun i=>i<=u.nt/\∀q,q<i->NX (u.gt q)=true) (fun i=>u.nt-i) 0 ?_;rintro i ⟨hi,hx⟩;refine gc [1,2,8,9,10] ?_ ?_<;>intro d0
 ·have hi0:i<u.nt:=aa;simp[go_sem,hi0];refine az.mk (Jk _ (u.gt i) (hu.bu i hi0) (hu.bb i hi0)) ?_;refine gc [1,2,8,9,10] ?_ ?_<;>intro d1
  ·have hz:iU m u=false:=by
    cases hb:iU m u with
    |false=>rfl
    |true=>
     simp only[iU,Bool.and_eq_true] at hb;have:=List.all_eq_true.1 hb.1.1.1.1.1.1.1.1.1 (u.gt i) (List.mem_map.2 ⟨i,by simpa using hi0,rfl⟩);simp[this] at d1
   exact sx hz
  ·have hb1:NX (u.gt i)=true:=ku;refine wC ?_;refine bF (i+1) ⟨aa,gi hx hb1⟩ (h:=aR)
 ·obtain rfl:i=u.nt:=by omega
  refine wF ?_;refine az.mk (Jr _ c m rg u.P hu.ns hu.np) (sm ?_);refine cE.mk' (.d (B (nY u.nb u.gb))) (fun _=>Jq _ none u.nb u.gb hu.nb) (sm ?_);refine cE.mk' (.d (B (decide (u.nv<=60)))) (fun _=>Jn _ none u.nv u.gv) (sm ?_);refine cE.mk' (.d (B (decide (u.nr<=40)))) (fun _=>Jm _ none u.nr u.gr) (sm ?_);refine cE.mk' (.d (B (decide (u.nk<=40)))) (fun _=>Jl _ none u.nk u.gk) (sm ?_);refine af ?_;have h1:(lst u.nt u.gt).all NX=true:=List.all_eq_true.2 fun b hb=>by
   obtain⟨q,hq,rfl⟩:=List.mem_map.1 hb;exact hx q (by simpa using hq)
  have hz:iU m u=(oU m u.P&&nY u.nb u.gb&&decide ((u.nf:Int)<=20)&&decide (u.nv<=60)&&decide (u.nr<=40)&&decide (u.nk<=40)&&decide ((u.nt:Int)<=20)&&decide ((u.nl:Int)<=100)&&decide ((u.nw:Int)<=100)):=by
   unfold iU;rw[h1,Bool.true_and,←oG u.nf 20,←oG u.nt 20,←oG u.nl 100,←oG u.nw 100];rfl
  rw[hz];simp[go_sem]
theorem Og(c c' n m f g)(hn:n<1000000000)(hm:m<1000000000):ak prog 46 [.d (SL c 6 hY.enc n f),.d (SL c' 6 hY.enc m g)] σ (.d (B (qH (lst n f) (lst m g)))):=by
 refine ak.bt func46 ?_;refine dH [0,1] ?_ ?_<;>intro d0
 ·have hz:qH (lst n f) (lst m g)=false:=oD aa;exact sx hz
 ·simp[go_sem];refine dm (α:=Nat) true [0,1,12,13] (fun i=>[(13,.d (I i))]) (fun i=>_) (fun i=>i<=n/\∀q,q<i->f q=g q) (fun i=>n-i) 0 ?_;rintro i ⟨hi,hx⟩;refine gc [0,1,12,13] ?_ ?_<;>intro d1
  ·simp[go_sem];refine T.dr 9 fun K hK=>sm ?_;refine wG hK ?_;refine go true (sm ?_);refine km [0,1,12,13] ?_ ?_<;>intro c2 d2
   ·have hz:qH (lst n f) (lst m g)=false:=sN (i:=i) aa aa (fun h=>by simp[h] at d2);exact sx hz
   ·have heq:f i=g i:=by
     revert c2;rcases f i with⟨_,_,⟨_,_⟩,⟨_,_⟩⟩;rcases g i with⟨_,_,⟨_,_⟩,⟨_,_⟩⟩;simp<;>(intros;simp_all)
    refine wC ?_;refine bF (i+1) ⟨aa,fun q hq=>by rcases Nat.lt_or_eq_of_le (Nat.le_of_lt_succ hq) with h|h;exact hx q h;rw[h];exact heq⟩ (h:=aR)
  ·have hz:qH (lst n f) (lst m g)=true:=oC aa (fun q hq=>hx q aa);refine wF ?_;exact sy hz
theorem Bp(c c' n m f g)(hn:n<1000000000)(hm:m<1000000000):ak prog 21 [.d (SL c 3 ke.enc n f),.d (SL c' 3 ke.enc m g)] σ (.d (B (qH (lst n f) (lst m g)))):=by
 refine ak.bt func21 ?_;refine dH [0,1] ?_ ?_<;>intro d0
 ·have hz:qH (lst n f) (lst m g)=false:=oD aa;exact sx hz
 ·simp[go_sem];refine dm (α:=Nat) true [0,1,12,13] (fun i=>[(13,.d (I i))]) (fun i=>_) (fun i=>i<=n/\∀q,q<i->f q=g q) (fun i=>n-i) 0 ?_;rintro i ⟨hi,hx⟩;refine gc [0,1,12,13] ?_ ?_<;>intro d1
  ·simp[go_sem];refine T.dr 9 fun K hK=>sm ?_;refine wG hK ?_;refine go true (sm ?_);refine km [0,1,12,13] ?_ ?_<;>intro c2 d2
   ·have hz:qH (lst n f) (lst m g)=false:=sN (i:=i) aa aa (fun h=>by simp[h] at d2);exact sx hz
   ·have heq:f i=g i:=by
     revert c2;rcases f i with⟨_,_,_⟩;rcases g i with⟨_,_,_⟩;simp<;>(intros;simp_all)
    refine wC ?_;refine bF (i+1) ⟨aa,fun q hq=>by rcases Nat.lt_or_eq_of_le (Nat.le_of_lt_succ hq) with h|h;exact hx q h;rw[h];exact heq⟩ (h:=aR)
  ·have hz:qH (lst n f) (lst m g)=true:=oC aa (fun q hq=>hx q aa);refine wF ?_;exact sy hz
def iZ(n:Nat)(g:Nat->Ev):Bool:=((lst n g).all fun e=>decide (e.nn<=40)&&decide (e.nt<=4)&&(lst e.nt e.gt).all fun s=>decide (s.size<=200))&&decide (n<=40)
noncomputable def eC(m:Nat)(rg:Nat->Row)(g:Nat->Ev)(u:Use):Nat->Use
 |0=>u
 |k+1=>(dx (eC m rg g u k) m rg (g k)).1
noncomputable def gI(m:Nat)(rg:Nat->Row)(g:Nat->Ev)(u:Use)(i:Nat):Int:=(dx (eC m rg g u i) m rg (g i)).2
noncomputable def eu(m:Nat)(rg:Nat->Row)(g:Nat->Ev)(u:Use)(i:Nat):Nat->Int×Int
 |0=>(-1,0)
 |k+1=>if gI m rg g u i≠0 then((i:Int),gI m rg g u i) else eu m rg g u (i+1) k
theorem DW{m rg g u i n}(h:i<n):eu m rg g u i (n-i)=if gI m rg g u i≠0 then((i:Int),gI m rg g u i) else eu m rg g u (i+1) (n-(i+1)):=by
 obtain⟨k,hk⟩: ∃k,n-i=k+1:=⟨n-i-1,aa⟩;rw[hk,eu,show n-(i+1)=k by omega]
noncomputable def od(u:Use)(m:Nat)(rg:Nat->Row)(n:Nat)(g:Nat->Ev):Use×Int×Int:=if ck u=false\/bC m rg≠0 then(en,-1,1) else if(eu m rg g u 0 n).2≠0 then(en,eu m rg g u 0 n) else(eC m rg g u n,-1,0)
theorem DA(u c m rg c' n g)(hu:br u)(hm:m<1000000000)(hn:n<1000000000)(hst:ck u=true->∀i,i<n->(∀q,q<i->gI m rg g u q=0)->s8 (eC m rg g u i) m (g i))(h0:σ[0]? =some (.tab 0 dG))(h1:σ[1]? =some (.loc 1)):ak prog 14 [.agg (u.cells u.aX),.d (SL c 3 Row.enc m rg),.d (SL c' 5 Ev.enc n g)] σ (.cj [.agg ((od u m rg n g).1.cells (od u m rg n g).1.aX),.d (I (od u m rg n g).2.1),.d (I (od u m rg n g).2.2)]):=by
 refine ak.be func14 fun hwf=> ?_;refine wP ?_;refine aq ?_;refine aj fun K hK=>sm ?_;refine az.mk (mE _ u hu (ay h0) (ay h1)) (sm ?_);refine cE.mk' (.d (I (bC m rg))) (fun _=>nq _ c m rg hm) (sm ?_);refine hK _ ?_;refine gF [1,2,3,6,21] ?_;refine fL ?_ ?_<;>intro c0 d0
 ·have hr:od u m rg n g=(en,-1,1):=if_pos l5;refine aj fun K hK=> ?_;simp[go_sem,c0];refine hK _ ?_;refine af ?_;rw[hr];simp[go_sem,en,bw,Go.aI.aK]
 ·have hq0: ¬(ck u=false\/bC m rg≠0):=l5;have hrt:ck u=true:=by simpa using fun h=>hq0 (.inl h)
  have hst:=hst hrt;refine aJ ?_;refine aj fun K hK=> ?_;simp[go_sem,d0];have h:=w5 (σ++[.var (u.cells u.aX),.var [.d (.v (.slice none 0 0)),.d (.v (.slice none 0 0)),.d (.v (.slice none 0 0)),.d (I 0),.d (.v (.slice none 0 0)),.d (.v (.slice none 0 0)),.d (.v (.slice none 0 0)),.d (.v (.slice none 0 0)),.d (.v (.slice none 0 0)),.d (.v (.slice none 0 0)),.d (I 0),.d (.v (.slice none 0 0)),.d (.v (.slice none 0 0)),.d (.v (.slice none 0 0)),.d (.v (.slice none 0 0)),.d (I 0)]]) u hu;simp[go_sem,Use.own,Use.blks,Nat.add_assoc] at h;refine az.gen h ?_;rintro r σ' X ⟨rfl,rfl,rfl⟩;refine wD hK ?_;refine aq ?_;refine lY (σ.length+2) AD Hg ?_;refine lY (σ.length+3) AD Hg ?_;refine aF hwf (σ.length+5) ?_;refine aF hwf (σ.length+6) ?_;refine aF hwf (σ.length+7) ?_;refine aF hwf (σ.length+8) ?_;refine aF hwf (σ.length+9) ?_;refine aF hwf (σ.length+10) ?_;refine aF hwf (σ.length+11) ?_;refine wE ?_;refine aB ?_;refine ba [1,6,9,25,26,27] eE ?_;refine bB (α:=Nat) (fun i=>[(27,.d (I i))]) (fun i=>σ++[.var (u.cells u.aX),.var [.d (.v (.slice none 0 0)),.d (.v (.slice none 0 0)),.d (.v (.slice none 0 0)),.d (I 0),.d (.v (.slice none 0 0)),.d (.v (.slice none 0 0)),.d (.v (.slice none 0 0)),.d (.v (.slice none 0 0)),.d (.v (.slice none 0 0)),.d (.v (.slice none 0 0)),.d (I 0),.d (.v (.slice none 0 0)),.d (.v (.slice none 0 0)),.d (.v (.slice none 0 0)),.d (.v (.slice none 0 0)),.d (I 0)],.dead,.dead,.dead,.dead,.dead,.dead,.dead,.dead,.dead,.dead,.var ((eC m rg g u i).cells (eC m rg g u i).aX)]) (fun i=>i<=n/\eu m rg g u 0 n=eu m rg g u i (n-i)/\∀q,q<i->gI m rg g u q=0) (fun i=>n-i) 0 au (rfl) an ?_;rintro i ⟨hi,hx,hq9⟩;refine wE ?_;refine aq ?_;refine gF [1,6,9,25,26,27,28] ?_;refine ko ?_ ?_<;>intro d1
  ·have hi1:i<n:=aa;have hrs:(dx (eC m rg g u i) m rg (g i)).1=eC m rg g u (i+1):=rfl;have hgs:=DW (m:=m) (rg:=rg) (g:=g) (u:=u) hi1;refine aJ ?_;refine aq ?_;refine aB ?_;refine aj fun K hK=> ?_;simp[go_sem,d1];refine wY hK fun K hK=> ?_;refine az.mk (AH _ (eC m rg g u i) c m rg (g i) (hst i hi1 hq9) (ay h0) (ay h1)) ?_;simp[go_sem,hrs];refine hK _ ?_;refine aq ?_;refine wE ?_;refine gF [1,6,9,10,12,13,25,26,27,40] ?_;refine fL ?_ ?_<;>intro c2 d2
   ·have hk2:gI m rg g u i≠0:=by unfold gI;simpa using d2
    have hgo:eu m rg g u 0 n=((i:Int),gI m rg g u i):=by rw[hx,hgs,if_pos hk2]
    have hr:od u m rg n g=(en,(i:Int),gI m rg g u i):=by unfold od;rw[if_neg hq0,hgo,if_pos hk2]
    refine aj fun K hK=> ?_;simp[go_sem,c2];refine hK _ ?_;refine af ?_;rw[hr];simp[go_sem,en,bw,Go.aI.aK,gI]
   ·have hk2:gI m rg g u i=0:=by unfold gI;simpa using d2
    refine aJ ?_;refine aE fun K hK=> ?_;simp[go_sem,d2];refine hK _ ?_;refine aE fun K hK=> ?_;simp[go_sem];try simp(disch:=omega) only[aS]
    refine hK _ ?_;refine⟨i+1,bp au ((ae au)) iv,⟨aa,by rw[hx,hgs,if_neg (fun h=>h hk2)],gi hq9 hk2⟩,AF⟩
  ·obtain rfl:i=n:=by omega
   have hgo:(eu m rg g u 0 i).2=0:=by rw[hx,Nat.sub_self];rfl
   have hr:od u m rg i g=(eC m rg g u i,-1,0):=by unfold od;rw[if_neg hq0,if_neg (fun h=>h hgo)]
   refine bN ?_;refine wE ?_;exact sy hr
def qe(e:Ev):Bool:=(lst e.nt e.gt).all fun s=>decide (s.size<=200)
def jT(e:Ev):Bool:=decide (e.nn<=40)&&decide (e.nt<=4)&&qe e
theorem nN(n g):iZ n g=true↔(∀i,i<n->jT (g i)=true)/\n<=40:=by
 unfold iZ;simp only[Bool.and_eq_true,List.all_eq_true,decide_eq_true_eq];refine and_congr_left fun _=> ?_;constructor
 ·intro h i hi;have:=h (g i) (List.mem_map.2 ⟨i,ai,rfl⟩);grind [jT,qe]
 ·intro h e he;obtain⟨i,hi,rfl⟩:=List.mem_map.1 he;grind [jT,qe]
theorem H4{n g i}(hi:i<n)(h:jT (g i)=false):iZ n g=false:=by
 grind [nN]
theorem Qo{n g}(h: ∀i,i<n->jT (g i)=true):iZ n g=decide ((n:Int)<=40):=by
 grind [nN]
theorem WD{e i}(hi:i<e.nt)(h:200<(e.gt i).size):jT e=false:=by
 cases hb:jT e with
 |false=>rfl
 |true=>
  unfold jT qe at hb;simp only[Bool.and_eq_true,List.all_eq_true,decide_eq_true_eq] at hb;have:=hb.2 (e.gt i) (List.mem_map.2 ⟨i,ai,rfl⟩);omega
theorem nd(c n g)(hn:n<=9223372036854775807)(ht: ∀i,i<n->(g i).nn<=9223372036854775807/\(g i).nt<=9223372036854775807):ak prog 7 [.d (SL c 5 Ev.enc n g)] σ (.d (B (iZ n g))):=by
 refine ak.bt func7 ?_;refine dm (α:=Nat) true [0,7,8,9] (fun i=>[(9,.d (I i))]) (fun i=>_) (fun i=>i<=n/\∀q,q<i->jT (g q)=true) (fun i=>n-i) 0 ?_;rintro i ⟨hi,hx⟩;refine gc [0,7,8,9] ?_ ?_<;>intro d0
 ·have hi0:i<n:=aa;have ht0:=ht i hi0;simp[go_sem,hi0];refine dH [0,4,7,8,9] ?_ ?_<;>intro d1
  ·have hz:iZ n g=false:=H4 hi0 (by
    grind [jT])
   exact sx hz
  ·have hq1: ¬(40<(g i).nn\/4<(g i).nt):=aa;simp[go_sem];refine dm (α:=Nat) true [0,7,8,9,24,25,26] (fun k=>[(26,.d (I k))]) (fun k=>_) (fun k=>k<=(g i).nt/\∀q,q<k->((g i).gt q).size<=200) (fun k=>(g i).nt-k) 0 ?_;rintro k ⟨hk,hy⟩;refine gc [0,7,8,9,24,25,26] ?_ ?_<;>intro d2
   ·have hk0:k<(g i).nt:=aa;simp[go_sem,hk0];refine dH [0,7,8,9,24,25,26] ?_ ?_<;>intro d3
    ·have hz:iZ n g=false:=H4 hi0 (WD hk0 aa);exact sx hz
    ·refine wC ?_;refine bF (k+1) ⟨aa,gi hy aa⟩ (h:=aR)
   ·have hev:jT (g i)=true:=by
     unfold jT qe;simp only[Bool.and_eq_true,List.all_eq_true,decide_eq_true_eq];refine⟨⟨aa,aa⟩,fun s hs=> ?_⟩;obtain⟨q,hq,rfl⟩:=List.mem_map.1 hs;grind
    refine wT ?_;refine bF (i+1) ⟨aa,gi hx hev⟩ (h:=aR)
 ·rw[Qo (fun q hq=>hx q aa)];refine wF ?_;exact af sc
theorem ad3(c n g)(hn:n<1000000000):ak prog 33 [.d (SL c 5 Ev.enc n g)] σ (.d (SL none 5 Ev.enc n g)):=by
 refine ak.bd true func33 fun hwf=> ?_;simp[go_sem,-Bool.forall_bool];try intro b1 hb1
 refine fX ?_ ?_<;>intro c0 d0
 ·refine wA ?_;have:=hb1 c0;simp[go_sem,this]
 ·refine wB ?_;refine bg (σ.length) bj aN eS ?_;exact af so
theorem OC(c n g)(hn:n<1000000000):CS prog 33 [.d (SL c 5 Ev.enc n g)] σ (fun r σ' X=>r= .ms σ.length 5 0 n/\σ'=σ++[.arr 5 n fun i=>Ev.enc (g i)]/\X=[]):=by
 refine CS.Ik true func33 fun hwf=> ?_;simp[go_sem,-Bool.forall_bool];try intro b1 hb1
 refine fX ?_ ?_<;>intro c0 d0
 ·simp[go_sem];refine bq 2 5 (fun i=>Ev.enc (g i)) au aN ?_;refine af ?_;obtain rfl:=hb1 c0;simp[go_sem]
 ·refine wB ?_;exact af so
theorem OB(c n g)(hn:n<1000000000):ak prog 35 [.d (SL c 1 encS n g)] σ (.d (SL none 1 encS n g)):=by
 refine ak.bd true func35 fun hwf=> ?_;simp[go_sem,-Bool.forall_bool];try intro b1 hb1
 refine fX ?_ ?_<;>intro c0 d0
 ·refine wA ?_;have:=hb1 c0;simp[go_sem,this]
 ·refine wB ?_;refine bg (σ.length) bj aN eS ?_;exact af so
theorem N9(c c' n m f g)(hn:n<1000000000)(hm:m<1000000000):ak prog 103 [.d (SL c 6 dF.enc n f),.d (SL c' 6 dF.enc m g)] σ (.d (B (qH (lst n f) (lst m g)))):=by
 refine ak.bt func103 ?_;refine dH [0,1] ?_ ?_<;>intro d0
 ·have hz:qH (lst n f) (lst m g)=false:=oD aa;exact sx hz
 ·simp[go_sem];refine dm (α:=Nat) true [0,1,12,13] (fun i=>[(13,.d (I i))]) (fun i=>_) (fun i=>i<=n/\∀q,q<i->f q=g q) (fun i=>n-i) 0 ?_;rintro i ⟨hi,hx⟩;refine gc [0,1,12,13] ?_ ?_<;>intro d1
  ·simp[go_sem];refine T.dr 9 fun K hK=>sm ?_;refine wG hK ?_;refine go true (sm ?_);refine km [0,1,12,13] ?_ ?_<;>intro c2 d2
   ·have hz:qH (lst n f) (lst m g)=false:=sN (i:=i) aa aa (fun h=>ai);exact sx hz
   ·have heq:f i=g i:=by
     revert c2;rcases f i with⟨_,_,⟨_,_⟩,⟨_,_⟩⟩;simp_all
    refine wC ?_;refine bF (i+1) ⟨aa,fun q hq=>ai⟩ (h:=aR)
  ·have hz:qH (lst n f) (lst m g)=true:=oC aa (fun q hq=>hx q aa);refine wF ?_;exact sy hz
theorem Oi(c c' n m f g)(hn:n<1000000000)(hm:m<1000000000):ak prog 104 [.d (SL c 6 fM.enc n f),.d (SL c' 6 fM.enc m g)] σ (.d (B (qH (lst n f) (lst m g)))):=by
 refine ak.bt func104 ?_;refine dH [0,1] ?_ ?_<;>intro d0
 ·have hz:qH (lst n f) (lst m g)=false:=oD aa;exact sx hz
 ·simp[go_sem];refine dm (α:=Nat) true [0,1,12,13] (fun i=>[(13,.d (I i))]) (fun i=>_) (fun i=>i<=n/\∀q,q<i->f q=g q) (fun i=>n-i) 0 ?_;rintro i ⟨hi,hx⟩;refine gc [0,1,12,13] ?_ ?_<;>intro d1
  ·simp[go_sem];refine T.dr 9 fun K hK=>sm ?_;refine wG hK ?_;refine go true (sm ?_);refine km [0,1,12,13] ?_ ?_<;>intro c2 d2
   ·have hz:qH (lst n f) (lst m g)=false:=sN (i:=i) aa aa (fun h=>ai);exact sx hz
   ·have heq:f i=g i:=by
     revert c2;rcases f i with⟨_,_,_,_,⟨_,_⟩⟩;simp_all
    refine wC ?_;refine bF (i+1) ⟨aa,fun q hq=>ai⟩ (h:=aR)
  ·have hz:qH (lst n f) (lst m g)=true:=oC aa (fun q hq=>hx q aa);refine wF ?_;exact sy hz
theorem Oe(c c' n m f g)(hn:n<1000000000)(hm:m<1000000000):ak prog 105 [.d (SL c 6 fu.enc n f),.d (SL c' 6 fu.enc m g)] σ (.d (B (qH (lst n f) (lst m g)))):=by
 refine ak.bt func105 ?_;refine dH [0,1] ?_ ?_<;>intro d0
 ·have hz:qH (lst n f) (lst m g)=false:=oD aa;exact sx hz
 ·simp[go_sem];refine dm (α:=Nat) true [0,1,12,13] (fun i=>[(13,.d (I i))]) (fun i=>_) (fun i=>i<=n/\∀q,q<i->f q=g q) (fun i=>n-i) 0 ?_;rintro i ⟨hi,hx⟩;refine gc [0,1,12,13] ?_ ?_<;>intro d1
  ·simp[go_sem];refine T.dr 9 fun K hK=>sm ?_;refine wG hK ?_;refine go true (sm ?_);refine km [0,1,12,13] ?_ ?_<;>intro c2 d2
   ·have hz:qH (lst n f) (lst m g)=false:=sN (i:=i) aa aa (fun h=>ai);exact sx hz
   ·have heq:f i=g i:=by
     revert c2;rcases f i with⟨_,_,_,_,⟨_,_⟩⟩;simp_all
    refine wC ?_;refine bF (i+1) ⟨aa,fun q hq=>ai⟩ (h:=aR)
  ·have hz:qH (lst n f) (lst m g)=true:=oC aa (fun q hq=>hx q aa);refine wF ?_;exact sy hz
theorem N8(c c' n m f g)(hn:n<1000000000)(hm:m<1000000000):ak prog 47 [.d (SL c 7 cT.enc n f),.d (SL c' 7 cT.enc m g)] σ (.d (B (qH (lst n f) (lst m g)))):=by
 refine ak.bt func47 ?_;refine dH [0,1] ?_ ?_<;>intro d0
 ·have hz:qH (lst n f) (lst m g)=false:=oD aa;exact sx hz
 ·simp[go_sem];refine dm (α:=Nat) true [0,1,12,13] (fun i=>[(13,.d (I i))]) (fun i=>_) (fun i=>i<=n/\∀q,q<i->f q=g q) (fun i=>n-i) 0 ?_;rintro i ⟨hi,hx⟩;refine gc [0,1,12,13] ?_ ?_<;>intro d1
  ·simp[go_sem];refine T.dr 9 fun K hK=>sm ?_;refine wG hK ?_;refine go true (sm ?_);refine km [0,1,12,13] ?_ ?_<;>intro c2 d2
   ·have hz:qH (lst n f) (lst m g)=false:=sN (i:=i) aa aa (fun h=>ai);exact sx hz
   ·have heq:f i=g i:=by
     revert c2;rcases f i with⟨_,_,_,_,_,_,_⟩;simp_all
    refine wC ?_;refine bF (i+1) ⟨aa,fun q hq=>ai⟩ (h:=aR)
  ·have hz:qH (lst n f) (lst m g)=true:=oC aa (fun q hq=>hx q aa);refine wF ?_;exact sy hz
theorem Oh(c c' n m f g)(hn:n<1000000000)(hm:m<1000000000):ak prog 48 [.d (SL c 4 ju.enc n f),.d (SL c' 4 ju.enc m g)] σ (.d (B (qH (lst n f) (lst m g)))):=by
 refine ak.bt func48 ?_;refine dH [0,1] ?_ ?_<;>intro d0
 ·have hz:qH (lst n f) (lst m g)=false:=oD aa;exact sx hz
 ·simp[go_sem];refine dm (α:=Nat) true [0,1,12,13] (fun i=>[(13,.d (I i))]) (fun i=>_) (fun i=>i<=n/\∀q,q<i->f q=g q) (fun i=>n-i) 0 ?_;rintro i ⟨hi,hx⟩;refine gc [0,1,12,13] ?_ ?_<;>intro d1
  ·simp[go_sem];refine T.dr 9 fun K hK=>sm ?_;refine wG hK ?_;refine go true (sm ?_);refine km [0,1,12,13] ?_ ?_<;>intro c2 d2
   ·have hz:qH (lst n f) (lst m g)=false:=sN (i:=i) aa aa (fun h=>ai);exact sx hz
   ·have heq:f i=g i:=by
     revert c2;rcases f i with⟨_,_,⟨_,_⟩⟩;simp_all
    refine wC ?_;refine bF (i+1) ⟨aa,fun q hq=>ai⟩ (h:=aR)
  ·have hz:qH (lst n f) (lst m g)=true:=oC aa (fun q hq=>hx q aa);refine wF ?_;exact sy hz
theorem AX(c n g)(hn:n<1000000000)(hk: ∀i,i<n->(g i).cn=none/\(g i).ct=none/\(g i).nn<1000000000/\(g i).nt<1000000000):ak prog 11 [.d (SL c 5 Ev.enc n g)] σ (.d (SL none 5 Ev.enc n g)):=by
 refine ak.be func11 fun hwf=> ?_;refine wj fun K hK=> ?_;refine az.gen (OC _ c n g hn) ?_;rintro r σ' X ⟨rfl,rfl,rfl⟩;refine wD hK ?_;refine aq ?_;refine wP ?_;refine aB ?_;refine ba [0,7,8] eE ?_;refine bB (α:=Nat) (fun i=>[(8,.d (I i))]) (fun i=>σ++[.arr 5 n (fun q=>Ev.enc (g q))]) (fun i=>i<=n) (fun i=>n-i) 0 au (rfl) an ?_;rintro i hi;refine wP ?_;refine aq ?_;refine gF [0,7,8,9] ?_;refine ko ?_ ?_<;>intro d0
 ·have hi0:i<n:=aa;have hk0:=hk i hi0;refine aJ ?_;refine aq ?_;refine aB ?_;refine aj fun K hK=> ?_;simp[go_sem,d0];refine hK _ ?_;apply Mix.bA 22 [(18,none),(21,none)] [[0,1,4,5,6,7,8,9,10,11,12,13,14,15,16,17],[0,1,2,3,4,5,6,7,8,9,10,11,12,13,14,15,16,17,19,20]] [(.undef,(σ++[.arr 5 n (fun q=>Ev.enc (g q))])),(.undef,(σ++[.arr 5 n (fun q=>Ev.enc (g q))]))] T.mixed aD
  ·intro K hK;simp[go_sem,d0];refine bK.mk (lV _ (g i).cn (g i).nn (g i).gn hk0.2.2.1) ?_;simp[go_sem,d0];refine bK.mk (OB _ (g i).ct (g i).nt (g i).gt hk0.2.2.2) ?_;simp[go_sem,d0];exact hK _ _
  ·refine Mix.aw ?_ (Mix.aw ?_ (Mix.aW))
   ·intro K hK;simp[go_sem,d0];exact hK _ _
   ·intro K hK;simp[go_sem];exact hK _ _
  ·refine Mix.aG ?_ (Mix.aG ?_ (Mix.bn))
   ·simp[go_sem,d0];all_goals first|rfl|(funext q;by_cases h:q=i<;>simp[h,hk0.1,hk0.2.1])|skip
   ·simp[go_sem,d0];all_goals first|rfl|(funext q;by_cases h:q=i<;>simp[h,hk0.1,hk0.2.1])|skip
  intro K hK;refine wD hK ?_;refine aE fun K hK=> ?_;simp[go_sem];try simp(disch:=omega) only[aS]
  refine hK _ ?_;refine⟨i+1,bp au ((ae au)) iv,aa,AF⟩
 ·obtain rfl:i=n:=by omega
  refine bN ?_;refine wE ?_;refine bg (σ.length) bj aN eS ?_;exact af sc
theorem ly(x:ek)(hn:x.nu<1000000000)(hm:x.nb<1000000000):ak prog 32 [.agg (x.enc.map .d)] σ (.agg (x.enc.map .d)):=by
 refine ak.be func32 fun hwf=> ?_;refine wP ?_;apply Mix.cw 10 [(9,none)] [[0,1,2,3,4,5,6,7,8]] [(.undef,(σ++[.var (x.enc.map .d),.var [.d (I 0),.d (I 0),.d (I 0),.d (I 0),.d (I 0),.d (I 0),.d (.v (.slice none 0 0)),.d (.v (.slice none 0 0))]]))] T.mixed aD
 ·intro K hK;refine wB ?_;exact hK _ _
 ·refine Mix.aw ?_ (Mix.aW)
  ·intro K hK;simp[go_sem];exact hK _ _
 ·refine Mix.aG ?_ (Mix.bn)
  ·simp[go_sem];all_goals first|rfl|skip
 intro K hK;refine wD hK ?_;refine wP ?_;exact af sc
structure ahk(p:u5):Prop where
 ns:p.ns=0
 nc:p.nc=0
 np:p.np=0
 y:p.dE=0
 na:p.na=0
 nm:p.nm=0
structure ahD(u:Use):Prop where
 P:ahk u.P
 nb:u.nb=0
 nf:u.nf=0
 nv:u.nv=0
 nr:u.nr=0
 s:u.gq=0
 nk:u.nk=0
 nt:u.nt=0
 nl:u.nl=0
 nw:u.nw=0
 c:u.Changed=0
end Go.Proofs.YthpplckmbbachaaGreatDoor
