/- Lemmas, no conditions. -/
import Derived.Test.YthpplckmbbachaaGreatDoorKB44
import Derived.Test.YthpplckmbbachaaGreatDoorKB45
set_option linter.unusedSimpArgs false
set_option linter.unusedVariables false
set_option maxHeartbeats 8000000
set_option maxRecDepth 100000
namespace Go.Proofs.YthpplckmbbachaaGreatDoor
open Go.aI Go.bI Go.Proofs.Tryz
theorem CS.hide{P:Program}{f:FuncId}{args:List AV}{σ σ':List aZ}{Q:AV->List aZ->List Nat->Prop}(b:Nat){cs:List AV}(hb:σ[b]? =some (.var cs))(hs:σ.set b (.var (cs.map fun _=> .undef))=σ')(h:CS P f args σ' Q):CS P f args σ Q:=by
 subst hs;refine⟨h.1,fun j w vs hS hr=>h.2 j w vs ⟨by simp[hS.len],hS.lt,hS.inj,fun q x hq=> ?_⟩ hr⟩;rw[List.getElem?_set] at hq;split at hq
 ·rename_i e;subst e;split at hq<;>simp at hq;subst hq;obtain⟨o,ho,hB⟩:=hS.blk _ _ hb;refine⟨o,ho,?_⟩;cases o with
  |none=>exact hB
  |some cb=>
   obtain⟨C,t,h1,h2,h3⟩:=hB;refine⟨C,t,h1,K2,fun k hk=> ?_⟩;have e:(cs.map fun _=>AV.undef).getD k .undef= .undef:=by
    rw[List.getD_eq_getElem?_getD,List.getElem?_map];cases cs[k]? <;>rfl
   rw[e];exact .undef _
 ·exact hS.blk q x hq
def nO(u:Use)(e:Ev):Int:=
 if e.Kind=40 then SR u e
 else if e.Kind=41 then SJ u e
 else if e.Kind=42 then Zv u e
 else if e.Kind=43 then(Sh u e).2
 else if e.Kind=44 then S8 u e
 else if e.Kind=45 then RO u e
 else if e.Kind=46 then rD u.P.nm u.P.gm (e.gn 0) e.Day
 else if e.Kind=47 then Wz u e
 else 0
def pgX(u:Use)(e:Ev):Use:= { u with P:= { u.P with nm:=if cY u.P.nm u.P.gm (sq e)=0 then u.P.nm+1 else 0,gm:=aL u.P.gm u.P.nm (sq e) } }
def oj(u:Use)(e:Ev):Use:=
 if e.Kind=40 then(if e.gn 4<e.Day then u else VR u e)
 else if e.Kind=41 then(if e.gn 1<e.Day then u else VQ u e)
 else if e.Kind=42 then VT u e
 else if e.Kind=43 then VM u e
 else if e.Kind=44 then(if e.gn 4<e.Day then u else VW u e)
 else if e.Kind=45 then(if e.gn 4<e.Day then u else pgX u e)
 else if e.Kind=46 then VJ u e
 else if e.Kind=47 then VI u e
 else u
theorem Fs{e}(h:okB e=true):(e.nt:Int)=(cx e.Kind).2.1/\(cx e.Kind).1<=(e.nn:Int):=RU (ab4 h)
theorem za(σ u e)(hu:br u)(hs:u.P.ns<=999)(hpc:bL u.P=0)(hok:okB e=true)(hb:e.nn<=1000)(htx: ∀i,i<e.nt->(e.gt i).size<4294967281)(bc:gJ σ):CS prog 39 [.agg ((((u.cells u.aX).set 1 (.ms σ.length 6 0 u.P.nc)).set 2 (.ms (σ.length+1) 6 0 u.P.np)).set 4 (.ms (σ.length+2) 6 0 u.P.na)),.agg (e.enc.map .d)] (σ++[.arr 6 u.P.nc (fun q=>Rule.enc (u.P.gc q)),.arr 6 u.P.np (fun q=>dF.enc (u.P.gp q)),.arr 6 u.P.na (fun q=>fM.enc (u.P.ga q)),.dead,.dead,.dead,.dead,.var nU]) (fun r σ' X'=>X'=[σ.length,σ.length+1,σ.length+2]/\r= .cj [.agg ((oj u e).cells (oj u e).aX),.d (I (nO u e))]/\σ'=σ++[.dead,.dead,.dead,.dead,.dead,.dead,.dead,.var nU]):=by
 have b1:=hu.P.nc;have b2:=hu.P.np;have b3:=hu.P.na;have b4:=hu.P.nm;have b5:=hu.P.ns;obtain⟨q1,q2⟩:=Fs hok;refine CS.Gc true [σ.length,σ.length+1,σ.length+2] func39 fun hwf=> ?_;simp[go_sem];refine T.dr 4 fun K hK=> ?_;refine wd hK ?_;refine wH ?_;refine gc [2,3,4,6,7,8,13] ?_ ?_<;>intro d0
 ·have hk:e.Kind=40:=l5;rw[hk] at q1 q2;simp[cx] at q1 q2;have n6:6<=e.nn:=aa;have hE:nO u e=SR u e:=by unfold nO;rw[if_pos hk]
  have hX:oj u e=(if e.gn 4<e.Day then u else VR u e):=by unfold oj;rw[if_pos hk]
  simp[go_sem];refine aF bc (σ.length+1) ?_;refine aF bc (σ.length+2) ?_;refine T.dr 6 fun K hK=> ?_;refine wB ?_;refine hK _ ?_;refine go false ?_;refine gc [2,4,6,7] ?_ ?_<;>intro d1
  ·have hl:e.gn 4<e.Day:=ku;rw[show SR u e=5 from if_pos hl] at hE;rw[if_pos hl] at hX;simp[go_sem];refine aF bc σ.length ?_;refine wJ ?_;rw[hE,hX];simp[go_sem];exact ae bf
  ·have hl: ¬e.gn 4<e.Day:=ku;rw[show SR u e=check (u.P.nc+1) (aL u.P.gc u.P.nc (pO e)) from if_neg hl] at hE;rw[if_neg hl] at hX;simp[go_sem];apply Pf.gZ 30 27 50 (.ms σ.length 6 0 (u.P.nc+1)) ((σ++[.arr 6 (u.P.nc+1) (aO u.P.nc (fun q=>Rule.enc (u.P.gc q)) (rowsOf 6 [I (e.gn 0),I (e.gn 1),I (e.gn 2),B (e.gn 3==1),I (e.gn 4),I (e.gn 5)])),.dead,.dead,.dead,.dead,.dead,.dead,.var nU,.var ((u.cells u.aX).set 1 .undef),.var (e.enc.map .d),.var zU])) ([σ.length]) [1,2,3,4,6,7,9,10,12,13,16,17,20,23,24,25,26] T.mixed aD
   ·intro K hK;refine wB ?_;exact hK _ _
   ·decide
   ·simp[go_sem,bc.zero];repeat refine⟨aa,?_⟩
    all_goals omega
   ·intro K hK;refine wB ?_;exact hK _ _
   ·simp[go_sem]
   intro K hK;refine wD hK ?_;refine ax σ.length (fun q=>Rule.enc (aL u.P.gc u.P.nc (pO e) q)) bj (by exact fun q hq=>gu (enc:=Rule.enc) (x:=(pO e)) rfl q hq) aN ?_;refine aF bc σ.length ?_;refine wM ?_;refine az.mk (jL _ none (u.P.nc+1) (aL u.P.gc u.P.nc (pO e)) aa) ?_;refine wO ?_;rw[hE,hX];simp[go_sem,VR];exact ae bf
 ·have n40: ¬e.Kind=40:=l5;refine wH ?_;refine gc [2,3,4,6,7,8,13] ?_ ?_<;>intro d2
  ·have hk:e.Kind=41:=o9;rw[hk] at q1 q2;simp[cx] at q1 q2;have n6:2<=e.nn:=aa;have hE:nO u e=SJ u e:=by unfold nO;rw[if_neg n40,if_pos hk]
   have hX:oj u e=(if e.gn 1<e.Day then u else VQ u e):=by unfold oj;rw[if_neg n40,if_pos hk]
   simp[go_sem];refine aF bc σ.length ?_;refine aF bc (σ.length+1) ?_;refine aF bc (σ.length+2) ?_;refine T.dr 6 fun K hK=> ?_;refine wB ?_;refine hK _ ?_;refine go true ?_;refine gc [2,4,6,7] ?_ ?_<;>intro d3
   ·have hl:e.gn 1<e.Day:=o8;rw[show SJ u e=5 from if_pos hl] at hE;rw[if_pos hl] at hX;refine wA ?_;rw[hE,hX];simp[go_sem];exact ae bf
   ·have hl: ¬e.gn 1<e.Day:=o8;rw[show SJ u e=(kj u.P.nc u.P.gc (e.gn 0) (e.gn 1)).2 from if_neg hl] at hE;rw[if_neg hl] at hX;simp[go_sem];apply Mix.bA 18 [(17,none)] [[0,1,2,3,4,5,6,7,8,9,10,11,12,13,15,16]] [(.undef,(σ++[.dead,.dead,.dead,.dead,.dead,.dead,.dead,.var nU,.var ((u.cells u.aX).set 1 (.d (SL none 6 Rule.enc (kj u.P.nc u.P.gc (e.gn 0) (e.gn 1)).1.1 (kj u.P.nc u.P.gc (e.gn 0) (e.gn 1)).1.2))),.var (e.enc.map .d),.var zU]))] T.mixed aD
    ·intro K hK;refine wB ?_;refine bK.mk (Jy _ none u.P.nc u.P.gc (e.gn 0) (e.gn 1) aa) ?_;simp[go_sem];exact hK _ _
    ·refine Mix.aw ?_ (Mix.aW)
     ·intro K hK;simp[go_sem];exact hK _ _
    ·refine Mix.aG ?_ (Mix.bn)
     ·simp[go_sem];all_goals first|rfl|omega|skip
    intro K hK;refine wQ hK ?_;rw[hE,hX];simp[go_sem,VQ];exact ae bf
  ·have n41: ¬e.Kind=41:=o9;refine wH ?_;refine gc [2,3,4,6,7,8,13] ?_ ?_<;>intro d4
   ·have hk:e.Kind=42:=uo;rw[hk] at q1 q2;simp[cx] at q1 q2;have n6:5<=e.nn:=aa;have n7:1<=e.nt:=aa;have hE:nO u e=Zv u e:=by unfold nO;rw[if_neg n40,if_neg n41,if_pos hk]
    have hX:oj u e=VT u e:=by unfold oj;rw[if_neg n40,if_neg n41,if_pos hk]
    have hnn: ∀i,i<u.P.np+1->(aL u.P.gp u.P.np (prNew e) i).Name.size<4294967281:=fun i hi=>by
     unfold aL;split
     ·exact hu.P.nn i aa
     ·exact htx 0 aa
    unfold Zv at hE;simp[go_sem];refine aF bc σ.length ?_;refine aF bc (σ.length+2) ?_;apply Pf.gZ 31 28 114 (.ms (σ.length+1) 6 0 (u.P.np+1)) ((σ++[.dead,.arr 6 (u.P.np+1) (aO u.P.np (fun q=>dF.enc (u.P.gp q)) (rowsOf 6 [I (e.gn 0),Sb (e.gt 0),I (e.gn 1),I (e.gn 2),I (e.gn 3),I (e.gn 4)])),.dead,.dead,.dead,.dead,.dead,.var nU,.var ((u.cells u.aX).set 2 .undef),.var (e.enc.map .d),.var zU])) ([(σ.length+1)]) [1,2,3,4,6,7,10,11,14,17,18,21,24,25,26,27] T.mixed aD
    ·intro K hK;refine wB ?_;exact hK _ _
    ·decide
    ·simp[go_sem,bc.one];repeat refine⟨aa,?_⟩
     all_goals omega
    ·intro K hK;refine wB ?_;exact hK _ _
    ·simp[go_sem]
    intro K hK;refine wD hK ?_;refine ax (σ.length+1) (fun q=>dF.enc (aL u.P.gp u.P.np (prNew e) q)) bj (by exact fun q hq=>gu (enc:=dF.enc) (x:=(prNew e)) rfl q hq) aN ?_;refine aF bc (σ.length+1) ?_;refine wM ?_;refine az.mk (gP _ none (u.P.np+1) (aL u.P.gp u.P.np (prNew e)) aa hnn) ?_;refine wO ?_;rw[hE,hX];simp[go_sem,VT];exact ae bf
   ·have n42: ¬e.Kind=42:=uo;refine wH ?_;refine gc [2,3,4,6,7,8,13] ?_ ?_<;>intro d5
    ·have hk:e.Kind=43:=Dj;rw[hk] at q1 q2;simp[cx] at q1 q2;have n6:5<=e.nn:=aa;have hE:nO u e=(Sh u e).2:=by unfold nO;rw[if_neg n40,if_neg n41,if_neg n42,if_pos hk]
     have hX:oj u e=VM u e:=by unfold oj;rw[if_neg n40,if_neg n41,if_neg n42,if_pos hk]
     simp[go_sem];refine aF bc σ.length ?_;refine aF bc (σ.length+1) ?_;refine aF bc (σ.length+2) ?_;apply Mix.bA 29 [(28,none)] [[0,1,2,3,4,5,6,7,8,9,10,11,12,13,14,15,16,17,18,19,20,21,22,23,24,26,27]] [(.undef,(σ++[.dead,.dead,.dead,.dead,.dead,.dead,.dead,.var nU,.var ((u.cells u.aX).set 2 (.d (SL none 6 dF.enc (cQ u.P.np u.P.gp (e.gn 0) ⟨e.gn 1,e.gn 2⟩ ⟨e.gn 3,e.gn 4⟩).1.1 (cQ u.P.np u.P.gp (e.gn 0) ⟨e.gn 1,e.gn 2⟩ ⟨e.gn 3,e.gn 4⟩).1.2))),.var (e.enc.map .d),.var zU]))] T.mixed aD
     ·intro K hK;refine wB ?_;refine bK.mk (Ei _ none u.P.np u.P.gp (e.gn 0) ⟨e.gn 1,e.gn 2⟩ ⟨e.gn 3,e.gn 4⟩ aa hu.P.nn) ?_;simp[go_sem];exact hK _ _
     ·refine Mix.aw ?_ (Mix.aW)
      ·intro K hK;simp[go_sem];exact hK _ _
     ·refine Mix.aG ?_ (Mix.bn)
      ·simp[go_sem];all_goals first|rfl|omega|skip
     intro K hK;refine wQ hK ?_;rw[hE,hX];simp[go_sem,VM,Sh];exact ae bf
    ·have n43: ¬e.Kind=43:=Dj;refine wH ?_;refine gc [2,3,4,6,7,8,13] ?_ ?_<;>intro d6
     ·have hk:e.Kind=44:=vX;rw[hk] at q1 q2;simp[cx] at q1 q2;have n6:6<=e.nn:=aa;have hE:nO u e=S8 u e:=by unfold nO;rw[if_neg n40,if_neg n41,if_neg n42,if_neg n43,if_pos hk]
      have hX:oj u e=(if e.gn 4<e.Day then u else VW u e):=by unfold oj;rw[if_neg n40,if_neg n41,if_neg n42,if_neg n43,if_pos hk]
      simp[go_sem];refine aF bc σ.length ?_;refine aF bc (σ.length+1) ?_;refine T.dr 6 fun K hK=> ?_;refine wB ?_;refine hK _ ?_;refine go false ?_;refine gc [2,4,6,7] ?_ ?_<;>intro d7
      ·have hl:e.gn 4<e.Day:=by simpa using d7
       rw[show S8 u e=5 from if_pos hl] at hE;rw[if_pos hl] at hX;simp[go_sem];refine aF bc (σ.length+2) ?_;refine wJ ?_;rw[hE,hX];simp[go_sem];exact ae bf
      ·have hl: ¬e.gn 4<e.Day:=by simpa using d7
       rw[show S8 u e=dA (u.P.na+1) (aL u.P.ga u.P.na (pX e)) from if_neg hl] at hE;rw[if_neg hl] at hX;simp[go_sem];apply Pf.gZ 30 27 188 (.ms (σ.length+2) 6 0 (u.P.na+1)) ((σ++[.dead,.dead,.arr 6 (u.P.na+1) (aO u.P.na (fun q=>fM.enc (u.P.ga q)) (rowsOf 6 [I (e.gn 0),I (e.gn 1),I (e.gn 2),B (e.gn 3==1),I (e.gn 4),I (e.gn 5)])),.dead,.dead,.dead,.dead,.var nU,.var ((u.cells u.aX).set 4 .undef),.var (e.enc.map .d),.var zU])) ([(σ.length+2)]) [1,2,3,4,6,7,9,10,12,13,16,17,20,23,24,25,26] T.mixed aD
       ·intro K hK;refine wB ?_;exact hK _ _
       ·decide
       ·simp[go_sem,bc.one];repeat refine⟨aa,?_⟩
        all_goals omega
       ·intro K hK;refine wB ?_;exact hK _ _
       ·simp[go_sem]
       intro K hK;refine wD hK ?_;refine ax (σ.length+2) (fun q=>fM.enc (aL u.P.ga u.P.na (pX e) q)) bj (by exact fun q hq=>gu (enc:=fM.enc) (x:=(pX e)) rfl q hq) aN ?_;refine aF bc (σ.length+2) ?_;refine wM ?_;refine az.mk (jJ _ none (u.P.na+1) (aL u.P.ga u.P.na (pX e)) aa) ?_;refine wO ?_;rw[hE,hX];simp[go_sem,VW];exact ae bf
     ·have n44: ¬e.Kind=44:=vX;refine wH ?_;refine gc [2,3,4,6,7,8,13] ?_ ?_<;>intro d8
      ·have hk:e.Kind=45:=by simpa using d8
       rw[hk] at q1 q2;simp[cx] at q1 q2;have n6:6<=e.nn:=aa;have hE:nO u e=RO u e:=by unfold nO;rw[if_neg n40,if_neg n41,if_neg n42,if_neg n43,if_neg n44,if_pos hk]
       have hX:oj u e=(if e.gn 4<e.Day then u else pgX u e):=by unfold oj;rw[if_neg n40,if_neg n41,if_neg n42,if_neg n43,if_neg n44,if_pos hk]
       simp[go_sem];refine aF bc σ.length ?_;refine aF bc (σ.length+1) ?_;refine aF bc (σ.length+2) ?_;refine T.dr 6 fun K hK=> ?_;refine wB ?_;refine hK _ ?_;refine go true ?_;refine gc [2,4,6,7] ?_ ?_<;>intro d9
       ·have hl:e.gn 4<e.Day:=by simpa using d9
        rw[show RO u e=5 from if_pos hl] at hE;rw[if_pos hl] at hX;refine wA ?_;rw[hE,hX];simp[go_sem];exact ae bf
       ·have hl: ¬e.gn 4<e.Day:=by simpa using d9
        rw[show RO u e=cY u.P.nm u.P.gm (sq e) from if_neg hl] at hE;rw[if_neg hl] at hX;simp[go_sem];apply Mix.bA 32 [(31,none)] [[0,1,2,3,4,5,6,7,8,9,10,11,12,13,14,15,16,17,18,19,20,21,22,23,24,25,26,27,29,30]] [(.undef,(σ++[.dead,.dead,.dead,.dead,.dead,.dead,.dead,.var nU,.var ((u.cells u.aX).set 5 (.d (SL none 6 fu.enc (if cY u.P.nm u.P.gm (sq e)=0 then u.P.nm+1 else 0) (aL u.P.gm u.P.nm (sq e))))),.var (e.enc.map .d),.var zU]))] T.mixed aD
        ·intro K hK;refine wB ?_;refine bK.mk (Ee _ none u.P.nm u.P.gm (sq e) aa) ?_;simp[go_sem];exact hK _ _
        ·refine Mix.aw ?_ (Mix.aW)
         ·intro K hK;simp[go_sem];exact hK _ _
        ·refine Mix.aG ?_ (Mix.bn)
         ·simp[go_sem];all_goals first|rfl|omega|skip
        intro K hK;refine wQ hK ?_;rw[hE,hX];simp[go_sem,pgX];exact ae bf
      ·have n45: ¬e.Kind=45:=by simpa using d8
       refine wH ?_;refine gc [2,3,4,6,7,8,13] ?_ ?_<;>intro d10
       ·have hk:e.Kind=46:=by simpa using d10
        rw[hk] at q1 q2;simp[cx] at q1 q2;have n6:1<=e.nn:=aa;have hE:nO u e=rD u.P.nm u.P.gm (e.gn 0) e.Day:=by unfold nO;rw[if_neg n40,if_neg n41,if_neg n42,if_neg n43,if_neg n44,if_neg n45,if_pos hk]
        have hX:oj u e=VJ u e:=by unfold oj;rw[if_neg n40,if_neg n41,if_neg n42,if_neg n43,if_neg n44,if_neg n45,if_pos hk]
        simp[go_sem];refine aF bc σ.length ?_;refine aF bc (σ.length+1) ?_;refine aF bc (σ.length+2) ?_;apply Mix.bA 17 [(16,none)] [[0,1,2,3,4,5,6,7,8,9,10,11,12,14,15]] [(.undef,(σ++[.dead,.dead,.dead,.dead,.dead,.dead,.dead,.var nU,.var ((u.cells u.aX).set 5 (.d (SL none 6 fu.enc (Gq u.P.nm u.P.gm (e.gn 0) e.Day) (VL u.P.gm (Ga u.P.nm u.P.gm (e.gn 0)).toNat e.Day)))),.var (e.enc.map .d),.var zU]))] T.mixed aD
        ·intro K hK;refine wB ?_;refine bK.mk (B0 _ none u.P.nm u.P.gm (e.gn 0) e.Day aa) ?_;simp[go_sem];exact hK _ _
        ·refine Mix.aw ?_ (Mix.aW)
         ·intro K hK;simp[go_sem];exact hK _ _
        ·refine Mix.aG ?_ (Mix.bn)
         ·simp[go_sem];all_goals first|rfl|omega|skip
        intro K hK;refine wQ hK ?_;rw[hE,hX];simp[go_sem,VJ];exact ae bf
       ·have n46: ¬e.Kind=46:=by simpa using d10
        refine wH ?_;refine gc [2,4,6,7,8] ?_ ?_<;>intro d11
        ·have hk:e.Kind=47:=by simpa using d11
         rw[hk] at q1 q2;simp[cx] at q1 q2;have n6:4<=e.nn:=aa;have hE:nO u e=Wz u e:=by unfold nO;rw[if_neg n40,if_neg n41,if_neg n42,if_neg n43,if_neg n44,if_neg n45,if_neg n46,if_pos hk]
         have hX:oj u e=VI u e:=by unfold oj;rw[if_neg n40,if_neg n41,if_neg n42,if_neg n43,if_neg n44,if_neg n45,if_neg n46,if_pos hk]
         have hpo:=PH hu.P hs hb;unfold Wz at hE;have hsp:Gp u e= { u.P with ns:=(Gp u e).ns,gs:=(Gp u e).gs } :=by unfold Gp;split<;>rfl
         have agV:dT { u.P with ns:=(Gp u e).ns,gs:=(Gp u e).gs } :=by rw[←hsp];exact hpo
         rw[hsp] at hE;have h4:((e.nn:Int)-4).toNat=e.nn-4:=aa;simp[go_sem];refine aF bc σ.length ?_;refine aF bc (σ.length+1) ?_;refine aF bc (σ.length+2) ?_;apply Mix.bA 27 [(26,none)] [[0,1,2,3,4,5,6,7,8,9,10,11,12,13,14,15,16,17,18,19,20,21,22,23,24,25]] [(.undef,(σ++[.dead,.dead,.dead,.dead,.dead,.dead,.dead,.var nU,.var ((u.cells u.aX).set 0 (.d (SL none 5 ej.enc (Gp u e).ns (Gp u e).gs))),.var (e.enc.map .d),.var zU]))] T.mixed aD
         ·intro K hK;simp[go_sem,h4];repeat refine⟨aa,?_⟩
          refine bK.mk (yZ _ none u.P.ns u.P.gs (eF e) (Gp u e).ns (Gp u e).gs (ac0 hpc) aa) ?_;simp[go_sem];exact hK _ _
         ·refine Mix.aw ?_ (Mix.aW)
          ·intro K hK;simp[go_sem];exact hK _ _
         ·refine Mix.aG ?_ (Mix.bn)
          ·simp[go_sem];all_goals first|rfl|omega|skip
         intro K hK;refine wg hK ?_;refine az.mk (ni _ { u.P with ns:=(Gp u e).ns,gs:=(Gp u e).gs } agV) ?_;refine wA ?_;rw[hE,hX];unfold VI;rw[hsp];simp[go_sem];exact ae bf
        ·have n47: ¬e.Kind=47:=by simpa using d11
         have hE:nO u e=0:=by unfold nO;rw[if_neg n40,if_neg n41,if_neg n42,if_neg n43,if_neg n44,if_neg n45,if_neg n46,if_neg n47]
         have hX:oj u e=u:=by unfold oj;rw[if_neg n40,if_neg n41,if_neg n42,if_neg n43,if_neg n44,if_neg n45,if_neg n46,if_neg n47]
         simp[go_sem];refine aF bc σ.length ?_;refine aF bc (σ.length+1) ?_;refine aF bc (σ.length+2) ?_;refine wJ ?_;rw[hE,hX];simp[go_sem];exact ae bf
variable (σ : List aZ)
def rS(u:Use)(e:Ev):Int:=
 if e.Kind=48 then Vv u e
 else if e.Kind=49 then PV u e
 else if e.Kind=50 then Hm u e
 else if e.Kind=51 then Y3 u e
 else if e.Kind=52 then AQ u e
 else 0
def puX(u:Use)(e:Ev):Use:= { u with nb:=if kg u.nb u.gb (e.gn 0) (e.gn 1) ⟨e.gn 2,e.gn 3⟩=0 then u.nb else 0,gb:=Cl u.gb (hZ u.nb u.gb (e.gn 0)).toNat (e.gn 1).toNat ⟨e.gn 2,e.gn 3⟩ }
def taX(u:Use)(e:Ev):Use:= { u with nb:=if fv u.nb u.gb (e.gn 0)=0 then u.nb else 0,gb:=qU u.gb (qS u.nb u.gb (e.gn 0)).1.toNat (qS u.nb u.gb (e.gn 0)).2.toNat }
def tO(u:Use)(e:Ev):Use:=
 if e.Kind=48 then Pk u e
 else if e.Kind=49 then(if(aM u (e.gn 0)).Kind=3 then u else puX u e)
 else if e.Kind=50 then(if(cp u.nb u.gb (e.gn 0)).2.2=false then u else if(aM u (cp u.nb u.gb (e.gn 0)).1).Kind=3 then u else taX u e)
 else if e.Kind=51 then S2 u e
 else if e.Kind=52 then YG u e
 else u
theorem BU(u e)(hu:br u)(hm:bX u.nv u.gv=0)(hok:okB e=true)(hb:e.nn<=1000)(bc:gJ σ):CS prog 40 [.agg (((u.cells u.aX).set 6 (.ms σ.length 5 0 u.nb)).set 7 (.ms (σ.length+1) 4 0 u.nf)),.agg (e.enc.map .d)] (σ++[.arr 5 u.nb (fun q=>Bx.enc (u.gb q)),.arr 4 u.nf (fun q=>l4.enc (u.gf q)),.dead,.dead,.var nU]) (fun r σ' X'=>X'=[σ.length,σ.length+1]/\r= .cj [.agg ((tO u e).cells (tO u e).aX),.d (I (rS u e))]/\σ'=σ++[.dead,.dead,.dead,.dead,.var nU]):=by
 have b1:=hu.nb;have b2:=hu.nf;have b3:=hu.nv;have hpl:=nx hm;have hbx: ∀i,i<u.nb->(u.gb i).nc<=1000000:=hu.bx;obtain⟨q1,q2⟩:=Fs hok;refine CS.Gc false [σ.length,σ.length+1] func40 fun hwf=> ?_;refine wU ?_;refine wU ?_;refine gc [2,3,4,6,7,14] ?_ ?_<;>intro d0
 ·have hk:e.Kind=48:=l5;rw[hk] at q1 q2;simp[cx] at q1 q2;have n6:4<=e.nn:=aa;have hE:rS u e=Vv u e:=by unfold rS;rw[if_pos hk]
  have hX:tO u e=Pk u e:=by unfold tO;rw[if_pos hk]
  unfold Vv at hE;have hnn: ∀i,i<u.nb+1->(aL u.gb u.nb (dS e) i).nc<=1000000:=fun i hi=>by
   unfold aL;split
   ·exact hu.bx i aa
   ·exact Nat.zero_le _
  simp[go_sem];refine aF bc (σ.length+1) ?_;refine T.dr 16 fun K hK=> ?_;simp[go_sem,bc.zero];refine wG hK ?_;refine Is σ.length (fun q=>Bx.enc (aL u.gb u.nb (dS e) q)) bj (by exact SV u e) aN ?_;refine aF bc σ.length ?_;refine wM ?_;refine az.mk (gO _ none (u.nb+1) (aL u.gb u.nb (dS e)) aa hnn) ?_;refine wO ?_;rw[hE,hX];simp[go_sem,Pk];exact ae bf
 ·have n48: ¬e.Kind=48:=l5;refine wH ?_;refine gc [2,3,4,6,7,14] ?_ ?_<;>intro d1
  ·have hk:e.Kind=49:=ku;rw[hk] at q1 q2;simp[cx] at q1 q2;have n6:4<=e.nn:=aa;have hE:rS u e=PV u e:=by unfold rS;rw[if_neg n48,if_pos hk]
   have hX:tO u e=(if(aM u (e.gn 0)).Kind=3 then u else puX u e):=by unfold tO;rw[if_neg n48,if_pos hk]
   simp[go_sem];refine aF bc σ.length ?_;refine aF bc (σ.length+1) ?_;refine T.dr 7 fun K hK=> ?_;refine wB ?_;refine bK.mk (dZ _ u (e.gn 0) aa) ?_;refine wc hK ?_;refine gc [2,4,6] ?_ ?_<;>intro d2
   ·have hl:(aM u (e.gn 0)).Kind=3:=by rw[hpl];simpa using d2
    rw[show PV u e=11 from if_pos hl] at hE;rw[if_pos hl] at hX;refine wA ?_;rw[hE,hX];simp[go_sem];exact ae bf
   ·have hl: ¬(aM u (e.gn 0)).Kind=3:=by rw[hpl];simpa using d2
    rw[show PV u e=kg u.nb u.gb (e.gn 0) (e.gn 1) ⟨e.gn 2,e.gn 3⟩ from if_neg hl] at hE;rw[if_neg hl] at hX;simp[go_sem];apply Mix.bA 21 [(20,none)] [[0,1,2,3,4,5,6,7,8,9,10,11,12,13,14,15,16,17,19]] [(.undef,(σ++[.dead,.dead,.dead,.dead,.var nU,.var ((u.cells u.aX).set 6 (.d (SL none 5 Bx.enc (if kg u.nb u.gb (e.gn 0) (e.gn 1) ⟨e.gn 2,e.gn 3⟩=0 then u.nb else 0) (Cl u.gb (hZ u.nb u.gb (e.gn 0)).toNat (e.gn 1).toNat ⟨e.gn 2,e.gn 3⟩)))),.var (e.enc.map .d),.var zU]))] T.mixed aD
    ·intro K hK;refine wB ?_;refine bK.mk (Jp _ none u.nb u.gb (e.gn 0) (e.gn 1) ⟨e.gn 2,e.gn 3⟩ aa hbx) ?_;simp[go_sem];exact hK _ _
    ·refine Mix.aw ?_ (Mix.aW)
     ·intro K hK;simp[go_sem];exact hK _ _
    ·refine Mix.aG ?_ (Mix.bn)
     ·simp[go_sem];all_goals first|rfl|omega|skip
    intro K hK;refine wQ hK ?_;rw[hE,hX];simp[go_sem,puX];exact ae bf
  ·have n49: ¬e.Kind=49:=ku;refine wH ?_;refine gc [2,3,4,6,7,14] ?_ ?_<;>intro d3
   ·have hk:e.Kind=50:=o8;rw[hk] at q1 q2;simp[cx] at q1 q2;have n6:1<=e.nn:=aa;have hE:rS u e=Hm u e:=by unfold rS;rw[if_neg n48,if_neg n49,if_pos hk]
    have hX:tO u e=(if(cp u.nb u.gb (e.gn 0)).2.2=false then u else if(aM u (cp u.nb u.gb (e.gn 0)).1).Kind=3 then u else taX u e):=by unfold tO;rw[if_neg n48,if_neg n49,if_pos hk]
    simp[go_sem];refine aF bc σ.length ?_;refine aF bc (σ.length+1) ?_;refine T.dr 12 fun K hK=> ?_;refine wB ?_;refine bK.mk (jH _ none u.nb u.gb (e.gn 0) aa hbx) ?_;refine wc hK ?_;refine gc [2,4,6,8] ?_ ?_<;>intro d4
    ·have hl:(cp u.nb u.gb (e.gn 0)).2.2=false:=uo;rw[show Hm u e=7 from if_pos hl] at hE;rw[if_pos hl] at hX;refine wA ?_;rw[hE,hX];simp[go_sem];exact ae bf
    ·have hl: ¬(cp u.nb u.gb (e.gn 0)).2.2=false:=uo;rw[if_neg hl] at hX;simp[go_sem];refine az.mk (dZ _ u (cp u.nb u.gb (e.gn 0)).1 aa) ?_;refine gc [2,4,6] ?_ ?_<;>intro d5
     ·have hl2:(aM u (cp u.nb u.gb (e.gn 0)).1).Kind=3:=by rw[hpl];simpa using d5
      rw[show Hm u e=11 by unfold Hm;rw[if_neg hl,if_pos hl2]] at hE;rw[if_pos hl2] at hX;refine wA ?_;rw[hE,hX];simp[go_sem];exact ae bf
     ·have hl2: ¬(aM u (cp u.nb u.gb (e.gn 0)).1).Kind=3:=by rw[hpl];simpa using d5
      rw[show Hm u e=fv u.nb u.gb (e.gn 0) by unfold Hm;rw[if_neg hl,if_neg hl2]] at hE;rw[if_neg hl2] at hX;simp[go_sem];apply Mix.bA 12 [(11,none)] [[0,1,2,3,4,5,6,7,10]] [(.undef,(σ++[.dead,.dead,.dead,.dead,.var nU,.var ((u.cells u.aX).set 6 (.d (SL none 5 Bx.enc (if fv u.nb u.gb (e.gn 0)=0 then u.nb else 0) (qU u.gb (qS u.nb u.gb (e.gn 0)).1.toNat (qS u.nb u.gb (e.gn 0)).2.toNat)))),.var (e.enc.map .d),.var zU]))] T.mixed aD
      ·intro K hK;refine wB ?_;refine bK.mk (GF _ none u.nb u.gb (e.gn 0) aa hbx) ?_;simp[go_sem];exact hK _ _
      ·refine Mix.aw ?_ (Mix.aW)
       ·intro K hK;simp[go_sem];exact hK _ _
      ·refine Mix.aG ?_ (Mix.bn)
       ·simp[go_sem];all_goals first|rfl|omega|skip
      intro K hK;refine wQ hK ?_;rw[hE,hX];simp[go_sem,taX];exact ae bf
   ·have n50: ¬e.Kind=50:=o8;refine wH ?_;refine gc [2,3,4,6,7,14] ?_ ?_<;>intro d6
    ·have hk:e.Kind=51:=vX;rw[hk] at q1 q2;simp[cx] at q1 q2;have n6:4<=e.nn:=aa;have hE:rS u e=Y3 u e:=by unfold rS;rw[if_neg n48,if_neg n49,if_neg n50,if_pos hk]
     have hX:tO u e=S2 u e:=by unfold tO;rw[if_neg n48,if_neg n49,if_neg n50,if_pos hk]
     unfold Y3 at hE;simp[go_sem];refine aF bc σ.length ?_;refine T.dr 16 fun K hK=> ?_;simp[go_sem,bc.one];refine wG hK ?_;refine ax (σ.length+1) (fun q=>l4.enc (aL u.gf u.nf (ov e) q)) bj (by exact fun q hq=>gu (enc:=l4.enc) (x:=(ov e)) rfl q hq) aN ?_;refine aF bc (σ.length+1) ?_;refine wM ?_;refine az.mk (po _ none (u.nf+1) (aL u.gf u.nf (ov e)) aa) ?_;refine wO ?_;rw[hE,hX];simp[go_sem,S2];exact ae bf
    ·have n51: ¬e.Kind=51:=vX;refine wH ?_;refine gc [2,3,4,6,7] ?_ ?_<;>intro d7
     ·have hk:e.Kind=52:=by simpa using d7
      rw[hk] at q1 q2;simp[cx] at q1 q2;have n6:3<=e.nn:=aa;have hE:rS u e=AQ u e:=by unfold rS;rw[if_neg n48,if_neg n49,if_neg n50,if_neg n51,if_pos hk]
      have hX:tO u e=YG u e:=by unfold tO;rw[if_neg n48,if_neg n49,if_neg n50,if_neg n51,if_pos hk]
      simp[go_sem];refine aF bc σ.length ?_;refine aF bc (σ.length+1) ?_;refine T.dr 16 fun K hK=> ?_;refine wB ?_;refine bK.mk (zb _ u e hu hm) ?_;refine wQ hK ?_;rw[hE,hX];simp[go_sem];exact ae bf
     ·have n52: ¬e.Kind=52:=by simpa using d7
      have hE:rS u e=0:=by unfold rS;rw[if_neg n48,if_neg n49,if_neg n50,if_neg n51,if_neg n52]
      have hX:tO u e=u:=by unfold tO;rw[if_neg n48,if_neg n49,if_neg n50,if_neg n51,if_neg n52]
      simp[go_sem];refine aF bc σ.length ?_;refine aF bc (σ.length+1) ?_;refine wJ ?_;rw[hE,hX];simp[go_sem];exact ae bf
theorem D6(u k)(hn:u.nr<1000000000):ak prog 170 [.agg (u.cells u.aX),.d (I k)] σ (.cj [.agg ((bJ u k).1.enc.map .d),.d (B (bJ u k).2)]):=by
 refine ak.bt func170 ?_;refine dm (α:=Nat) true [1,4,9,10,11] (fun i=>[(11,.d (I i))]) (fun i=>σ++[.var (u.cells u.aX),.var [.d (I 0),.d (I 0),.d (I 0),.d (I 0),.d (I 0),.d (I 0),.d (I 0)]]) (fun i=>i<=u.nr/\xf u k=idxFrom (fun r:cT=>r.ID==k) ((lst u.nr u.gr).drop i) i) (fun i=>u.nr-i) 0 ?_ (hx:=⟨aa,rfl⟩);rintro i ⟨hi,hx⟩;refine gc [1,4,9,10,11] ?_ ?_<;>intro d0
 ·rw[bU d0,idxFrom] at hx;refine wB ?_;refine dH [1,4,7,9,10,11] ?_ ?_<;>intro d1
  ·rw[if_pos ku] at hx;have hz:bJ u k=(u.gr i,true):=by unfold bJ;rw[hx,if_neg aa];simp
   exact sx hz
  ·refine wC ?_;refine bF (i+1) ⟨aa,abD⟩ (h:=aR) (hσ:=au) (hb:=ae au)
 ·rw[bV d0,idxFrom] at hx;have hz:bJ u k=(cT.zero,false):=by unfold bJ;rw[hx,if_pos aH]
  refine wN ?_;rw[hz];simp[go_sem,cT.zero]
theorem mG(u:Use)(d n b)(hn:u.nv<1000000000)(hb:d<σ.length):ak prog 87 [.agg (u.cells (.ms d 3 0 n)),.d (I b)] σ (.agg ((bE u.gv b u.nv).enc.map .d)):=by
 refine ak.bd true func87 fun hwf=> ?_;simp[go_sem];refine mA (α:=Nat) true [1,4,5,10,11,12] (fun i=>[(12,.d (I i))]) (fun i=>σ++[.var (u.cells (.ms d 3 0 n)),.var [.d (I 0),.d (I 0)],.var ((bE u.gv b i).enc.map .d)]) (fun i=>i<=u.nv) (fun i=>u.nv-i) 0 au (rfl) an ?_;rintro i hi;refine gc [1,4,5,10,11,12] ?_ ?_<;>intro d0
 ·refine wB ?_;refine dH [1,4,5,7,10,11,12] ?_ ?_<;>intro d1
  ·have hs:bE u.gv b (i+1)=(u.gv i).To:=by rw[bE,if_pos d1]
   refine wC ?_;refine bF (i+1) aa (h:=aR) (hσ:=Hf) (hb:=ae au)
  ·have hs:bE u.gv b (i+1)=bE u.gv b i:=by rw[bE,if_neg d1]
   refine wC ?_;refine bF (i+1) aa (h:=aR) (hσ:=Hf) (hb:=ae au)
 ·obtain rfl:i=u.nv:=by omega
  refine wO ?_;simp[go_sem]<;>omega
def edR(u:Use)(e:Ev):Use:= { u with nr:=if cz (dU u.gr) u.nr u.gr (e.gn 0) e.Day=0 then u.nr else 0,gr:=dj u.gr (cP u.nr u.gr (e.gn 0)).toNat 3 e.Day }
def edD(u:Use)(e:Ev):Use:= { u with nr:=if cz (dv u.gr) u.nr u.gr (e.gn 0) e.Day=0 then u.nr else 0,gr:=dj u.gr (cP u.nr u.gr (e.gn 0)).toNat (if(e.gn 1==1)=true then 4 else 5) e.Day }
def VP(u:Use)(e:Ev):Use:=if e.gn 1<0\/2<e.gn 1 then u else if 0<e.gn 1 then edD u e
 else if cz (dU u.gr) u.nr u.gr (e.gn 0) e.Day≠0 then edR u e
 else { dz (qI u e) e (bJ u (e.gn 0)).1.Box ⟨2,0⟩ with nv:=if dn (qI u e) e (bJ u (e.gn 0)).1.Box ⟨2,0⟩=0 then u.nv+1 else 0 }
theorem D7(u e)(hu:br u)(hm:bX u.nv u.gv=0)(hd:u.Changed=e.Day):ak prog 95 [.agg (u.cells u.aX),.d (I (e.gn 0)),.d (I (e.gn 1))] σ (.cj [.agg ((VP u e).cells (VP u e).aX),.d (I (x3 u e))]):=by
 have b3:=hu.nv;have b4:=hu.nr;have hpl:=nx hm;refine ak.bt func95 ?_;refine dH [1,2,3,6] ?_ ?_<;>intro d0
 ·have hl:e.gn 1<0\/2<e.gn 1:=l5;have hE:x3 u e=1:=by unfold x3;rw[if_neg aa,if_neg aa]
  have hX:VP u e=u:=if_pos hl;refine wA ?_;rw[hE,hX];simp[go_sem,hd]
 ·have hl: ¬(e.gn 1<0\/2<e.gn 1):=by simp at d0⊢;omega
  simp[go_sem];refine az.mk (D6 _ u (e.gn 0) aa) (gc [1,2,3,6,8] ?_ ?_)<;>intro d1
  ·have hl1:0<e.gn 1:=ku;have hE:x3 u e=cz (dv u.gr) u.nr u.gr (e.gn 0) e.Day:=by unfold x3;rw[if_neg aa,if_pos aa]
   have hX:VP u e=edD u e:=by unfold VP;rw[if_neg hl,if_pos hl1]
   simp[go_sem];refine az.mk (GA _ none u.nr u.gr (e.gn 0) u.Changed (e.gn 1) aa) (sm ?_);refine af ?_;rw[hE,hX];simp[go_sem,edD,hd]
  ·have hl1: ¬0<e.gn 1:=ku;have hl2:e.gn 1=0:=aa;simp[go_sem];refine az.mk (BX _ none u.nr u.gr (e.gn 0) u.Changed aa) (gc [3,6,8,10] ?_ ?_)<;>intro d2
   ·have hl3:cz (dU u.gr) u.nr u.gr (e.gn 0) e.Day≠0:=by rw[←hd];simpa using d2
    have hE:x3 u e=cz (dU u.gr) u.nr u.gr (e.gn 0) e.Day:=by unfold x3;rw[if_pos hl2,if_pos hl3]
    have hX:VP u e=edR u e:=by unfold VP;rw[if_neg hl,if_neg hl1,if_pos hl3]
    refine wA ?_;rw[hE,hX];simp[go_sem,edR,hd]
   ·have hl3:cz (dU u.gr) u.nr u.gr (e.gn 0) e.Day=0:=by rw[←hd];simpa using d2
    have hl4:cz (dU u.gr) u.nr u.gr (e.gn 0) u.Changed=0:=by rw[hd];exact hl3
    have hE:x3 u e=dn (qI u e) e (bJ u (e.gn 0)).1.Box ⟨2,0⟩:=by unfold x3;rw[if_pos hl2,if_neg (fun h=>h hl3)]
    have hX:VP u e= { dz (qI u e) e (bJ u (e.gn 0)).1.Box ⟨2,0⟩ with nv:=if dn (qI u e) e (bJ u (e.gn 0)).1.Box ⟨2,0⟩=0 then u.nv+1 else 0 } :=by unfold VP;rw[if_neg hl,if_neg hl1,if_neg (fun h=>h hl3)]
    have hp2:aM (qI u e) (bJ u (e.gn 0)).1.Box=bE u.gv (bJ u (e.gn 0)).1.Box u.nv:=hpl _;have hc2:dn (qI u e) e (bJ u (e.gn 0)).1.Box ⟨2,0⟩=gh u.nv u.gv ⟨e.Day,(bJ u (e.gn 0)).1.Box,bE u.gv (bJ u (e.gn 0)).1.Box u.nv,⟨2,0⟩⟩:=by unfold dn;rw[hp2];rfl
    rw[hc2] at hE hX;simp[go_sem,hl4];apply Mix.bA 18 [(17,none)] [[0,1,2,3,4,5,6,7,8,9,10,11,12,13,14,16]] [(.undef,(σ++[.var (((u.cells u.aX).set 8 (.d (SL none 6 hY.enc (if gh u.nv u.gv ⟨u.Changed,(bJ u (e.gn 0)).1.Box,bE u.gv (bJ u (e.gn 0)).1.Box u.nv,⟨2,0⟩⟩=0 then u.nv+1 else 0) (aL u.gv u.nv ⟨u.Changed,(bJ u (e.gn 0)).1.Box,bE u.gv (bJ u (e.gn 0)).1.Box u.nv,⟨2,0⟩⟩)))).set 9 (.d (SL none 7 cT.enc u.nr (dj u.gr (cP u.nr u.gr (e.gn 0)).toNat 3 u.Changed)))),.var zU,.var ((bJ u (e.gn 0)).1.enc.map .d)]))] T.mixed aD
    ·intro K hK;simp[go_sem];refine bK.mk (r:= .agg ((bE u.gv (bJ u (e.gn 0)).1.Box u.nv).enc.map .d)) (dZ _ { u with gr:=dj u.gr (cP u.nr u.gr (e.gn 0)).toNat 3 u.Changed } (bJ u (e.gn 0)).1.Box (by show u.nv<1000000000;omega)) ?_;simp[go_sem];refine bK.mk (fP _ none u.nv u.gv ⟨u.Changed,(bJ u (e.gn 0)).1.Box,bE u.gv (bJ u (e.gn 0)).1.Box u.nv,⟨2,0⟩⟩ aa) ?_;simp[go_sem];exact hK _ _
    ·refine Mix.aw ?_ (Mix.aW)
     ·intro K hK;simp[go_sem];exact hK _ _
    ·refine Mix.aG ?_ (Mix.bn)
     ·simp[go_sem];all_goals first|rfl|omega|skip
    intro K hK;refine wQ hK ?_;rw[hE,hX];unfold dz;rw[hp2];simp[go_sem,qI,hd]
noncomputable def vW(u:Use)(m:Nat)(rg:Nat->Row)(e:Ev):Use:=
 if(bJ u (e.gn 0)).2=false\/((lst (sE u (bJ u (e.gn 0)).1.Box).1 (sE u (bJ u (e.gn 0)).1.Box).2).any fun x=> !jc u m rg e (bJ u (e.gn 0)).1.Reader x.Unit)=true\/((lst u.nk u.gk).any (ix (bJ u (e.gn 0)).1.Reader e.Day))=false\/(aM u (bJ u (e.gn 0)).1.Box).Kind=0 then u
 else if cz (cf u.nr u.gr) u.nr u.gr (bJ u (e.gn 0)).1.ID e.Day≠0 then { u with nr:=if cz (cf u.nr u.gr) u.nr u.gr (bJ u (e.gn 0)).1.ID e.Day=0 then u.nr else 0,gr:=dj u.gr (cP u.nr u.gr (bJ u (e.gn 0)).1.ID).toNat 2 e.Day }
 else if dn u e (bJ u (e.gn 0)).1.Box ⟨3,(bJ u (e.gn 0)).1.Reader⟩≠0 then { nF u e (bJ u (e.gn 0)).1 with nv:=if dn u e (bJ u (e.gn 0)).1.Box ⟨3,(bJ u (e.gn 0)).1.Reader⟩=0 then u.nv+1 else 0 }
 else KY u e
theorem adF{u k}(h: ¬(bJ u k).2=false):(bJ u k).1.ID=k:=by
 unfold bJ at h⊢;split;all_goals grind [fS,xf]
theorem BW(u c m rg e)(hu:br u)(hv:bX u.nv u.gv=0)(hm:m<1000000000)(hd:u.Changed=e.Day)(bc:gJ σ):CS prog 94 [.agg (u.cells (.ms σ.length 3 0 u.nw)),.d (SL c 3 Row.enc m rg),.d (I (e.gn 0))] (σ++[.arr 3 u.nw (fun q=>ke.enc (u.gw q)),.var nU,.var nU,.var (e.enc.map .d),.var zU]) (fun r σ' X'=>X'=[σ.length]/\r= .cj [.agg ((vW u m rg e).cells (vW u m rg e).aX),.d (I (ml u m rg e))]/\σ'=σ++[.dead,.var nU,.var nU,.var (e.enc.map .d),.var zU]):=by
 have b1:=hu.nb;have b3:=hu.nv;have b4:=hu.nr;have b5:=hu.nk;have b8:=hu.nw;have k1:=zS u.nb u.gb (bJ u (e.gn 0)).1.Box;have hpl:=nx hv;obtain⟨r,hr⟩: ∃r,r=(bJ u (e.gn 0)).1:=⟨_,rfl⟩;rw[←hr] at k1;refine CS.Gc false [σ.length] func94 fun hwf=> ?_;refine wX ?_;refine az.mk (Gu _ u σ.length u.nw (e.gn 0) aa an) ?_;simp[go_sem,←hr];refine wM ?_;refine go false ?_;refine gc [1,2,3,6,8] ?_ ?_<;>intro d0
 ·have hE:ml u m rg e=7:=if_pos ai;have hX:vW u m rg e=u:=if_pos (.inl ai);simp[go_sem];refine aF bc σ.length ?_;refine wJ ?_;rw[hE,hX];simp[go_sem,hd];exact ae bf
 ·have hf0: ¬(bJ u (e.gn 0)).2=false:=ai;have hid:r.ID=e.gn 0:=by grind [adF]
  refine wL ?_;refine az.mk (gN _ none u.nb u.gb r.Box aa) ?_;refine gc [1,2,3,6,8,10,11] ?_ ?_<;>intro d1
  ·obtain⟨i0,hi0,hin0⟩: ∃i:Nat,hZ u.nb u.gb r.Box=(i:Int)/\i<u.nb:=⟨(hZ u.nb u.gb r.Box).toNat,aa,aa⟩;have hld:sE u r.Box=((u.gb i0).nc,(u.gb i0).gc):=by grind [sE]
   have hzz:ml u m rg e=gT u m rg e r (u.gb i0).nc (u.gb i0).gc:=by grind [ml]
   have hyy:KY u e= { nF u e r with nw:=u.nw+(u.gb i0).nc,gw:=jD u e r (u.gb i0).gc } :=by grind [KY]
   have g0:=hu.bx i0 hin0;simp[go_sem,hi0,hin0];refine mA (α:=Nat) false [1,2,3,6,8,10,43,44,45] (fun q=>[(45,.d (I q))]) (fun q=>(σ++[.arr 3 u.nw (fun q=>ke.enc (u.gw q)),.var nU,.var nU,.var (e.enc.map .d),.var zU,.var (u.cells (.ms σ.length 3 0 u.nw)),.var zU,.var (r.enc.map .d),.var ((u.gb i0).enc.map .d)])) (fun q=>q<=(u.gb i0).nc/\∀j,j<q->jc u m rg e r.Reader ((u.gb i0).gc j).Unit=true) (fun q=>(u.gb i0).nc-q) 0 au (rfl) (⟨aa,fun j h=>absurd h (Nat.not_lt_zero j)⟩) ?_;rintro q ⟨hq,hy⟩;refine wH ?_;refine gc [1,2,3,6,8,10,43,44,45] ?_ ?_<;>intro d2
   ·have hq5:q<(u.gb i0).nc:=aa;refine wB ?_;refine wM ?_;refine az.mk (pn _ u σ.length u.nw c m rg e r.Reader ((u.gb i0).gc q).Unit hu.P hm hd an) ?_;refine wH ?_;refine gc [1,2,3,6,8,10,43,44,45] ?_ ?_<;>intro d3
    ·have hga:jc u m rg e r.Reader ((u.gb i0).gc q).Unit=false:=ai;have hany:((lst (u.gb i0).nc (u.gb i0).gc).any fun x=> !jc u m rg e r.Reader x.Unit)=true:=dw.2 ⟨q,hq5,ai⟩;have hE:ml u m rg e=22:=by grind [gT]
     have hX:vW u m rg e=u:=by grind [vW]
     simp[go_sem];refine aF bc σ.length ?_;refine wJ ?_;rw[hE,hX];simp[go_sem,hd];exact ae bf
    ·have hga:jc u m rg e r.Reader ((u.gb i0).gc q).Unit=true:=ai;refine wC ?_;refine bF (q+1) ⟨aa,fun j h=>ai⟩ (h:=aR) (hσ:=aP) (hb:=ae au)
   ·have hq1: ¬((lst (u.gb i0).nc (u.gb i0).gc).any fun x=> !jc u m rg e r.Reader x.Unit)=true:=fun h=>by grind [dw]
    refine wL ?_;refine mA (α:=Nat) false [2,3,6,8,10,14,60,61,62] (fun y=>[(62,.d (I y)),(14,.d (B ((lst y u.gk).any (ix r.Reader u.Changed))))]) (fun y=>(σ++[.arr 3 u.nw (fun q=>ke.enc (u.gw q)),.var nU,.var nU,.var (e.enc.map .d),.var zU,.var (u.cells (.ms σ.length 3 0 u.nw)),.var zU,.var (r.enc.map .d),.var ((u.gb i0).enc.map .d)])) (fun y=>y<=u.nk) (fun y=>u.nk-y) 0 (by simp[go_sem,lst]) (rfl) an ?_;rintro y hyn;refine wH ?_;refine gc [2,3,6,8,10,14,60,61,62] ?_ ?_<;>intro d4
    ·have XV:y<u.nk:=aa;have hs:=any_succ (p:=ix r.Reader u.Changed) (g:=u.gk) (n:=y);refine wB ?_;refine go true ?_;simp(disch:=first|omega|simp) [go_sem,ix,aS];refine bF (y+1) aa (h:=by simp[go_sem,hs,ix]<;>omega) (hσ:=aP) (hb:=ae au)
    ·obtain rfl:y=u.nk:=by omega
     refine wU ?_;refine gc [2,3,6,8,10] ?_ ?_<;>intro d5
     ·have hst:((lst u.nk u.gk).any (ix r.Reader e.Day))=false:=ai;have hE:ml u m rg e=23:=by grind [gT]
      have hX:vW u m rg e=u:=by grind [vW]
      simp[go_sem];refine aF bc σ.length ?_;refine wJ ?_;rw[hE,hX];simp[go_sem,hd];exact ae bf
     ·have hst: ¬((lst u.nk u.gk).any (ix r.Reader e.Day))=false:=ai;simp[go_sem];refine az.mk (mG _ u σ.length u.nw r.Box aa an) ?_;refine wH ?_;refine gc [2,3,6,8,10] ?_ ?_<;>intro d6
      ·have hpk:(aM u r.Box).Kind=0:=ai;have hE:ml u m rg e=11:=by grind [gT]
       have hX:vW u m rg e=u:=by grind [vW]
       simp[go_sem];refine aF bc σ.length ?_;refine wJ ?_;rw[hE,hX];simp[go_sem,hd];exact ae bf
      ·have hpk: ¬(aM u r.Box).Kind=0:=ai;have hnx: ¬((bJ u (e.gn 0)).2=false\/((lst (sE u (bJ u (e.gn 0)).1.Box).1 (sE u (bJ u (e.gn 0)).1.Box).2).any fun x=> !jc u m rg e (bJ u (e.gn 0)).1.Reader x.Unit)=true\/((lst u.nk u.gk).any (ix (bJ u (e.gn 0)).1.Reader e.Day))=false\/(aM u (bJ u (e.gn 0)).1.Box).Kind=0):=by
        grind
       refine wX ?_;refine az.mk (uG _ none u.nr u.gr (e.gn 0) u.Changed aa) ?_;refine wU ?_;refine gc [3,6,8,10,17] ?_ ?_<;>intro d7
       ·have hk: ¬cz (cf u.nr u.gr) u.nr u.gr r.ID e.Day=0:=ai;have hE:ml u m rg e=cz (cf u.nr u.gr) u.nr u.gr (e.gn 0) e.Day:=by grind [gT]
        have hX:vW u m rg e= { u with nr:=if cz (cf u.nr u.gr) u.nr u.gr (e.gn 0) e.Day=0 then u.nr else 0,gr:=dj u.gr (cP u.nr u.gr (e.gn 0)).toNat 2 e.Day } :=by grind [vW]
        simp[go_sem];refine aF bc σ.length ?_;refine wJ ?_;rw[hE,hX];simp[go_sem,hd];exact ae bf
       ·have hk4:cz (cf u.nr u.gr) u.nr u.gr (e.gn 0) e.Day=0:=ai;have adx:cz (cf u.nr u.gr) u.nr u.gr (e.gn 0) u.Changed=0:=ai;simp[go_sem,adx];apply Mix.bA 20 [(19,none)] [[0,1,2,3,4,5,6,7,8,9,10,11,12,13,14,15,16,18]] [(.undef,(σ++[.arr 3 u.nw (fun q=>ke.enc (u.gw q)),.var nU,.var nU,.var (e.enc.map .d),.var zU,.var ((((u.cells u.aX).set 8 (.d (SL none 6 hY.enc (if gh u.nv u.gv ⟨u.Changed,r.Box,bE u.gv r.Box u.nv,⟨3,r.Reader⟩⟩=0 then u.nv+1 else 0) (aL u.gv u.nv ⟨u.Changed,r.Box,bE u.gv r.Box u.nv,⟨3,r.Reader⟩⟩)))).set 9 (.d (SL none 7 cT.enc u.nr (dj u.gr (cP u.nr u.gr (e.gn 0)).toNat 2 u.Changed)))).set 14 (.ms σ.length 3 0 u.nw)),.var zU,.var (r.enc.map .d),.var ((u.gb i0).enc.map .d)]))] T.mixed aD
        ·intro K hK;simp[go_sem];refine bK.mk (r:= .agg ((bE u.gv r.Box u.nv).enc.map .d)) (mG _ { u with gr:=dj u.gr (cP u.nr u.gr (e.gn 0)).toNat 2 u.Changed } σ.length u.nw r.Box ai an) ?_;simp[go_sem];refine bK.mk (fP _ none u.nv u.gv ⟨u.Changed,r.Box,bE u.gv r.Box u.nv,⟨3,r.Reader⟩⟩ aa) ?_;simp[go_sem];exact hK _ _
        ·refine Mix.aw ?_ (Mix.aW)
         ·intro K hK;simp[go_sem];grind
        ·refine Mix.aG ?_ (Mix.bn)
         ·simp[go_sem];all_goals first|rfl|omega|skip
        intro K hK;refine wd hK ?_;refine gc [3,6,8,10,17] ?_ ?_<;>intro d8
        ·have hce:dn u e r.Box ⟨3,r.Reader⟩=gh u.nv u.gv ⟨e.Day,r.Box,bE u.gv r.Box u.nv,⟨3,r.Reader⟩⟩:=by grind [dn]
         have hk5: ¬dn u e r.Box ⟨3,r.Reader⟩=0:=ai;have hE:ml u m rg e=gh u.nv u.gv ⟨e.Day,r.Box,bE u.gv r.Box u.nv,⟨3,r.Reader⟩⟩:=by grind [gT]
         have hX:vW u m rg e= { nF u e r with nv:=if gh u.nv u.gv ⟨e.Day,r.Box,bE u.gv r.Box u.nv,⟨3,r.Reader⟩⟩=0 then u.nv+1 else 0 } :=by grind [vW]
         simp[go_sem];refine aF bc σ.length ?_;refine wJ ?_;rw[hE,hX];simp[go_sem,hd,nF,dz,hpl,hid];exact ae bf
        ·have hk5:gh u.nv u.gv ⟨e.Day,r.Box,bE u.gv r.Box u.nv,⟨3,r.Reader⟩⟩=0:=ai;have hce:dn u e r.Box ⟨3,r.Reader⟩=0:=by grind [dn]
         have adw:gh u.nv u.gv ⟨u.Changed,r.Box,bE u.gv r.Box u.nv,⟨3,r.Reader⟩⟩=0:=ai;simp[go_sem,adw];refine wb ?_;refine ax σ.length (fun q=>ke.enc (jD u e r (u.gb i0).gc q)) bj Q9 aN ?_;refine JQ (α:=Nat) false [3,6,8,139,140,141] [σ.length] (fun z=>[(141,.d (I z))]) (fun z=>(σ++[.arr 3 (u.nw+z) (fun q=>ke.enc (jD u e r (u.gb i0).gc q)),.var nU,.var nU,.var (e.enc.map .d),.var zU,.var ((((u.cells u.aX).set 8 (.d (SL none 6 hY.enc (u.nv+1) (aL u.gv u.nv ⟨u.Changed,r.Box,bE u.gv r.Box u.nv,⟨3,r.Reader⟩⟩)))).set 9 (.d (SL none 7 cT.enc u.nr (dj u.gr (cP u.nr u.gr (e.gn 0)).toNat 2 u.Changed)))).set 14 (.ms σ.length 3 0 (u.nw+z))),.var zU,.var (r.enc.map .d),.var ((u.gb i0).enc.map .d)])) (fun z=>z<=(u.gb i0).nc) (fun z=>(u.gb i0).nc-z) 0 au (rfl) an an ?_;rintro z hz;refine wH ?_;refine gc [3,6,8,139,140,141] ?_ ?_<;>intro d9
         ·have hz5:z<(u.gb i0).nc:=aa;simp[go_sem,hz5];refine go false ?_;simp[go_sem,bc.zero,Nat.add_assoc];repeat refine⟨aa,?_⟩
          refine ax σ.length (fun q=>ke.enc (jD u e r (u.gb i0).gc q)) bj (by intro q hq;rw[hd];exact LG hq) aN ?_;refine wW ?_;refine bF (z+1) aa (h:=aR) (hσ:=aP) (hb:=ae aR)
         ·obtain rfl:z=(u.gb i0).nc:=by omega
          have hX:vW u m rg e= { nF u e r with nw:=u.nw+(u.gb i0).nc,gw:=jD u e r (u.gb i0).gc } :=by grind [vW]
          simp[go_sem];refine aF bc σ.length ?_;refine wi ?_;refine gc [3,6] ?_ ?_<;>intro d10
          ·have hE:ml u m rg e=12:=by grind [gT]
           refine wA ?_;rw[hE,hX];simp[go_sem,hd,nF,dz,hpl,hid];exact ae bf
          ·have hE:ml u m rg e=0:=by grind [gT]
           refine wA ?_;rw[hE,hX];simp[go_sem,hd,nF,dz,hpl,hid];exact ae bf
  ·have hld:sE u r.Box=(0,fun _=>⟨0,0⟩):=by grind [sE]
   have hzz:ml u m rg e=gT u m rg e r 0 (fun _=>⟨0,0⟩):=by grind [ml]
   have hyy:KY u e= { nF u e r with nw:=u.nw+0,gw:=jD u e r (fun _=>⟨0,0⟩) } :=by grind [KY]
   simp[go_sem];refine mA (α:=Nat) true [1,2,3,6,8,10,43,44,45] (fun q=>[(45,.d (I q))]) (fun q=>(σ++[.arr 3 u.nw (fun q=>ke.enc (u.gw q)),.var nU,.var nU,.var (e.enc.map .d),.var zU,.var (u.cells (.ms σ.length 3 0 u.nw)),.var zU,.var (r.enc.map .d),.var [.d (I 0),.d (I 0),.d (I 0),.d (I 0),.d (.v (.slice none 0 0))]])) (fun q=>q<=0/\∀j,j<q->jc u m rg e r.Reader ((fun _=>⟨0,0⟩:Nat->Cnt) j).Unit=true) (fun q=>0-q) 0 au (rfl) (⟨aa,fun j h=>absurd h (Nat.not_lt_zero j)⟩) ?_;rintro q ⟨hq,hy⟩;refine gc [1,2,3,6,8,10,43,44,45] ?_ ?_<;>intro d11
   ·exfalso;omega
   ·have hq1: ¬((lst 0 (fun _=>⟨0,0⟩:Nat->Cnt)).any fun x=> !jc u m rg e r.Reader x.Unit)=true:=fun h=>by grind [dw]
    refine wL ?_;refine mA (α:=Nat) false [2,3,6,8,10,14,60,61,62] (fun y=>[(62,.d (I y)),(14,.d (B ((lst y u.gk).any (ix r.Reader u.Changed))))]) (fun y=>(σ++[.arr 3 u.nw (fun q=>ke.enc (u.gw q)),.var nU,.var nU,.var (e.enc.map .d),.var zU,.var (u.cells (.ms σ.length 3 0 u.nw)),.var zU,.var (r.enc.map .d),.var [.d (I 0),.d (I 0),.d (I 0),.d (I 0),.d (.v (.slice none 0 0))]])) (fun y=>y<=u.nk) (fun y=>u.nk-y) 0 (by simp[go_sem,lst]) (rfl) an ?_;rintro y hyn;refine wH ?_;refine gc [2,3,6,8,10,14,60,61,62] ?_ ?_<;>intro d12
    ·have XV:y<u.nk:=aa;have hs:=any_succ (p:=ix r.Reader u.Changed) (g:=u.gk) (n:=y);refine wB ?_;refine go true ?_;simp(disch:=first|omega|simp) [go_sem,ix,aS];refine bF (y+1) aa (h:=by simp[go_sem,hs,ix]<;>omega) (hσ:=aP) (hb:=ae au)
    ·obtain rfl:y=u.nk:=by omega
     refine wU ?_;refine gc [2,3,6,8,10] ?_ ?_<;>intro d13
     ·have hst:((lst u.nk u.gk).any (ix r.Reader e.Day))=false:=ai;have hE:ml u m rg e=23:=by grind [gT]
      have hX:vW u m rg e=u:=by grind [vW]
      simp[go_sem];refine aF bc σ.length ?_;refine wJ ?_;rw[hE,hX];simp[go_sem,hd];exact ae bf
     ·have hst: ¬((lst u.nk u.gk).any (ix r.Reader e.Day))=false:=ai;simp[go_sem];refine az.mk (mG _ u σ.length u.nw r.Box aa an) ?_;refine wH ?_;refine gc [2,3,6,8,10] ?_ ?_<;>intro d14
      ·have hpk:(aM u r.Box).Kind=0:=ai;have hE:ml u m rg e=11:=by grind [gT]
       have hX:vW u m rg e=u:=by grind [vW]
       simp[go_sem];refine aF bc σ.length ?_;refine wJ ?_;rw[hE,hX];simp[go_sem,hd];exact ae bf
      ·have hpk: ¬(aM u r.Box).Kind=0:=ai;have hnx: ¬((bJ u (e.gn 0)).2=false\/((lst (sE u (bJ u (e.gn 0)).1.Box).1 (sE u (bJ u (e.gn 0)).1.Box).2).any fun x=> !jc u m rg e (bJ u (e.gn 0)).1.Reader x.Unit)=true\/((lst u.nk u.gk).any (ix (bJ u (e.gn 0)).1.Reader e.Day))=false\/(aM u (bJ u (e.gn 0)).1.Box).Kind=0):=by
        grind
       refine wX ?_;refine az.mk (uG _ none u.nr u.gr (e.gn 0) u.Changed aa) ?_;refine wU ?_;refine gc [3,6,8,10,17] ?_ ?_<;>intro d15
       ·have hk: ¬cz (cf u.nr u.gr) u.nr u.gr r.ID e.Day=0:=ai;have hE:ml u m rg e=cz (cf u.nr u.gr) u.nr u.gr (e.gn 0) e.Day:=by grind [gT]
        have hX:vW u m rg e= { u with nr:=if cz (cf u.nr u.gr) u.nr u.gr (e.gn 0) e.Day=0 then u.nr else 0,gr:=dj u.gr (cP u.nr u.gr (e.gn 0)).toNat 2 e.Day } :=by grind [vW]
        simp[go_sem];refine aF bc σ.length ?_;refine wJ ?_;rw[hE,hX];simp[go_sem,hd];exact ae bf
       ·have hk4:cz (cf u.nr u.gr) u.nr u.gr (e.gn 0) e.Day=0:=ai;have adx:cz (cf u.nr u.gr) u.nr u.gr (e.gn 0) u.Changed=0:=ai;simp[go_sem,adx];apply Mix.bA 20 [(19,none)] [[0,1,2,3,4,5,6,7,8,9,10,11,12,13,14,15,16,18]] [(.undef,(σ++[.arr 3 u.nw (fun q=>ke.enc (u.gw q)),.var nU,.var nU,.var (e.enc.map .d),.var zU,.var ((((u.cells u.aX).set 8 (.d (SL none 6 hY.enc (if gh u.nv u.gv ⟨u.Changed,r.Box,bE u.gv r.Box u.nv,⟨3,r.Reader⟩⟩=0 then u.nv+1 else 0) (aL u.gv u.nv ⟨u.Changed,r.Box,bE u.gv r.Box u.nv,⟨3,r.Reader⟩⟩)))).set 9 (.d (SL none 7 cT.enc u.nr (dj u.gr (cP u.nr u.gr (e.gn 0)).toNat 2 u.Changed)))).set 14 (.ms σ.length 3 0 u.nw)),.var zU,.var (r.enc.map .d),.var [.d (I 0),.d (I 0),.d (I 0),.d (I 0),.d (.v (.slice none 0 0))]]))] T.mixed aD
        ·intro K hK;simp[go_sem];refine bK.mk (r:= .agg ((bE u.gv r.Box u.nv).enc.map .d)) (mG _ { u with gr:=dj u.gr (cP u.nr u.gr (e.gn 0)).toNat 2 u.Changed } σ.length u.nw r.Box ai an) ?_;simp[go_sem];refine bK.mk (fP _ none u.nv u.gv ⟨u.Changed,r.Box,bE u.gv r.Box u.nv,⟨3,r.Reader⟩⟩ aa) ?_;simp[go_sem];exact hK _ _
        ·refine Mix.aw ?_ (Mix.aW)
         ·intro K hK;simp[go_sem];grind
        ·refine Mix.aG ?_ (Mix.bn)
         ·simp[go_sem];all_goals first|rfl|omega|skip
        intro K hK;refine wd hK ?_;refine gc [3,6,8,10,17] ?_ ?_<;>intro d16
        ·have hce:dn u e r.Box ⟨3,r.Reader⟩=gh u.nv u.gv ⟨e.Day,r.Box,bE u.gv r.Box u.nv,⟨3,r.Reader⟩⟩:=by grind [dn]
         have hk5: ¬dn u e r.Box ⟨3,r.Reader⟩=0:=ai;have hE:ml u m rg e=gh u.nv u.gv ⟨e.Day,r.Box,bE u.gv r.Box u.nv,⟨3,r.Reader⟩⟩:=by grind [gT]
         have hX:vW u m rg e= { nF u e r with nv:=if gh u.nv u.gv ⟨e.Day,r.Box,bE u.gv r.Box u.nv,⟨3,r.Reader⟩⟩=0 then u.nv+1 else 0 } :=by grind [vW]
         simp[go_sem];refine aF bc σ.length ?_;refine wJ ?_;rw[hE,hX];simp[go_sem,hd,nF,dz,hpl,hid];exact ae bf
        ·have hk5:gh u.nv u.gv ⟨e.Day,r.Box,bE u.gv r.Box u.nv,⟨3,r.Reader⟩⟩=0:=ai;have hce:dn u e r.Box ⟨3,r.Reader⟩=0:=by grind [dn]
         have adw:gh u.nv u.gv ⟨u.Changed,r.Box,bE u.gv r.Box u.nv,⟨3,r.Reader⟩⟩=0:=ai;simp[go_sem,adw];refine wb ?_;refine ax σ.length (fun q=>ke.enc (jD u e r (fun _=>⟨0,0⟩:Nat->Cnt) q)) bj Q9 aN ?_;refine JQ (α:=Nat) false [3,6,8,139,140,141] [σ.length] (fun z=>[(141,.d (I z))]) (fun z=>(σ++[.arr 3 (u.nw+z) (fun q=>ke.enc (jD u e r (fun _=>⟨0,0⟩:Nat->Cnt) q)),.var nU,.var nU,.var (e.enc.map .d),.var zU,.var ((((u.cells u.aX).set 8 (.d (SL none 6 hY.enc (u.nv+1) (aL u.gv u.nv ⟨u.Changed,r.Box,bE u.gv r.Box u.nv,⟨3,r.Reader⟩⟩)))).set 9 (.d (SL none 7 cT.enc u.nr (dj u.gr (cP u.nr u.gr (e.gn 0)).toNat 2 u.Changed)))).set 14 (.ms σ.length 3 0 (u.nw+z))),.var zU,.var (r.enc.map .d),.var [.d (I 0),.d (I 0),.d (I 0),.d (I 0),.d (.v (.slice none 0 0))]])) (fun z=>z<=0) (fun z=>0-z) 0 au (rfl) an an ?_;rintro z hz;refine wH ?_;refine gc [3,6,8,139,140,141] ?_ ?_<;>intro d17
         ·exfalso;omega
         ·obtain rfl:z=0:=by omega
          have hX:vW u m rg e= { nF u e r with nw:=u.nw+0,gw:=jD u e r (fun _=>⟨0,0⟩:Nat->Cnt) } :=by grind [vW]
          simp[go_sem];refine aF bc σ.length ?_;refine wi ?_;refine gc [3,6] ?_ ?_<;>intro d18
          ·have hE:ml u m rg e=12:=by grind [gT]
           refine wA ?_;rw[hE,hX];simp[go_sem,hd,nF,dz,hpl,hid];exact ae bf
          ·have hE:ml u m rg e=0:=by grind [gT]
           refine wA ?_;rw[hE,hX];simp[go_sem,hd,nF,dz,hpl,hid];exact ae bf
noncomputable def Po(u:Use)(m:Nat)(rg:Nat->Row)(e:Ev):Int:=
 if e.Kind=53 then Ge u m rg e
 else if e.Kind=54 then ml u m rg e
 else if e.Kind=55 then x3 u e
 else if e.Kind=56 then QM u e
 else 0
def akX(u:Use)(e:Ev):Use:= { u with nr:=if dB u.nr u.gr (gG u e)=0 then u.nr+1 else 0,gr:=aL u.gr u.nr (gL (gG u e)) }
def boX(u:Use)(e:Ev):Use:= { u with nk:=if lZ u.gq u.nk u.gk (mC e)=0 then u.nk+1 else 0,gk:=aL u.gk u.nk (mC e) }
noncomputable def Rj(u:Use)(m:Nat)(rg:Nat->Row)(e:Ev):Use:=
 if e.Kind=53 then(if(cp u.nb u.gb (e.gn 2)).2.2=false then u else if jc u m rg e (e.gn 1) (e.gn 2)=false then u else akX u e)
 else if e.Kind=54 then vW u m rg e
 else if e.Kind=55 then VP u e
 else if e.Kind=56 then(if e.gn 2<e.Day then u else boX u e)
 else u
theorem Gs(u c m rg e)(hu:br u)(hv:bX u.nv u.gv=0)(hm:m<1000000000)(hd:u.Changed=e.Day)(hok:okB e=true)(bc:gJ σ):CS prog 41 [.agg (u.cells (.ms σ.length 3 0 u.nw)),.d (SL c 3 Row.enc m rg),.agg (e.enc.map .d)] (σ++[.arr 3 u.nw (fun q=>ke.enc (u.gw q)),.var nU]) (fun r σ' X'=>X'=[σ.length]/\r= .cj [.agg ((Rj u m rg e).cells (Rj u m rg e).aX),.d (I (Po u m rg e))]/\σ'=σ++[.dead,.var nU]):=by
 have b1:=hu.nb;have b3:=hu.nv;have b4:=hu.nr;have b5:=hu.nk;have hpl:=nx hv;have hbx: ∀i,i<u.nb->(u.gb i).nc<=1000000:=hu.bx;obtain⟨q1,q2⟩:=Fs hok;refine CS.Gc false [σ.length] func41 fun hwf=> ?_;refine wU ?_;refine wU ?_;refine gc [1,3,5,6,8,9,16] ?_ ?_<;>intro d0
 ·have hk:e.Kind=53:=ai;rw[hk] at q1 q2;simp[cx] at q1 q2;have n6:3<=e.nn:=aa;have hE:Po u m rg e=Ge u m rg e:=by grind [Po]
  have hX:Rj u m rg e=(if(cp u.nb u.gb (e.gn 2)).2.2=false then u else if jc u m rg e (e.gn 1) (e.gn 2)=false then u else akX u e):=by grind [Rj]
  simp[go_sem];refine T.dr 12 fun K hK=> ?_;refine wB ?_;refine bK.mk (jH _ none u.nb u.gb (e.gn 2) aa hbx) ?_;refine wd hK ?_;refine gc [1,3,5,6,8,10] ?_ ?_<;>intro d1
  ·have hl:(cp u.nb u.gb (e.gn 2)).2.2=false:=ai;rw[show Ge u m rg e=7 from if_pos hl] at hE;rw[if_pos hl] at hX;simp[go_sem];refine aF bc σ.length ?_;refine wJ ?_;rw[hE,hX];simp[go_sem,hd];exact ae bf
  ·have hl: ¬(cp u.nb u.gb (e.gn 2)).2.2=false:=ai;rw[if_neg hl] at hX;simp[go_sem];refine T.dr 10 fun K hK=> ?_;refine wB ?_;refine bK.mk (pn _ u σ.length u.nw c m rg e (e.gn 1) (e.gn 2) hu.P hm hd an) ?_;refine wD hK ?_;refine go false ?_;refine gc [3,5,6,8,10] ?_ ?_<;>intro d2
   ·have hl2:jc u m rg e (e.gn 1) (e.gn 2)=false:=ai;rw[show Ge u m rg e=22 by grind [Ge]] at hE;rw[if_pos hl2] at hX;simp[go_sem];refine aF bc σ.length ?_;refine wJ ?_;rw[hE,hX];simp[go_sem,hd];exact ae bf
   ·have hl2: ¬jc u m rg e (e.gn 1) (e.gn 2)=false:=ai;rw[show Ge u m rg e=dB u.nr u.gr (gG u e) by grind [Ge]] at hE;rw[if_neg hl2] at hX;simp[go_sem];refine aF bc σ.length ?_;apply Mix.bA 21 [(20,none)] [[0,1,2,3,4,5,6,7,8,9,10,11,12,13,14,15,16,17,19]] [(.undef,(σ++[.dead,.var nU,.var ((u.cells u.aX).set 9 (.d (SL none 7 cT.enc (if dB u.nr u.gr (gG u e)=0 then u.nr+1 else 0) (aL u.gr u.nr (gL (gG u e)))))),.var (e.enc.map .d),.var zU]))] T.mixed aD
    ·intro K hK;refine wB ?_;refine bK.mk (Ec _ none u.nr u.gr (gG u e) aa) ?_;simp[go_sem];exact hK _ _
    ·refine Mix.aw ?_ (Mix.aW)
     ·intro K hK;simp[go_sem];grind
    ·refine Mix.aG ?_ (Mix.bn)
     ·simp[go_sem];all_goals first|rfl|omega|skip
    intro K hK;refine wQ hK ?_;rw[hE,hX];simp[go_sem,hd,akX];exact ae bf
 ·have n53: ¬e.Kind=53:=ai;refine wH ?_;refine gc [1,3,5,6,8,9,16] ?_ ?_<;>intro d3
  ·have hk:e.Kind=54:=ai;rw[hk] at q1 q2;simp[cx] at q1 q2;have n6:1<=e.nn:=aa;have hE:Po u m rg e=ml u m rg e:=by grind [Po]
   have hX:Rj u m rg e=vW u m rg e:=by grind [Rj]
   simp[go_sem];apply Pf.gZ 8 5 70 (.cj [.agg ((vW u m rg e).cells (vW u m rg e).aX),.d (I (ml u m rg e))]) ((σ++[.dead,.var nU,.var nU,.var (e.enc.map .d),.var zU])) ([σ.length]) [0,1,2,3,4] T.mixed aD
   ·intro K hK;refine wB ?_;exact hK _ _
   ·decide
   ·simp[go_sem];exact CS.hide (σ.length+2) (by simp;rfl) au (CS.mono (BW σ u c m rg e hu hv hm hd bc) (by rintro r σ1 X ⟨rfl,rfl,rfl⟩;simp[go_sem]))
   ·intro K hK;simp[go_sem];exact hK _ _
   ·simp[go_sem]
   intro K hK;refine wQ hK ?_;rw[hE,hX];simp[go_sem];exact ae bf
  ·have n54: ¬e.Kind=54:=ai;refine wH ?_;refine gc [3,5,6,8,9,16] ?_ ?_<;>intro d4
   ·have hk:e.Kind=55:=ai;rw[hk] at q1 q2;simp[cx] at q1 q2;have n6:2<=e.nn:=aa;have hE:Po u m rg e=x3 u e:=by grind [Po]
    have hX:Rj u m rg e=VP u e:=by grind [Rj]
    simp[go_sem];refine aF bc σ.length ?_;refine T.dr 10 fun K hK=> ?_;refine wB ?_;refine bK.mk (D7 _ u e hu hv hd) ?_;refine wQ hK ?_;rw[hE,hX];simp[go_sem,hd];exact ae bf
   ·have n55: ¬e.Kind=55:=ai;refine wH ?_;refine gc [3,5,6,8,9] ?_ ?_<;>intro d5
    ·have hk:e.Kind=56:=ai;rw[hk] at q1 q2;simp[cx] at q1 q2;have n6:4<=e.nn:=aa;have hE:Po u m rg e=QM u e:=by grind [Po]
     have hX:Rj u m rg e=(if e.gn 2<e.Day then u else boX u e):=by grind [Rj]
     simp[go_sem];refine aF bc σ.length ?_;refine T.dr 6 fun K hK=> ?_;refine wB ?_;refine hK _ ?_;refine go true ?_;refine gc [3,6,8] ?_ ?_<;>intro d6
     ·have hl:e.gn 2<e.Day:=ai;rw[show QM u e=5 from if_pos hl] at hE;rw[if_pos hl] at hX;refine wA ?_;rw[hE,hX];simp[go_sem,hd];exact ae bf
     ·have hl: ¬e.gn 2<e.Day:=ai;rw[show QM u e=lZ u.gq u.nk u.gk (mC e) from if_neg hl] at hE;rw[if_neg hl] at hX;simp[go_sem];apply Mix.bA 24 [(23,none)] [[0,1,2,3,4,5,6,7,8,9,10,11,12,13,14,15,16,17,18,19,20,22]] [(.undef,(σ++[.dead,.var nU,.var ((u.cells u.aX).set 11 (.d (SL none 4 ju.enc (if lZ u.gq u.nk u.gk (mC e)=0 then u.nk+1 else 0) (aL u.gk u.nk (mC e))))),.var (e.enc.map .d),.var zU]))] T.mixed aD
      ·intro K hK;refine wB ?_;refine bK.mk (Ea _ u.gq none u.nk u.gk (mC e) aa) ?_;simp[go_sem];exact hK _ _
      ·refine Mix.aw ?_ (Mix.aW)
       ·intro K hK;simp[go_sem];grind
      ·refine Mix.aG ?_ (Mix.bn)
       ·simp[go_sem];all_goals first|rfl|omega|skip
      intro K hK;refine wQ hK ?_;rw[hE,hX];simp[go_sem,hd,boX];exact ae bf
    ·have n56: ¬e.Kind=56:=ai;have hE:Po u m rg e=0:=by grind [Po]
     have hX:Rj u m rg e=u:=by grind [Rj]
     simp[go_sem];refine aF bc σ.length ?_;refine wJ ?_;rw[hE,hX];simp[go_sem,hd];exact ae bf
noncomputable def vG(u:Use)(e:Ev):Int:=if e.Kind=57 then Pb u e else if e.Kind=58 then LS u e else Cs u e
noncomputable def ud(u:Use)(e:Ev):Use:=
 if e.Kind=57 then(if 0<u.nt/\e.gn 0<=(u.gt (u.nt-1)).ID\/64<=u.nt then u else VU u e)
 else if iK u e<0 then u
 else if e.Kind=58 then Rz u e
 else if(gy u e).2≠0 then E6 u e
 else Nz u e
theorem abl{u}(h: ∀i,i<u.nt->KW u i){e} :nG (fun k=>(u.gt k).ID==e.gn 0) u.nt=iK u e:=
 Ui (p:=fun b:ek=>b.ID==e.gn 0) fun i j hij hj h1 h2=>by
  have:=F4 (f:=ek.ID) (fun i hi h0=>(h i hi).2 h0) (show i≠j by omega) aa hj;simp at h1 h2;omega
theorem vf(σ u e)(hu:br u)(hba: ∀i,i<u.nt->KW u i)(ahx:u.nt<=64)(hok:okB e=true)(hk:e.Kind=57\/e.Kind=58\/e.Kind=59)(hb:e.nn<=1000)(h0:σ[0]? =some (.tab 0 dG))(bc:gJ σ):CS prog 42 [.agg ((u.cells u.aX).set 12 (.ms σ.length 8 0 u.nt)),.agg (e.enc.map .d)] (σ++[.arr 8 u.nt (fun q=>ek.enc (u.gt q)),.dead,.var nU]) (fun r σ' X'=>X'=[σ.length]/\r= .cj [.agg ((ud u e).cells (ud u e).aX),.d (I (vG u e))]/\σ'=σ++[.dead,.dead,.var nU]):=by
 have b6:=hu.nt;have b7:=hu.nl;obtain⟨q1,q2⟩:=Fs hok;have q3:1<=e.nn/\(e.Kind=57->3<=e.nn):=by
  rcases hk with hk|hk|hk<;>rw[hk] at q2<;>simp[cx] at q2<;>exact⟨aa,fun h=>aa⟩
 have hwp:=aT (i:=u.nt) aa;have hwl:=aT (i:=u.nl) aa;have had:lM (e.gn 0) e.Day (e.nn-3) (fun i=>e.gn (3+i)) (e.gn 1) (e.gn 2)=Iv u e:=rfl;refine CS.Gc true [σ.length] func42 fun hwf=> ?_;refine gc [2,3,4,6] ?_ ?_<;>intro d0
 ·have XX:e.Kind=57:=l5;have h3n:=q3.2 XX;have h3:((e.nn:Int)-3).toNat=e.nn-3:=aa;have hE0:vG u e=Pb u e:=if_pos XX;have hX0:ud u e=(if 0<u.nt/\e.gn 0<=(u.gt (u.nt-1)).ID\/64<=u.nt then u else VU u e):=if_pos XX;simp[go_sem];refine T.dr 15 fun K hK=> ?_;simp[go_sem,hwp];refine wG hK ?_;refine go false ?_;refine gc [2,3,4,6] ?_ ?_<;>intro d1
  ·have hl:0<u.nt/\e.gn 0<=(u.gt (u.nt-1)).ID:=aa;have hE:vG u e=5:=by rw[hE0];exact if_pos hl
   have hX:ud u e=u:=by rw[hX0,if_pos (.inl hl)]
   simp[go_sem];refine aF bc σ.length ?_;refine wJ ?_;rw[hE,hX];simp[go_sem];exact ae bf
  ·have hl: ¬(0<u.nt/\e.gn 0<=(u.gt (u.nt-1)).ID):=aa;refine wH ?_;refine gc [2,3,4,6] ?_ ?_<;>intro d2
   ·have hE:vG u e=12:=by rw[hE0];unfold Pb;rw[if_neg hl,if_pos aa]
    have hX:ud u e=u:=by rw[hX0,if_pos (.inr aa)]
    simp[go_sem];refine aF bc σ.length ?_;refine wJ ?_;rw[hE,hX];simp[go_sem];exact ae bf
   ·have hE:vG u e=(Iv u e).2:=by rw[hE0];unfold Pb;rw[if_neg hl,if_neg aa]
    have hX:ud u e=VU u e:=by rw[hX0,if_neg aa]
    simp[go_sem];apply cU 19 17 18 T.mixed aD
    ·intro τ K hK;simp[go_sem,h3];repeat refine⟨aa,?_⟩
     refine bK.mk ((Gw _ (e.gn 0) e.Day (e.nn-3) (fun i=>e.gn (3+i)) (e.gn 1) (e.gn 2) aa (ay h0)).sub (by simp[go_sem,mY,my,Go.aI.aK])) ?_;simp[go_sem,had];exact hK _ _
    intro K hK;refine wD hK ?_;refine go false ?_;simp[go_sem,bc.zero];repeat refine⟨aa,?_⟩
    refine ax σ.length (fun q=>ek.enc (aL u.gt u.nt (Iv u e).1 q)) bj (by exact fun q hq=>gu (enc:=ek.enc) (x:=(Iv u e).1) rfl q hq) aN ?_;refine aF bc σ.length ?_;refine wa ?_;refine af ?_;rw[hE,hX];simp[go_sem,VU];exact ae bf
 ·have XX: ¬e.Kind=57:=l5;have hE0:vG u e=(if e.Kind=58 then LS u e else Cs u e):=if_neg XX;have h1n:((e.nn:Int)-1).toNat=e.nn-1:=aa;simp[go_sem];refine mA (α:=Nat) false [2,3,4,6,11,71,72,73] (fun k=>[(73,.d (I k)),(11,.d (I (nG (fun k=>(u.gt k).ID==e.gn 0) k)))]) (fun k=>(σ++[.arr 8 u.nt (fun q=>ek.enc (u.gt q)),.dead,.var nU,.var ((u.cells u.aX).set 12 (.ms σ.length 8 0 u.nt)),.var (e.enc.map .d),.var zU])) (fun k=>k<=u.nt) (fun k=>u.nt-k) 0 (by simp[go_sem,nG]) (rfl) an ?_;rintro k hkn;refine wH ?_;refine gc [2,3,4,6,11,71,72,73] ?_ ?_<;>intro d3
  ·have hk5:k<u.nt:=aa;simp[go_sem,hk5];refine wb ?_;refine T.dr 6 fun K hK=> ?_;refine wB ?_;refine hK _ ?_;refine go true ?_;refine gc [2,3,4,6,11,12,71,72,73] ?_ ?_<;>intro d4
   ·have hs:nG (fun k=>(u.gt k).ID==e.gn 0) (k+1)=(k:Int):=by rw[nG,if_pos uo]
    refine wC ?_;refine bF (k+1) aa (h:=mr) (hσ:=au) (hb:=ae au)
   ·have hs:nG (fun k=>(u.gt k).ID==e.gn 0) (k+1)=nG (fun k=>(u.gt k).ID==e.gn 0) k:=by rw[nG,if_neg uo]
    refine wC ?_;refine bF (k+1) aa (h:=mr) (hσ:=au) (hb:=ae au)
  ·obtain rfl:k=u.nt:=by omega
   have hbt:=abl hba (e:=e);have hlt:=yv u e;simp[go_sem,hbt];refine wM ?_;refine go false ?_;refine gc [2,3,4,6,11] ?_ ?_<;>intro d5
   ·have hl:iK u e<0:=Dj;have hE:vG u e=7:=by rw[hE0];split;exact if_pos hl;exact if_pos hl
    have hX:ud u e=u:=by unfold ud;rw[if_neg XX,if_pos hl]
    simp[go_sem];refine aF bc σ.length ?_;refine wJ ?_;rw[hE,hX];simp[go_sem];exact ae bf
   ·have hl: ¬iK u e<0:=Dj;obtain⟨i,hi⟩: ∃i:Nat,iK u e=(i:Int):=⟨(iK u e).toNat,aa⟩;have hin:i<u.nt:=aa;have g1:=hu.bu i hin;have g2:=hu.bb i hin;have hip:dD (u.gt i) (e.nn-1) (fun i=>e.gn (1+i))=gy u e:=by unfold gy;rw[hi,Int.toNat_natCast]
    simp[go_sem,hi];refine go true ?_;refine gc [2,4,6,11] ?_ ?_<;>intro d6
    ·have hk8:e.Kind=58:=vX;have hE:vG u e=(dJ (u.gt i)).2:=by rw[hE0,if_pos hk8];unfold LS;rw[if_neg hl,hi,Int.toNat_natCast]
     have hX:ud u e= { u with gt:=cJ u.gt i (dJ (u.gt i)).1 } :=by unfold ud;rw[if_neg XX,if_neg hl,if_pos hk8];unfold Rz;rw[hi,Int.toNat_natCast]
     simp[go_sem];apply Mix.bA 14 [(13,none)] [[0,1,2,3,4,5,6,7,8,9,10,12]] [(.undef,(σ++[.arr 8 u.nt (fun q=>if q=i then ek.enc (dJ (u.gt i)).1 else ek.enc (u.gt q)),.dead,.var nU,.var ((u.cells u.aX).set 12 (.ms σ.length 8 0 u.nt)),.var (e.enc.map .d),.var zU]))] T.mixed aD
     ·intro K hK;simp[go_sem,hin];refine bK.mk (Gv _ (u.gt i) aa aa (ay h0)) ?_;simp[go_sem,hin];exact hK _ _
     ·refine Mix.aw ?_ (Mix.aW)
      ·intro K hK;simp[go_sem];exact hK _ _
     ·refine Mix.aG ?_ (Mix.bn)
      ·simp[go_sem,hin];all_goals first|rfl|omega|skip
     intro K hK;refine wD hK ?_;refine ax σ.length (fun q=>ek.enc (cJ u.gt i (dJ (u.gt i)).1 q)) bj Re aN ?_;refine aF bc σ.length ?_;refine wa ?_;refine af ?_;rw[hE,hX];simp[go_sem];exact ae bf
    ·have hk8: ¬e.Kind=58:=vX;have hE1:vG u e=Cs u e:=by rw[hE0,if_neg hk8]
     have hU1:E6 u e= { u with gt:=cJ u.gt i (gy u e).1 } :=by unfold E6;rw[hi,Int.toNat_natCast]
     simp[go_sem];apply Mix.bA 16 [(15,none)] [[0,1,2,3,4,5,6,7,8,9,10,11,12,14]] [(.undef,(σ++[.arr 8 u.nt (fun q=>if q=i then ek.enc (gy u e).1 else ek.enc (u.gt q)),.dead,.var nU,.var ((u.cells u.aX).set 12 (.ms σ.length 8 0 u.nt)),.var (e.enc.map .d),.var zU]))] T.mixed aD
     ·intro K hK;simp[go_sem,h1n,hin];repeat refine⟨aa,?_⟩
      refine bK.mk ((zd _ (u.gt i) (e.nn-1) (fun i=>e.gn (1+i)) aa aa aa (ay h0)).sub (by simp[go_sem,mY,my,bw,Go.aI.aK])) ?_;simp[go_sem,hin,hip];exact hK _ _
     ·refine Mix.aw ?_ (Mix.aW)
      ·intro K hK;simp[go_sem];exact hK _ _
     ·refine Mix.aG ?_ (Mix.bn)
      ·simp[go_sem,hin];all_goals first|rfl|omega|skip
     intro K hK;refine wD hK ?_;refine ax σ.length (fun q=>ek.enc (cJ u.gt i (gy u e).1 q)) bj Re aN ?_;refine aF bc σ.length ?_;refine go false ?_;simp[go_sem,hin];refine go true ?_;refine gc [2,4,7,11] ?_ ?_<;>intro d7
     ·have g3:cJ u.gt i (gy u e).1 i=(gy u e).1:=if_pos rfl;rw[g3] at d7;have hE:vG u e=(gy u e).2:=by
       rw[hE1];unfold Cs;rw[if_neg hl];by_cases h:(gy u e).2≠0
       ·rw[if_pos h]
       ·rw[if_neg h,if_pos ai];omega
      have hX:ud u e= { u with gt:=cJ u.gt i (gy u e).1 } :=by
       unfold ud;rw[if_neg XX,if_neg hl,if_neg hk8,←hU1];by_cases h:(gy u e).2≠0
       ·rw[if_pos h]
       ·rw[if_neg h];unfold Nz;rw[if_pos ai]
      refine wA ?_;rw[hE,hX];simp[go_sem,cJ];exact ae bf
     ·have g3:cJ u.gt i (gy u e).1 i=(gy u e).1:=if_pos rfl;rw[g3] at d7;have hn2:(gy u e).2=0/\(gy u e).1.State=3:=by simpa using d7
      have hE:vG u e=fp u.gl u.nl (gy u e).1 (E7 u):=by rw[hE1];unfold Cs;rw[if_neg hl,if_neg (fun h=>h hn2.1),if_neg (fun h=>h hn2.2)]
      have hX:ud u e= { u with gt:=cJ u.gt i (gy u e).1,nl:=nD u.gl u.nl (gy u e).1 (E7 u),gl:=sB u.gl u.nl (gy u e).1 (E7 u) } :=by unfold ud;rw[if_neg XX,if_neg hl,if_neg hk8,if_neg (fun h=>h hn2.1)];unfold Nz;rw[if_neg (fun h=>h hn2.2),hU1]
      have g4:(gy u e).1.nu<1000000000/\(gy u e).1.nb<1000000000:=by rw[←hip];exact Sp aa aa
      refine gc [2,4,11,14,15] ?_ ?_<;>intro d8
      ·have hf:E7 u=IntKind.i64.wrap ((u.gl (u.nl-1)).fx+1):=if_pos aa;rw[hf] at hE hX;simp(disch:=first|omega|simp) [go_sem,hwl];repeat refine⟨aa,?_⟩
       apply Mix.bA 14 [(13,none)] [[0,1,2,3,4,5,6,7,8,9,10,12]] [(.undef,(σ++[.dead,.dead,.var nU,.var (((u.cells u.aX).set 12 (.d (SL none 8 ek.enc u.nt (cJ u.gt i (gy u e).1)))).set 13 (.d (SL none 2 kE.enc (nD u.gl u.nl (gy u e).1 (IntKind.i64.wrap ((u.gl (u.nl-1)).fx+1))) (sB u.gl u.nl (gy u e).1 (IntKind.i64.wrap ((u.gl (u.nl-1)).fx+1)))))),.var (e.enc.map .d),.var zU]))] T.mixed aD
       ·intro K hK;simp[go_sem,hin,g3];refine bK.mk (uD _ u.nl u.gl (gy u e).1 _ aa g4.1 g4.2 (ay h0)) ?_;simp[go_sem];exact hK _ _
       ·refine Mix.aw ?_ (Mix.aW)
        ·intro K hK;simp[go_sem];exact hK _ _
       ·refine Mix.aG ?_ (Mix.bn)
        ·simp[go_sem];all_goals first|rfl|omega|skip
       intro K hK;refine wQ hK ?_;rw[hE,hX];simp[go_sem,cJ];exact ae bf
      ·have hf:E7 u=1:=if_neg aa;rw[hf] at hE hX;simp[go_sem];apply Mix.bA 14 [(13,none)] [[0,1,2,3,4,5,6,7,8,9,10,12]] [(.undef,(σ++[.dead,.dead,.var nU,.var (((u.cells u.aX).set 12 (.d (SL none 8 ek.enc u.nt (cJ u.gt i (gy u e).1)))).set 13 (.d (SL none 2 kE.enc (nD u.gl u.nl (gy u e).1 (1)) (sB u.gl u.nl (gy u e).1 (1))))),.var (e.enc.map .d),.var zU]))] T.mixed aD
       ·intro K hK;simp[go_sem,hin,g3];refine bK.mk (uD _ u.nl u.gl (gy u e).1 1 aa g4.1 g4.2 (ay h0)) ?_;simp[go_sem];exact hK _ _
       ·refine Mix.aw ?_ (Mix.aW)
        ·intro K hK;simp[go_sem];exact hK _ _
       ·refine Mix.aG ?_ (Mix.bn)
        ·simp[go_sem];all_goals first|rfl|omega|skip
       intro K hK;refine wQ hK ?_;rw[hE,hX];simp[go_sem,cJ];exact ae bf
end Go.Proofs.YthpplckmbbachaaGreatDoor
