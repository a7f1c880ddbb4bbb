/- Lemmas, no conditions. -/
import Derived.Test.YthpplckmbbachaaGreatDoorKB28
set_option linter.unusedVariables false
set_option linter.unusedSimpArgs false
set_option maxHeartbeats 4000000
set_option maxRecDepth 100000
namespace Go.Proofs.YthpplckmbbachaaGreatDoor
open Go.aI Go.bI Go.Proofs.Tryz
variable (σ : List aZ)
theorem Gj(u)(hu:br u):CS prog 50 [.agg (u.cells u.aX)] σ (fun r σ' X=>r= .agg (u.own (σ.length+3))/\σ'=σ++[.var (u.own (σ.length+3)),.var (u.own (σ.length+3)),.dead]++u.blks/\X=[σ.length+2]):=by
 have b0:=hu.P.ns;have b9:=hu.P.nc;have b10:=hu.P.np;have b11:=hu.P.na;have b12:=hu.P.nm;have b1:=hu.nb;have b2:=hu.nf;have b3:=hu.nv;have b4:=hu.nr;have b5:=hu.nk;have b6:=hu.nt;have b7:=hu.nl;have b8:=hu.nw;refine CS.beW func50 fun hwf=> ?_;refine we ?_;apply Mix.cw 45 [(9,some 17),(14,some 22),(19,some 27),(24,some 32),(32,none),(35,none),(38,none),(41,none),(44,none)] [[5,6,7,8],[6,7,8,10,11,12,13],[7,8,11,12,13,15,16,17,18],[8,12,13,16,17,18,20,21,22,23],[0,5,6,7,8,10,11,12,13,15,16,17,18,20,21,22,23,25,26,27,28,29,30,31],[0,1,5,6,7,8,10,11,12,13,15,16,17,18,20,21,22,23,25,26,27,28,29,30,31,33,34],[0,1,2,5,6,7,8,10,11,12,13,15,16,17,18,20,21,22,23,25,26,27,28,29,30,31,33,34,36,37],[0,1,2,3,5,6,7,8,10,11,12,13,15,16,17,18,20,21,22,23,25,26,27,28,29,30,31,33,34,36,37,39,40],[0,1,2,3,4,5,6,7,8,10,11,12,13,15,16,17,18,20,21,22,23,25,26,27,28,29,30,31,33,34,36,37,39,40,42,43]] [(.ms (σ.length+2) 5 0 u.P.ns,(σ++[.var (u.cells u.aX),.var zU,.arr 5 u.P.ns (fun i=>ej.enc (u.P.gs i))])),(.ms (σ.length+3) 6 0 u.P.nc,(σ++[.var (u.cells u.aX),.var zU,.arr 5 u.P.ns (fun i=>ej.enc (u.P.gs i)),.arr 6 u.P.nc (fun i=>Rule.enc (u.P.gc i))])),(.ms (σ.length+4) 6 0 u.P.np,(σ++[.var (u.cells u.aX),.var zU,.arr 5 u.P.ns (fun i=>ej.enc (u.P.gs i)),.arr 6 u.P.nc (fun i=>Rule.enc (u.P.gc i)),.arr 6 u.P.np (fun i=>dF.enc (u.P.gp i))])),(.ms (σ.length+5) 6 0 u.P.na,(σ++[.var (u.cells u.aX),.var zU,.arr 5 u.P.ns (fun i=>ej.enc (u.P.gs i)),.arr 6 u.P.nc (fun i=>Rule.enc (u.P.gc i)),.arr 6 u.P.np (fun i=>dF.enc (u.P.gp i)),.arr 6 u.P.na (fun i=>fM.enc (u.P.ga i))])),(.undef,(σ++[.var ((u.cells u.aX).set 0 (.ms (σ.length+2) 5 0 u.P.ns)),.var zU,.arr 5 u.P.ns (fun i=>ej.enc (u.P.gs i)),.arr 6 u.P.nc (fun i=>Rule.enc (u.P.gc i)),.arr 6 u.P.np (fun i=>dF.enc (u.P.gp i)),.arr 6 u.P.na (fun i=>fM.enc (u.P.ga i))])),(.undef,(σ++[.var (((u.cells u.aX).set 0 (.ms (σ.length+2) 5 0 u.P.ns)).set 1 (.ms (σ.length+3) 6 0 u.P.nc)),.var zU,.arr 5 u.P.ns (fun i=>ej.enc (u.P.gs i)),.arr 6 u.P.nc (fun i=>Rule.enc (u.P.gc i)),.arr 6 u.P.np (fun i=>dF.enc (u.P.gp i)),.arr 6 u.P.na (fun i=>fM.enc (u.P.ga i))])),(.undef,(σ++[.var ((((u.cells u.aX).set 0 (.ms (σ.length+2) 5 0 u.P.ns)).set 1 (.ms (σ.length+3) 6 0 u.P.nc)).set 2 (.ms (σ.length+4) 6 0 u.P.np)),.var zU,.arr 5 u.P.ns (fun i=>ej.enc (u.P.gs i)),.arr 6 u.P.nc (fun i=>Rule.enc (u.P.gc i)),.arr 6 u.P.np (fun i=>dF.enc (u.P.gp i)),.arr 6 u.P.na (fun i=>fM.enc (u.P.ga i))])),(.undef,(σ++[.var (((((u.cells u.aX).set 0 (.ms (σ.length+2) 5 0 u.P.ns)).set 1 (.ms (σ.length+3) 6 0 u.P.nc)).set 2 (.ms (σ.length+4) 6 0 u.P.np)).set 4 (.ms (σ.length+5) 6 0 u.P.na)),.var zU,.arr 5 u.P.ns (fun i=>ej.enc (u.P.gs i)),.arr 6 u.P.nc (fun i=>Rule.enc (u.P.gc i)),.arr 6 u.P.np (fun i=>dF.enc (u.P.gp i)),.arr 6 u.P.na (fun i=>fM.enc (u.P.ga i))])),(.undef,(σ++[.var (((((u.cells u.aX).set 0 (.ms (σ.length+2) 5 0 u.P.ns)).set 1 (.ms (σ.length+3) 6 0 u.P.nc)).set 2 (.ms (σ.length+4) 6 0 u.P.np)).set 4 (.ms (σ.length+5) 6 0 u.P.na)),.var zU,.arr 5 u.P.ns (fun i=>ej.enc (u.P.gs i)),.arr 6 u.P.nc (fun i=>Rule.enc (u.P.gc i)),.arr 6 u.P.np (fun i=>dF.enc (u.P.gp i)),.arr 6 u.P.na (fun i=>fM.enc (u.P.ga i))]))] T.mixed aD
 ·intro K hK;simp[go_sem];refine bK.mk (jW _ none u.P.nm u.P.gm aa) (sm ?_);exact hK _ _
 ·refine Mix.aw ?_ (Mix.aw ?_ (Mix.aw ?_ (Mix.aw ?_ (Mix.aw ?_ (Mix.aw ?_ (Mix.aw ?_ (Mix.aw ?_ (Mix.aw ?_ (Mix.aW)))))))))
  ·intro K hK;simp[go_sem];refine bK.mk (jW _ none u.P.nm u.P.gm aa) (sm ?_);exact hK _ _
  ·intro K hK;simp[go_sem];refine bK.mk (jW _ none u.P.nm u.P.gm aa) (sm ?_);exact hK _ _
  ·intro K hK;simp[go_sem];refine bK.mk (jW _ none u.P.nm u.P.gm aa) (sm ?_);exact hK _ _
  ·intro K hK;simp[go_sem];refine bK.mk (jW _ none u.P.nm u.P.gm aa) (sm ?_);exact hK _ _
  ·intro K hK;simp[go_sem];exact hK _ _
  ·intro K hK;simp[go_sem];exact hK _ _
  ·intro K hK;simp[go_sem];exact hK _ _
  ·intro K hK;simp[go_sem];exact hK _ _
  ·intro K hK;simp[go_sem];exact hK _ _
 ·refine Mix.aG ?_ (Mix.aG ?_ (Mix.aG ?_ (Mix.aG ?_ (Mix.aG ?_ (Mix.aG ?_ (Mix.aG ?_ (Mix.aG ?_ (Mix.aG ?_ (Mix.bn)))))))))
  ·simp[go_sem];exact CS.mono (yi _ none _ u.P.gs aa) Dl
  ·simp[go_sem];exact CS.mono (OD _ none _ u.P.gc aa) Dl
  ·simp[go_sem];exact CS.mono (yl _ none _ u.P.gp aa) Dl
  ·simp[go_sem];exact CS.mono (KA _ none _ u.P.ga aa) Dl
  ·simp[go_sem]
  ·simp[go_sem]
  ·simp[go_sem]
  ·simp[go_sem]
  ·simp[go_sem]
 intro K hK;refine wD hK ?_;refine aq ?_;refine wP ?_;refine aB ?_;refine ba [1,2,3,52,53] eE ?_;refine bB (α:=Nat) (fun i=>[(53,.d (I i))]) (fun i=>(σ++[.var (((((u.cells u.aX).set 0 (.ms (σ.length+2) 5 0 u.P.ns)).set 1 (.ms (σ.length+3) 6 0 u.P.nc)).set 2 (.ms (σ.length+4) 6 0 u.P.np)).set 4 (.ms (σ.length+5) 6 0 u.P.na)),.var zU,.arr 5 u.P.ns (fun i=>ej.enc (u.P.gs i)),.arr 6 u.P.nc (fun i=>Rule.enc (u.P.gc i)),.arr 6 u.P.np (fun i=>dF.enc (u.P.gp i)),.arr 6 u.P.na (fun i=>fM.enc (u.P.ga i))])) (fun i=>i<=u.P.ns) (fun i=>u.P.ns-i) 0 au (rfl) an ?_;rintro i hi;refine wP ?_;refine aq ?_;refine gF [1,2,3,52,53,54] ?_;refine ko ?_ ?_<;>intro d0
 ·have hi0:i<u.P.ns:=aa;have g0:=hu.P.ps i hi0;refine aJ ?_;refine aq ?_;refine aB ?_;refine aj fun K hK=> ?_;simp[go_sem,d0];refine hK _ ?_;refine T.dr 16 fun K hK=> ?_;simp[go_sem,d0];refine bK.mk (mL _ none (u.P.gs i).np (u.P.gs i).ps aa) ?_;simp[go_sem,d0];refine hK _ ?_;refine ax (σ.length+2) (fun i=>ej.enc (u.P.gs i)) bj (by intro q hq;by_cases h:q=i<;>simp[h,ej.enc]) aN ?_;refine aE fun K hK=> ?_;simp[go_sem];try simp(disch:=omega) only[aS]
  refine hK _ ?_;refine⟨i+1,bp au ((ae au)) iv,aa,AF⟩
 ·obtain rfl:i=u.P.ns:=by omega
  refine bN ?_;refine wV fun K hK=> ?_;refine az.gen (Bu _ none u.nb u.gb aa) ?_;rintro r σ' X ⟨rfl,rfl,rfl⟩;refine wD hK ?_;refine aq ?_;refine wE ?_;refine aB ?_;refine ba [1,2,79,80] eE ?_;refine bB (α:=Nat) (fun i=>[(80,.d (I i))]) (fun i=>(σ++[.var ((((((u.cells u.aX).set 0 (.ms (σ.length+2) 5 0 u.P.ns)).set 1 (.ms (σ.length+3) 6 0 u.P.nc)).set 2 (.ms (σ.length+4) 6 0 u.P.np)).set 4 (.ms (σ.length+5) 6 0 u.P.na)).set 6 (.ms (σ.length+6) 5 0 u.nb)),.var zU,.arr 5 u.P.ns (fun i=>ej.enc (u.P.gs i)),.arr 6 u.P.nc (fun i=>Rule.enc (u.P.gc i)),.arr 6 u.P.np (fun i=>dF.enc (u.P.gp i)),.arr 6 u.P.na (fun i=>fM.enc (u.P.ga i)),.arr 5 u.nb (fun i=>Bx.enc (u.gb i))])) (fun i=>i<=u.nb) (fun i=>u.nb-i) 0 au (rfl) an ?_;rintro i hi;refine wE ?_;refine aq ?_;refine gF [1,2,79,80,81] ?_;refine ko ?_ ?_<;>intro d1
  ·have hi0:i<u.nb:=aa;have g0:=hu.bx i hi0;refine aJ ?_;refine aq ?_;refine aB ?_;refine aj fun K hK=> ?_;simp[go_sem,d1];refine hK _ ?_;refine T.dr 12 fun K hK=> ?_;simp[go_sem,d1];refine bK.mk (Bt _ none (u.gb i).nc (u.gb i).gc aa) ?_;simp[go_sem,d1];refine hK _ ?_;refine ax (σ.length+6) (fun i=>Bx.enc (u.gb i)) bj (by intro q hq;by_cases h:q=i<;>simp[h,Bx.enc]) aN ?_;refine aE fun K hK=> ?_;simp[go_sem];try simp(disch:=omega) only[aS]
   refine hK _ ?_;refine⟨i+1,bp au ((ae au)) iv,aa,AF⟩
  ·obtain rfl:i=u.nb:=by omega
   refine bN ?_;apply Mix.cw 13 [(2,some 98)] [[0,1]] [(.ms (σ.length+7) 4 0 u.nf,(σ++[.var ((((((u.cells u.aX).set 0 (.ms (σ.length+2) 5 0 u.P.ns)).set 1 (.ms (σ.length+3) 6 0 u.P.nc)).set 2 (.ms (σ.length+4) 6 0 u.P.np)).set 4 (.ms (σ.length+5) 6 0 u.P.na)).set 6 (.ms (σ.length+6) 5 0 u.nb)),.var zU,.arr 5 u.P.ns (fun i=>ej.enc (u.P.gs i)),.arr 6 u.P.nc (fun i=>Rule.enc (u.P.gc i)),.arr 6 u.P.np (fun i=>dF.enc (u.P.gp i)),.arr 6 u.P.na (fun i=>fM.enc (u.P.ga i)),.arr 5 u.nb (fun i=>Bx.enc (u.gb i)),.arr 4 u.nf (fun i=>l4.enc (u.gf i))]))] T.mixed aD
   ·intro K hK;simp[go_sem];refine bK.mk (yn _ none u.nv u.gv aa) ?_;simp[go_sem];refine bK.mk (yk _ none u.nr u.gr aa) ?_;simp[go_sem];refine bK.mk (yq _ none u.nk u.gk aa) ?_;simp[go_sem];exact hK _ _
   ·refine Mix.aw ?_ (Mix.aW)
    ·intro K hK;simp[go_sem];refine bK.mk (yn _ none u.nv u.gv aa) ?_;simp[go_sem];refine bK.mk (yk _ none u.nr u.gr aa) ?_;simp[go_sem];refine bK.mk (yq _ none u.nk u.gk aa) ?_;simp[go_sem];exact hK _ _
   ·refine Mix.aG ?_ (Mix.bn)
    ·simp[go_sem];exact CS.mono (Kt _ none _ u.gf aa) Dl
   intro K hK;refine wD hK ?_;apply Mix.cw 10 [(2,some 114),(8,some 120)] [[0,1],[0,1,3,4,5,6,7]] [(.ms (σ.length+8) 8 0 u.nt,(σ++[.var (((((((u.cells u.aX).set 0 (.ms (σ.length+2) 5 0 u.P.ns)).set 1 (.ms (σ.length+3) 6 0 u.P.nc)).set 2 (.ms (σ.length+4) 6 0 u.P.np)).set 4 (.ms (σ.length+5) 6 0 u.P.na)).set 6 (.ms (σ.length+6) 5 0 u.nb)).set 7 (.ms (σ.length+7) 4 0 u.nf)),.var zU,.arr 5 u.P.ns (fun i=>ej.enc (u.P.gs i)),.arr 6 u.P.nc (fun i=>Rule.enc (u.P.gc i)),.arr 6 u.P.np (fun i=>dF.enc (u.P.gp i)),.arr 6 u.P.na (fun i=>fM.enc (u.P.ga i)),.arr 5 u.nb (fun i=>Bx.enc (u.gb i)),.arr 4 u.nf (fun i=>l4.enc (u.gf i)),.arr 8 u.nt (fun i=>ek.enc (u.gt i))])),(.ms (σ.length+9) 3 0 u.nw,(σ++[.var (((((((u.cells u.aX).set 0 (.ms (σ.length+2) 5 0 u.P.ns)).set 1 (.ms (σ.length+3) 6 0 u.P.nc)).set 2 (.ms (σ.length+4) 6 0 u.P.np)).set 4 (.ms (σ.length+5) 6 0 u.P.na)).set 6 (.ms (σ.length+6) 5 0 u.nb)).set 7 (.ms (σ.length+7) 4 0 u.nf)),.var zU,.arr 5 u.P.ns (fun i=>ej.enc (u.P.gs i)),.arr 6 u.P.nc (fun i=>Rule.enc (u.P.gc i)),.arr 6 u.P.np (fun i=>dF.enc (u.P.gp i)),.arr 6 u.P.na (fun i=>fM.enc (u.P.ga i)),.arr 5 u.nb (fun i=>Bx.enc (u.gb i)),.arr 4 u.nf (fun i=>l4.enc (u.gf i)),.arr 8 u.nt (fun i=>ek.enc (u.gt i)),.arr 3 u.nw (fun i=>ke.enc (u.gw i))]))] T.mixed aD
   ·intro K hK;simp[go_sem];refine bK.mk (yo _ none u.nl u.gl aa) ?_;simp[go_sem];exact hK _ _
   ·refine Mix.aw ?_ (Mix.aw ?_ (Mix.aW))
    ·intro K hK;simp[go_sem];refine bK.mk (yo _ none u.nl u.gl aa) ?_;simp[go_sem];exact hK _ _
    ·intro K hK;simp[go_sem];exact hK _ _
   ·refine Mix.aG ?_ (Mix.aG ?_ (Mix.bn))
    ·simp[go_sem];exact CS.mono (Kz _ none _ u.gt aa) Dl
    ·simp[go_sem];exact CS.mono (Ks _ none _ u.gw aa) Dl
   intro K hK;refine wD hK ?_;refine aq ?_;refine wE ?_;refine aB ?_;refine ba [1,2,126,127] eE ?_;refine bB (α:=Nat) (fun i=>[(127,.d (I i))]) (fun i=>(σ++[.var (((((((((u.cells u.aX).set 0 (.ms (σ.length+2) 5 0 u.P.ns)).set 1 (.ms (σ.length+3) 6 0 u.P.nc)).set 2 (.ms (σ.length+4) 6 0 u.P.np)).set 4 (.ms (σ.length+5) 6 0 u.P.na)).set 6 (.ms (σ.length+6) 5 0 u.nb)).set 7 (.ms (σ.length+7) 4 0 u.nf)).set 12 (.ms (σ.length+8) 8 0 u.nt)).set 14 (.ms (σ.length+9) 3 0 u.nw)),.var zU,.arr 5 u.P.ns (fun i=>ej.enc (u.P.gs i)),.arr 6 u.P.nc (fun i=>Rule.enc (u.P.gc i)),.arr 6 u.P.np (fun i=>dF.enc (u.P.gp i)),.arr 6 u.P.na (fun i=>fM.enc (u.P.ga i)),.arr 5 u.nb (fun i=>Bx.enc (u.gb i)),.arr 4 u.nf (fun i=>l4.enc (u.gf i)),.arr 8 u.nt (fun i=>ek.enc (u.gt i)),.arr 3 u.nw (fun i=>ke.enc (u.gw i))])) (fun i=>i<=u.nt) (fun i=>u.nt-i) 0 au (rfl) an ?_;rintro i hi;refine wE ?_;refine aq ?_;refine gF [1,2,126,127,128] ?_;refine ko ?_ ?_<;>intro d2
   ·have hi0:i<u.nt:=aa;have g0:=hu.bu i hi0;have g1:=hu.bb i hi0;refine aJ ?_;refine aq ?_;refine aB ?_;refine aj fun K hK=> ?_;simp[go_sem,d2];refine hK _ ?_;apply Mix.bA 26 [(22,none),(25,none)] [[0,1,2,3,4,6,7,8,9,10,11,12,13,14,15,16,17,18,19,20,21],[0,1,2,3,4,5,6,7,8,9,10,11,12,13,14,15,16,17,18,19,20,21,23,24]] [(.undef,(σ++[.var (((((((((u.cells u.aX).set 0 (.ms (σ.length+2) 5 0 u.P.ns)).set 1 (.ms (σ.length+3) 6 0 u.P.nc)).set 2 (.ms (σ.length+4) 6 0 u.P.np)).set 4 (.ms (σ.length+5) 6 0 u.P.na)).set 6 (.ms (σ.length+6) 5 0 u.nb)).set 7 (.ms (σ.length+7) 4 0 u.nf)).set 12 (.ms (σ.length+8) 8 0 u.nt)).set 14 (.ms (σ.length+9) 3 0 u.nw)),.var zU,.arr 5 u.P.ns (fun i=>ej.enc (u.P.gs i)),.arr 6 u.P.nc (fun i=>Rule.enc (u.P.gc i)),.arr 6 u.P.np (fun i=>dF.enc (u.P.gp i)),.arr 6 u.P.na (fun i=>fM.enc (u.P.ga i)),.arr 5 u.nb (fun i=>Bx.enc (u.gb i)),.arr 4 u.nf (fun i=>l4.enc (u.gf i)),.arr 8 u.nt (fun i=>ek.enc (u.gt i)),.arr 3 u.nw (fun i=>ke.enc (u.gw i))])),(.undef,(σ++[.var (((((((((u.cells u.aX).set 0 (.ms (σ.length+2) 5 0 u.P.ns)).set 1 (.ms (σ.length+3) 6 0 u.P.nc)).set 2 (.ms (σ.length+4) 6 0 u.P.np)).set 4 (.ms (σ.length+5) 6 0 u.P.na)).set 6 (.ms (σ.length+6) 5 0 u.nb)).set 7 (.ms (σ.length+7) 4 0 u.nf)).set 12 (.ms (σ.length+8) 8 0 u.nt)).set 14 (.ms (σ.length+9) 3 0 u.nw)),.var zU,.arr 5 u.P.ns (fun i=>ej.enc (u.P.gs i)),.arr 6 u.P.nc (fun i=>Rule.enc (u.P.gc i)),.arr 6 u.P.np (fun i=>dF.enc (u.P.gp i)),.arr 6 u.P.na (fun i=>fM.enc (u.P.ga i)),.arr 5 u.nb (fun i=>Bx.enc (u.gb i)),.arr 4 u.nf (fun i=>l4.enc (u.gf i)),.arr 8 u.nt (fun i=>ek.enc (u.gt i)),.arr 3 u.nw (fun i=>ke.enc (u.gw i))]))] T.mixed aD
    ·intro K hK;simp[go_sem,d2];refine bK.mk (mL _ none (u.gt i).nu (u.gt i).u aa) ?_;simp[go_sem,d2];refine bK.mk (mL _ none (u.gt i).nb (u.gt i).b aa) ?_;simp[go_sem,d2];exact hK _ _
    ·refine Mix.aw ?_ (Mix.aw ?_ (Mix.aW))
     ·intro K hK;simp[go_sem,d2];exact hK _ _
     ·intro K hK;simp[go_sem];exact hK _ _
    ·refine Mix.aG ?_ (Mix.aG ?_ (Mix.bn))
     ·simp[go_sem,d2];all_goals first|rfl|(funext q;by_cases h:q=i<;>simp[h])|skip
     ·simp[go_sem,d2];all_goals first|rfl|(funext q;by_cases h:q=i<;>simp[h])|skip
    intro K hK;refine wD hK ?_;refine aE fun K hK=> ?_;simp[go_sem];try simp(disch:=omega) only[aS]
    refine hK _ ?_;refine⟨i+1,bp au ((ae au)) iv,aa,AF⟩
   ·obtain rfl:i=u.nt:=by omega
    refine bN ?_;refine wE ?_;refine aF hwf (σ.length+2) ?_;exact af sc
theorem w5(u)(hu:br u):CS prog 50 [.agg (u.cells u.aX)] σ (fun r σ' X=>r= .agg (u.own (σ.length+3))/\σ'=σ++[.var (u.own (σ.length+3)),.var (u.own (σ.length+3)),.dead]++u.blks/\X=[]):=
 (CS.narrow (Q:=fun r σ'=>r= .agg (u.own (σ.length+3))/\σ'=σ++[.var (u.own (σ.length+3)),.var (u.own (σ.length+3)),.dead]++u.blks) ((Gj σ u hu).mono (by rintro r σ' X ⟨h1,h2,rfl⟩;exact⟨an,h1,h2⟩))).mono (by rintro r σ' X ⟨h1,h2,h3⟩;exact⟨h2,h3,h1⟩)
end Go.Proofs.YthpplckmbbachaaGreatDoor
namespace Go.aI.Apd
open Go.aI
def Zc(P:Program)(o:Oper)(s:St)(K:St->Prop):Prop:=
 match o.op,o.guard with
 | .call c,none=>(match c.callee with
  | .builtin .append=>(match c.args.toList,c.argTypes.toList with
   |[x,y],[t,t']=>arg true s x fun x=>arg true s y fun y=>oJ P s.σ t t' x y fun av=>K (s.put o.dst av)
   |_,_=>False)
  |_=>False)
 |_,_=>False
def Fm(P:Program)(all:List Oper):List Oper->Nat->St->(St->Prop)->Prop
 |[],_,s,K=>K s
 |o::os,0,s,K=>Zc P o s fun s'=>bz P false all os s' K
 |o::os,i+1,s,K=>fE all s o fun gd g=>JK P false gd g o s fun s'=>Fm P all os i s' K
def acH(P:Program)(all os:List Oper)(i:Nat)(K:St->Prop)(s:St):Prop:=Fm P all os i s K
theorem Qu(P all os o s K):Fm P all (o::os) 0 s K=Zc P o s (Rest P false all os K):=rfl
theorem Qv(P all os i o s K):Fm P all (o::os) (i+1) s K=fE all s o fun gd g=>JK P false gd g o s (acH P all os i K):=rfl
theorem Zi(P all os i K N t σ mv):acH P all os i K ⟨N,t,σ,mv⟩=Fm P all os i ⟨N,t,σ,mv⟩ K:=rfl
theorem QW{P o s K}(h:Zc P o s K):Runs P o s K:=by
 unfold Zc at h;split at h
 ·rename_i c ho hg;split at h
  ·rename_i hb;split at h
   ·rename_i x y t t' hxy ht;obtain⟨xa,h,hx⟩:=ar h;obtain⟨ya,h,hy⟩:=ar h;intro j0 j a w next Q hr hn
    obtain⟨v,w',r,h1,h2,h3,h4,h5⟩:=u4 (P:=P) (ty:=o.type) hr.cm h (hx rfl j0 j a w hr) (hy rfl j0 j a w hr);have hrun:(execOp a.eval o).run P w= .ok (.value v) w':=by
     have e1:c.args.map a.eval= #[a.eval x,a.eval y]:=by
      have:c.args= #[x,y]:=ai;grind
     have e2:c.argTypes= #[t,t']:=ai;simp_all [execOp,resolve,invoke,builtin]
    refine oX ai hrun ?_;exact hn _ _ _ _ ((hr.after h4 h2 (Nat.le_refl _) (.refl _ [])).put o.dst h3) h4 h5
   ·exact h.elim
  ·exact h.elim
 ·exact h.elim
theorem sM{P Q all} : ∀{os i s K j0 j a w},Fm P all os i s K->(∀o,os[i]? =some o->o.guard=none)->Rel j0 s j a w->
  (∀s' j' a' w',Rel j0 s' j' a' w'->Ev j w j' w'->K s'->Q .normal a' w')->wpListIn (FW j0.rd) 0 P all.toArray Q os a w
 |[],i,s,K,j0,j,a,w,h,_,hr,hQ=>hQ s j a w hr (.refl _ _) h
 |o::os,0,s,K,j0,j,a,w,h,hgn,hr,hQ=>by
  have hw:Region.wanted o (yielded all.toArray a.tmps)=true:=C9;simp only[wpListIn,hw,if_true];exact(QW h) j0 j a w _ _ hr fun s' j' a' w' hr' he hK=>iH hK hr' fun s'' Qd a'' w'' JY he' hK'=>hQ s'' Qd a'' w'' JY (he.trans he') hK'
 |o::os,i+1,s,K,j0,j,a,w,h,hgn,hr,hQ=>by
  obtain⟨gd,g,h,hgd,hw⟩:=lP h;obtain⟨h1,h2⟩:=tn h hgd;have hw:=hw hr;simp only[wpListIn,hw];cases g with
  |true=>
   simp only[if_true];exact(h1 rfl j0 j a w _ _ hr fun s' j' a' w' hr' he hK=>sM hK (fun o ho=>hgn o ho) hr' fun s'' Qd a'' w'' JY he' hK'=>hQ s'' Qd a'' w'' JY (he.trans he') hK')
  |false=>
   simp only[Bool.false_eq_true,if_false];obtain⟨s',hK,hs⟩:=h2 rfl;exact⟨fun _ _=>trivial,sM hK (fun o ho=>hgn o ho) (hs j0 j a w hr) hQ⟩
theorem BB{P Q s id ops}(i)(hg: ∀o,ops[i]? =some o->o.guard=none)(h: ∀K:St->Prop,(∀s',Q .normal s'->K s')->Fm P ops ops i s K):cV P (.region id ops.toArray false) Q s:=by
 intro j0 j a w hr;refine wpIn_region_lit (sM (h _ fun _ h=>h) hg hr fun s' j' a' w' hr' he hq=>⟨s',j',hr',he,hq⟩)
attribute [go_sem ↓] Qu Qv Zi Zc
end Go.aI.Apd
