/- Contracts and lemmas, joined out of smaller texts by a program; no conditions. -/
import Derived.Test.YthlhlnbcjlpigaaGreatDoorKB45
import Derived.Test.YthlhlnbcjlpigaaGreatDoorKB46
set_option linter.unusedVariables false
set_option linter.unusedSimpArgs false
set_option maxHeartbeats 4000000
set_option maxRecDepth 100000
namespace Go.Proofs.YthlhlnbcjlpigaaGreatDoor
open Go.aU Go.bY Go.Proofs.Tryz
variable (σ : List aC)
theorem few_use{u:Use}{m:Nat}(h:uh m u=true):dR u/\u.P.ns<=30/\m<=30:=by
 unfold uh wU uI at h;simp only[Bool.and_eq_true,List.all_eq_true,decide_eq_true_eq,Ej] at h;obtain⟨⟨⟨⟨⟨⟨⟨⟨⟨h1,h2⟩,h3⟩,h4⟩,h5⟩,h6⟩,h7⟩,h8⟩,h9⟩,h10⟩:=h;obtain⟨⟨⟨⟨⟨⟨p1,p2⟩,p3⟩,p4⟩,p5⟩,p6⟩,p7⟩:=h2;have hs: ∀i,i<u.P.ns->(u.P.gs i).np<=20:=fun i hi=>p1 _ (List.mem_map.2 ⟨i,by simpa using hi,rfl⟩);have hb: ∀i,i<u.nb->(u.gb i).nc<=40:=fun i hi=>h3.1 _ (List.mem_map.2 ⟨i,by simpa using hi,rfl⟩);have ht: ∀i,i<u.nt->(u.gt i).nu<1000000/\(u.gt i).nb<1000000:=fun i hi=>by
  have:=h1 _ (List.mem_map.2 ⟨i,by simpa using hi,rfl⟩);unfold fewB at this;simp at this;omega
 exact⟨⟨⟨by omega,by omega,by omega,by omega,by omega,fun i hi=>by have:=hs i hi;omega,fun i hi=>by have:=p5.1 i hi;omega⟩,by omega,fun i hi=>by have:=hb i hi;omega,by omega,by omega,by omega,by omega,by omega,fun i hi=>by have:=ht i hi;omega,fun i hi=>by have:=ht i hi;omega,by omega,by omega⟩,by omega,by omega⟩
def Xw(s y:Int):Use:=if jy s 1 32=true/\jy y 0 200=true then { jk with P:= { jk.P with jg:=y },nI:=s } else jk
theorem UO(s y:Int):dR (Xw s y)/\(Xw s y).dw=jk.dw:=by
 unfold Xw;split<;>exact⟨⟨⟨Nat.le_of_ble_eq_true rfl,Nat.le_of_ble_eq_true rfl,Nat.le_of_ble_eq_true rfl,Nat.le_of_ble_eq_true rfl,Nat.le_of_ble_eq_true rfl,fun i hi=>absurd hi (Nat.not_lt_zero i),fun i hi=>absurd hi (Nat.not_lt_zero i)⟩,Nat.le_of_ble_eq_true rfl,fun i hi=>absurd hi (Nat.not_lt_zero i),Nat.le_of_ble_eq_true rfl,Nat.le_of_ble_eq_true rfl,Nat.le_of_ble_eq_true rfl,Nat.le_of_ble_eq_true rfl,Nat.le_of_ble_eq_true rfl,fun i hi=>absurd hi (Nat.not_lt_zero i),fun i hi=>absurd hi (Nat.not_lt_zero i),Nat.le_of_ble_eq_true rfl,Nat.le_of_ble_eq_true rfl⟩,rfl⟩
theorem newP_cs(s y:Int):ay prog 13 [.d (I s),.d (I y)] σ (.eX [.agg ((Xw s y).cells (Xw s y).dw),.d (I (if jy s 1 32=true/\jy y 0 200=true then 0 else 2))]):=by
 have h:=MH σ s y;rw[←(UO s y).2] at h;exact h
theorem newR_cs(s y:Int):ay prog 14 [.d (I s),.d (I y)] σ (.eX [.agg ((Xw s y).cells (Xw s y).dw),.d (I (if jy s 1 32=true/\jy y 0 200=true then 0 else 2))]):=by
 have h:=Uj σ s y;rw[←(UO s y).2] at h;exact h
theorem Z4{u:Use}(hu:dR u)(hr:bT u=true): ∀i,i<(gather (mM u) u.nf).length->(nth (gather (mM u) u.nf) i).n<1000000000:=fun i hi=>by
 obtain⟨f,hf,h⟩:=xE.1 (nth_mem hi);have h0: ∀x,x∈mM u f->x=onS u (u.gf f).ID:=fun x h=>by
  unfold mM at h;split at h
  ·simpa using h
  ·cases h
 have h1:=h0 _ h;rw[h1];have h2:(atL u.nv u.gv ⟨1,(u.gf f).ID⟩).length<=u.nb:=by
  rw[←rOn_eq (qK.1 hr)];exact iT (fun i=>by unfold Iq;split<;>simp) _
 have:=hu.nb;unfold onS;dsimp only;split<;>omega
theorem KL(u:Use)(k:Int)(hu:Wi u)(h0:σ[0]? =some (.tab 0 iR))(h1:σ[1]? =some (.loc 1)):ay prog 3 [.agg (u.cells u.dw),.d (I k)] σ (.d (B true)):=by
 refine ay.bs true func3 fun hwf=> ?_;refine aW.mk (zN _ (aO h0) (aO h1)) (sm ?_);refine cn [1,2] rfl ?_ ?_<;>intro c0 d0<;>try simp at d0
 ·simp[go_sem];refine aW.mk (ay.sub (Fv _ u none 0 lF hu) ⟨vT _ _,⟨.inl rfl,rfl⟩,trivial⟩) (sm ?_);refine aH [1,2] ?_ ?_<;>intro c1 d1
  ·simp[go_sem];exact aj so
  ·have hf1:uh 0 u=true:=by simpa using d1
   obtain⟨hus,hns,hmm⟩:=few_use hf1;simp[go_sem];refine aW.mk (uq _ u hus) (sm ?_);refine aW.mk (E5 _ u k hus (aO h0) (aO h1)) (sm ?_);refine aW.mk (Ny _ u k hus (aO h0)) (sm ?_);refine aW.mk (uq _ u hus) (sm ?_);refine aW.mk (Dw _ u hus (aO h0) (aO h1)) (sm ?_);refine aW.mk (Kv _ u hus (aO h0)) (sm ?_);refine fA.mk' (.d (B true)) (fun _=>DC _ none none (if bT u=true then(gather (mM u) u.nf).length else 0) (if bT u=true then(gather (mM u) u.nf).length else 0) (nth (gather (mM u) u.nf)) (nth (gather (mM u) u.nf)) rfl (by have:=hus.nf;have:=iT (WW u) u.nf;split<;>omega) (fun i hi=>⟨rfl,rfl,by split at hi;(rename_i hr;exact Z4 hus hr i hi);omega,fun _ _=>rfl⟩)) ?_;simp[go_sem];exact aj so
theorem KN(u:Use)(s y:Int)(hu:Wi u)(h0:σ[0]? =some (.tab 0 iR))(h1:σ[1]? =some (.loc 1)):ay prog 4 [.agg (u.cells u.dw),.d (I s),.d (I y)] σ (.d (B true)):=by
 refine ay.bs true func4 fun hwf=> ?_;refine aW.mk (zN _ (aO h0) (aO h1)) (sm ?_);refine cn [1,2,3] rfl ?_ ?_<;>intro c0 d0<;>try simp at d0
 ·simp[go_sem];refine aW.mk (ay.sub (Fv _ u none 0 lF hu) ⟨vT _ _,⟨.inl rfl,rfl⟩,trivial⟩) (sm ?_);refine aH [1,2,3] ?_ ?_<;>intro c1 d1
  ·simp[go_sem];exact aj so
  ·have hf1:uh 0 u=true:=by simpa using d1
   obtain⟨hus,hns,hmm⟩:=few_use hf1;simp[go_sem];refine aW.mk (newP_cs _ s y) (sm ?_);refine aW.mk (newR_cs _ s y) (sm ?_);refine T.dr 16 fun K hK=>sm ?_;refine dS.mk (uq _ u hus) (sm ?_);refine dS.mk (Ue _ u hus (aO h0) (aO h1)) (sm ?_);refine dS.mk (ru _ u hus (aO h0)) (sm ?_);refine dS.mk' (.d (B true)) (fun _=>self45_cs _ (Xw s y) (UO s y).1) (sm ?_);refine hK _ ?_;refine go true (sm ?_);exact aj so
end Go.Proofs.YthlhlnbcjlpigaaGreatDoor
