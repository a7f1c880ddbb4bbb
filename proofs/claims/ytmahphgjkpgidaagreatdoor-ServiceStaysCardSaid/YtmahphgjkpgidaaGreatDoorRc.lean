/- The given statement on the law ServiceStays, out of the contract of the law: for every input the law returns true, and the arguments read as before; no conditions. -/
import Derived.Test.YtmahphgjkpgidaaGreatDoorKB48
import Derived.Test.YtmahphgjkpgidaaGreatDoorKB45
import Derived.Test.YtmahphgjkpgidaaGreatDoorQc
import Derived.Test.YtmahphgjkpgidaaGreatDoorTie
import Derived.Test.YtmahphgjkpgidaaGreatDoorCards
import Derived.SevenTiedAt
namespace Go.Proofs.YtmahphgjkpgidaaGreatDoor
open Go.aU Go.dh
open Go.ChangeShapes Go.WideShapes Go.ChangeAt Go.RowKit
set_option linter.unusedVariables false
set_option linter.unusedSimpArgs false
namespace serviceStays
set_option maxRecDepth 100000 in
theorem lifted(os:Os)(started:os.Started)(H:Type)(enc:TypeId×Value->H)(F:Stop.Interp):
  ReturnsInHanded {} Tryz.checked os 5 .any ((OpenSpec.ofChange Rows.serviceStaysSpec).preRow enc Tryz.prog Tryz.f5 Rows.serviceStaysRow.domain false Rows.serviceStaysRow.laid) (((OpenSpec.ofChange Rows.serviceStaysSpec).at F).post enc Tryz.prog Tryz.f5 false true false false):=by
 refine returnsInHanded_of_row (C:=Tryz.checked) (s:=OpenSpec.ofChange Rows.serviceStaysSpec) own started (by kernel_rfl) Tryz.func5
  (witness_row_at (enc:=enc) (C:=Tryz.checked) false (laidWorld os) #[.agg #[.slice none 0 0,.slice none 0 0,.slice none 0 0,.int .i64 0,.slice none 0 0,.slice none 0 0,.slice none 0 0,.slice none 0 0,.slice none 0 0,.slice none 0 0,.int .i64 0,.slice none 0 0,.slice none 0 0,.slice none 0 0,.slice none 0 0,.int .i64 0],.slice none 0 0,.slice none 0 0] rfl (by kernel_rfl) (by kernel_rfl) (by kernel_rfl) (OpenSpec.preRow_of_B rfl 8 (by kernel_rfl) (by kernel_rfl) (laid_met os _))) ?_
 intro W base args ds gs before hval0 hW _ _ _ hL hsh _;have hval: ∀(j:Nat) t v,Tryz.f5.params[j]? =some t->args[j]? =some v->Value.okWide Tryz.prog W .any base t v:=hval0;have hW':=hW;obtain⟨p,q,hA0,hV,rfl,hfz,hnd⟩:=hW;have hA:DataW.TrodAll enc Tryz.prog W 0 (fun _=>true) true Tryz.f5.params.toList args.toList ds p:=hA0;rw[Tryz.params5] at hA hval;obtain⟨v0,vs0,d0,ds0,p0,q0,hargs,rfl,rfl,h0,r0⟩:=trodAll_cons hA;obtain⟨v1,vs1,d1,ds1,p1,q1,rfl,rfl,rfl,h1,r1⟩:=trodAll_cons r0;obtain⟨v2,vs2,d2,ds2,p2,q2,rfl,rfl,rfl,h2,r2⟩:=trodAll_cons r1;obtain⟨rfl,rfl,rfl⟩:=trodAll_nil r2;obtain rfl:args= #[v0,v1,v2]:=by cases args;simp_all
 obtain⟨rfl,rfl⟩:=trodVars_none hV;have lt0: ∀x∈p0,x.block<W.heap.size:=by obtain⟨m,hm⟩:=h0;exact DataW.trod_lt m _ _ _ hm
 obtain⟨y0,⟨u0x,rfl,f0x⟩,R0⟩:=vH Tryz.underlying38 opn38 (hval 0 38 v0 rfl rfl) h0;have lt1: ∀x∈p1,x.block<W.heap.size:=by obtain⟨m,hm⟩:=h1;exact DataW.trod_lt m _ _ _ hm
 obtain⟨y1,⟨n1x,g1x,rfl,l1x⟩,R1⟩:=qP Tryz.underlying39 opn39 (hval 1 39 v1 rfl rfl) h1;have lt2: ∀x∈p2,x.block<W.heap.size:=by obtain⟨m,hm⟩:=h2;exact DataW.trod_lt m _ _ _ hm
 obtain⟨y2,⟨n2x,g2x,rfl,l2x,h2x⟩,R2⟩:=qP Tryz.underlying47 opn47 (hval 2 47 v2 rfl rfl) h2;clear hA0 hval0;refine(zh (args:= #[v0,v1,v2]) (Rq [.tab 0 gK,.loc 1] u0x n1x g1x n2x g2x (fun i _=>(h2x i).1) f0x l1x l2x (fun i _=>(h2x i).2) rfl rfl) (yX W hsh) (powIs hL) (RsT.cons R0.xG (RsT.cons R1.vX (RsT.cons R2.vX (Po W))))).mono fun e W' ⟨he,bel⟩=> ?_;subst he;exact⟨_,rfl,_,_,_,[],_,[],hW',trodAll_mk1 (shut_bool Tryz.underlying4 _),(trodAll_cons_mk (Below.trod laidOut (by kernel_rfl) (of_decide_eq_true (by kernel_rfl)) h0 bel lt0) (trodAll_cons_mk (Below.trod laidOut (by kernel_rfl) (of_decide_eq_true (by kernel_rfl)) h1 bel lt1) (trodAll_cons_mk (Below.trod laidOut (by kernel_rfl) (of_decide_eq_true (by kernel_rfl)) h2 bel lt2) trodAll_mk0))),rfl,bel.frame _,fun h=>by cases h⟩
set_option maxRecDepth 100000 in
theorem over:Rows.serviceStaysRow.holds Tryz.pinned (OpenSpec.ofChange Rows.serviceStaysSpec):=
 OpenClaim.holds_of_cond 5 Tryz.f5 rfl rfl rfl rfl rfl rfl rfl ⟨rfl,rfl,rfl,rfl,rfl⟩ rfl rfl rfl rfl rfl (by kernel_rfl) Tryz.func5 joined
  (of_decide_eq_true (by kernel_rfl)) (by unfold Func.isWrapper;first|(rw[if_pos (by decide+kernel)];kernel_rfl)|(rw[if_neg (by decide+kernel)];exact⟨rfl,rfl⟩))
  (fun os started H enc _ F0=>by rw[OpenClaim.pre_eq_preRow];exact lifted os started H enc F0)
end serviceStays
theorem KA:Rows.ServiceStaysSaid:=serviceStays.over
set_option maxRecDepth 100000 in
theorem serviceStays_proved:Rows.ServiceStaysCardSaid:=
 Claim7.holds_tied_plain_at .later [] [.data, .data, .data] true (true, "1635e2b0b1b9a1b7ef04fe34633cf97244adac67d70b4d2c3ed34af990217c23") false
  KA (fun _ h=>by cases h) (by kernel_rfl) (fun _ h=>by cases h) serviceStays_row_tie rfl ⟨rfl,rfl⟩ (by kernel_rfl) rfl
  (fun f fn hf hfn=>by
   obtain rfl : f = 5 := Option.some.inj ((show Tryz.prog.funcNamed "archivum/archivumlaw45.ServiceStays" = some 5 by kernel_rfl).symm.trans hf) |>.symm
   obtain rfl:fn=Tryz.f5:=(Option.some.inj (Tryz.func5.symm.trans hfn)).symm;exact⟨by kernel_rfl,fun j t ht=>by
    rw[Tryz.params5] at ht;have h3:t=38\/t=39\/t=47:=by
     rcases j with _|_|_|j;all_goals simp at ht
     all_goals first|omega|(subst ht;simp)
    rcases h3 with rfl|rfl|rfl
    ·exact(show Tryz.prog.wantsStandIn 38=false by kernel_rfl)
    ·exact(show Tryz.prog.wantsStandIn 39=false by kernel_rfl)
    ·exact(show Tryz.prog.wantsStandIn 47=false by kernel_rfl)
    ⟩)
  serviceStays.c8.symm
end Go.Proofs.YtmahphgjkpgidaaGreatDoor
