/- The row. -/
import Derived.Test.YthpplckmbbachaaGreatDoorKB48
import Derived.Test.YthpplckmbbachaaGreatDoorKB47
import Derived.Test.YthpplckmbbachaaGreatDoorQb
import Derived.Test.YthpplckmbbachaaGreatDoorQc
import Derived.Test.YthpplckmbbachaaGreatDoorTie
import Derived.Test.YthpplckmbbachaaGreatDoorCards
import Derived.SevenTiedAt
namespace Go.Proofs.YthpplckmbbachaaGreatDoor
open Go.aI Go.bI
open Go.ChangeShapes Go.WideShapes Go.ChangeAt Go.RowKit
set_option linter.unusedVariables false
set_option linter.unusedSimpArgs false
namespace serviceRuns
set_option maxRecDepth 100000 in
theorem lifted(os:Os)(started:os.Started)(H:Type)(enc:TypeId×Value->H)(F:Stop.Interp):
  ReturnsInHanded {} Tryz.checked os 4 .any ((OpenSpec.ofChange Rows.serviceRunsSpec).preRow enc Tryz.prog Tryz.f4 Rows.serviceRunsRow.domain false Rows.serviceRunsRow.laid) (((OpenSpec.ofChange Rows.serviceRunsSpec).at F).post enc Tryz.prog Tryz.f4 false true false false):=by
 refine returnsInHanded_of_row (C:=Tryz.checked) (s:=OpenSpec.ofChange Rows.serviceRunsSpec) own started (by kernel_rfl) Tryz.func4
  (witness_row_at (enc:=enc) (C:=Tryz.checked) false (laidWorld os) #[.agg #[.slice none 0 0,.slice none 0 0,.slice none 0 0,.int .i64 0,.slice none 0 0,.slice none 0 0,.slice none 0 0,.slice none 0 0,.slice none 0 0,.slice none 0 0,.int .i64 0,.slice none 0 0,.slice none 0 0,.slice none 0 0,.slice none 0 0,.int .i64 0],.slice none 0 0,.slice none 0 0] rfl (by kernel_rfl) (by kernel_rfl) (by kernel_rfl) (OpenSpec.preRow_of_B rfl 8 (by kernel_rfl) (by kernel_rfl) (laid_met os _))) ?_
 intro W base args ds gs before hval0 hW _ _ _ hL hsh _;have hval: ∀(j:Nat) t v,Tryz.f4.params[j]? =some t->args[j]? =some v->Value.okWide Tryz.prog W .any base t v:=hval0;have hW':=hW;obtain⟨p,q,hA0,hV,rfl,hfz,hnd⟩:=hW;have hA:DataW.TrodAll enc Tryz.prog W 0 (fun _=>true) true Tryz.f4.params.toList args.toList ds p:=hA0;rw[Tryz.params4] at hA hval;obtain⟨v0,vs0,d0,ds0,p0,q0,hargs,rfl,rfl,h0,r0⟩:=trodAll_cons hA;obtain⟨v1,vs1,d1,ds1,p1,q1,rfl,rfl,rfl,h1,r1⟩:=trodAll_cons r0;obtain⟨v2,vs2,d2,ds2,p2,q2,rfl,rfl,rfl,h2,r2⟩:=trodAll_cons r1;obtain⟨rfl,rfl,rfl⟩:=trodAll_nil r2;obtain rfl:args= #[v0,v1,v2]:=by cases args;simp_all
 obtain⟨rfl,rfl⟩:=trodVars_none hV;have lt0: ∀x∈p0,x.block<W.heap.size:=by obtain⟨m,hm⟩:=h0;exact DataW.trod_lt m _ _ _ hm
 obtain⟨y0,⟨u0x,rfl,f0x⟩,R0⟩:=vR Tryz.underlying38 ab3 (hval 0 38 v0 rfl rfl) h0;have lt1: ∀x∈p1,x.block<W.heap.size:=by obtain⟨m,hm⟩:=h1;exact DataW.trod_lt m _ _ _ hm
 obtain⟨y1,⟨n1x,g1x,rfl,l1x⟩,R1⟩:=zX Tryz.underlying39 ab2 (hval 1 39 v1 rfl rfl) h1;have lt2: ∀x∈p2,x.block<W.heap.size:=by obtain⟨m,hm⟩:=h2;exact DataW.trod_lt m _ _ _ hm
 obtain⟨y2,⟨n2x,g2x,rfl,l2x,h2x⟩,R2⟩:=zX Tryz.underlying47 aeJ (hval 2 47 v2 rfl rfl) h2;clear hA0 hval0;refine(EX (args:= #[v0,v1,v2]) (GN [.tab 0 dG,.loc 1] u0x n1x g1x n2x g2x (fun i _=>(h2x i).1) f0x l1x l2x (fun i _=>(h2x i).2) rfl rfl) (EO W hsh) (abV hL) (RsT.cons R0.zw (RsT.cons R1.CT (RsT.cons R2.CT (RC W))))).mono fun e W' ⟨he,bel⟩=> ?_;subst he;exact⟨_,rfl,_,_,_,[],_,[],hW',trodAll_mk1 (shut_bool Tryz.underlying4 _),(trodAll_cons_mk (Below.trod laidOut (by kernel_rfl) (of_decide_eq_true (by kernel_rfl)) h0 bel lt0) (trodAll_cons_mk (Below.trod laidOut (by kernel_rfl) (of_decide_eq_true (by kernel_rfl)) h1 bel lt1) (trodAll_cons_mk (Below.trod laidOut (by kernel_rfl) (of_decide_eq_true (by kernel_rfl)) h2 bel lt2) trodAll_mk0))),rfl,bel.frame _,fun h=>by cases h⟩
theorem over:Rows.serviceRunsRow.holds Tryz.pinned (OpenSpec.ofChange Rows.serviceRunsSpec):=
 OpenClaim.holds_of_cond 4 Tryz.f4 rfl rfl rfl rfl rfl rfl rfl ⟨rfl,rfl,rfl,rfl,rfl⟩ rfl rfl rfl rfl rfl fnd Tryz.func4 joined
  (of_decide_eq_true (by kernel_rfl)) (by unfold Func.isWrapper;first|(rw[if_pos (by decide+kernel)];kernel_rfl)|(rw[if_neg (by decide+kernel)];exact⟨rfl,rfl⟩))
  (fun os started H enc _ F0=>by rw[OpenClaim.pre_eq_preRow];exact lifted os started H enc F0)
end serviceRuns
theorem BR:Rows.ServiceRunsSaid:=serviceRuns.over
set_option maxRecDepth 100000 in
theorem serviceRuns_proved:Rows.ServiceRunsCardSaid:=
 Claim7.holds_tied_plain_at .later [] [.data, .data, .data] true (true, "830c9803c3a58d820bc85da3b48b420c19cac6a4e558bba0958798c7e7223139") false
  BR (fun _ h=>by cases h) (by kernel_rfl) (fun _ h=>by cases h) serviceRuns_row_tie rfl ⟨rfl,rfl⟩ (by kernel_rfl) rfl
  (fun f fn hf hfn=>by
   obtain rfl:f=4:=Option.some.inj (serviceRuns.fnd.symm.trans hf)|>.symm;obtain rfl:fn=Tryz.f4:=(Option.some.inj (Tryz.func4.symm.trans hfn)).symm;exact⟨by kernel_rfl,fun j t ht=>by
    rw[Tryz.params4] at ht;have h3:t=38\/t=39\/t=47:=by
     rcases j with _|_|_|j;all_goals simp at ht
     all_goals first|omega|(subst ht;simp)
    rcases h3 with rfl|rfl|rfl
    ·exact(show Tryz.prog.wantsStandIn 38=false by kernel_rfl)
    ·exact(show Tryz.prog.wantsStandIn 39=false by kernel_rfl)
    ·exact(show Tryz.prog.wantsStandIn 47=false by kernel_rfl)
    ⟩)
  serviceRuns.c8.symm
end Go.Proofs.YthpplckmbbachaaGreatDoor
