/- The row. -/
import Derived.Test.YthlhlnbcjlpigaaGreatDoorKB48
import Derived.Test.YthlhlnbcjlpigaaGreatDoorKB47
import Derived.Test.YthlhlnbcjlpigaaGreatDoorQb
import Derived.Test.YthlhlnbcjlpigaaGreatDoorTie
import Derived.Test.YthlhlnbcjlpigaaGreatDoorCards
import Derived.SevenTiedAt
namespace Go.Proofs.YthlhlnbcjlpigaaGreatDoor
open Go.aU Go.bY
open Go.ChangeShapes Go.WideShapes Go.ChangeAt Go.RowKit
set_option linter.unusedVariables false
set_option linter.unusedSimpArgs false
namespace serviceChecks
set_option maxRecDepth 100000 in
theorem lifted(os:Os)(started:os.Started)(H:Type)(enc:TypeId×Value->H)(F:Stop.Interp):
  ReturnsInHanded {} Tryz.checked os 4 .any ((OpenSpec.ofChange Rows.serviceChecksSpec).preRow enc Tryz.prog Tryz.f4 Rows.serviceChecksRow.domain false Rows.serviceChecksRow.laid) (((OpenSpec.ofChange Rows.serviceChecksSpec).at F).post enc Tryz.prog Tryz.f4 false true false false):=by
 refine returnsInHanded_of_row (C:=Tryz.checked) (s:=OpenSpec.ofChange Rows.serviceChecksSpec) own started (by kernel_rfl) Tryz.func4
  (witness_row_at (enc:=enc) (C:=Tryz.checked) false (laidWorld os) #[.agg #[.slice none 0 0,.slice none 0 0,.slice none 0 0,.int .i64 0,.slice none 0 0,.slice none 0 0,.slice none 0 0,.slice none 0 0,.slice none 0 0,.slice none 0 0,.int .i64 0,.slice none 0 0,.slice none 0 0,.slice none 0 0,.slice none 0 0,.int .i64 0],.int .i64 0,.int .i64 0] rfl (by kernel_rfl) (by kernel_rfl) (by kernel_rfl) (OpenSpec.preRow_of_B rfl 8 (by kernel_rfl) (by kernel_rfl) (laid_met os _))) ?_
 intro W base args ds gs before hval0 hW _ _ _ hL hsh _;have hval: ∀(j:Nat) t v,Tryz.f4.params[j]? =some t->args[j]? =some v->Value.okWide Tryz.prog W .any base t v:=hval0;have hW':=hW;obtain⟨p,q,hA0,hV,rfl,hfz,hnd⟩:=hW;have hA:DataW.TrodAll enc Tryz.prog W 0 (fun _=>true) true Tryz.f4.params.toList args.toList ds p:=hA0;rw[Tryz.params4] at hA hval;obtain⟨v0,vs0,d0,ds0,p0,q0,hargs,rfl,rfl,h0,r0⟩:=trodAll_cons hA;obtain⟨v1,vs1,d1,ds1,p1,q1,rfl,rfl,rfl,h1,r1⟩:=trodAll_cons r0;obtain⟨v2,vs2,d2,ds2,p2,q2,rfl,rfl,rfl,h2,r2⟩:=trodAll_cons r1;obtain⟨rfl,rfl,rfl⟩:=trodAll_nil r2;obtain rfl:args= #[v0,v1,v2]:=by cases args;simp_all
 obtain⟨rfl,rfl⟩:=trodVars_none hV;have lt0: ∀x∈p0,x.block<W.heap.size:=by obtain⟨m,hm⟩:=h0;exact DataW.trod_lt m _ _ _ hm
 obtain⟨y0,⟨u0x,rfl,f0x⟩,R0⟩:=P8 Tryz.underlying38 opn38 (hval 0 38 v0 rfl rfl) h0;have lt1: ∀x∈p1,x.block<W.heap.size:=by obtain⟨m,hm⟩:=h1;exact DataW.trod_lt m _ _ _ hm
 obtain⟨x1,w1,R1⟩:=V8 Tryz.underlying3 (hval 1 3 v1 rfl rfl) h1;have lt2: ∀x∈p2,x.block<W.heap.size:=by obtain⟨m,hm⟩:=h2;exact DataW.trod_lt m _ _ _ hm
 obtain⟨x2,w2,R2⟩:=V8 Tryz.underlying3 (hval 2 3 v2 rfl rfl) h2;clear hA0 hval0;refine(OH (args:= #[v0,v1,v2]) (KN [.tab 0 iR,.loc 1] u0x x1 x2 f0x rfl rfl) (OA W hsh) (powIs hL) (RsT.cons R0.RJ (RsT.cons R1.Ls (RsT.cons R2.Ls (rsT_nil W))))).mono fun e W' ⟨he,bel⟩=> ?_;subst he;exact⟨_,rfl,_,_,_,[],_,[],hW',trodAll_mk1 (shut_bool Tryz.underlying4 _),(trodAll_cons_mk (Below.trod laidOut (by kernel_rfl) (of_decide_eq_true (by kernel_rfl)) h0 bel lt0) (trodAll_cons_mk (Below.trod laidOut (by kernel_rfl) (of_decide_eq_true (by kernel_rfl)) h1 bel lt1) (trodAll_cons_mk (Below.trod laidOut (by kernel_rfl) (of_decide_eq_true (by kernel_rfl)) h2 bel lt2) trodAll_mk0))),rfl,bel.frame _,fun h=>by cases h⟩
theorem over:Rows.serviceChecksRow.holds Tryz.pinned (OpenSpec.ofChange Rows.serviceChecksSpec):=
 OpenClaim.holds_of_cond 4 Tryz.f4 rfl rfl rfl rfl rfl rfl rfl ⟨rfl,rfl,rfl,rfl,rfl⟩ rfl rfl rfl rfl rfl (by kernel_rfl) Tryz.func4 joined
  (of_decide_eq_true (by kernel_rfl)) (by unfold Func.isWrapper;first|(rw[if_pos (by decide+kernel)];kernel_rfl)|(rw[if_neg (by decide+kernel)];exact⟨rfl,rfl⟩))
  (fun os started H enc _ F0=>by rw[OpenClaim.pre_eq_preRow];exact lifted os started H enc F0)
end serviceChecks
theorem Fb:Rows.ServiceChecksSaid:=serviceChecks.over
set_option maxRecDepth 100000 in
theorem serviceChecks_proved:Rows.ServiceChecksCardSaid:=
 Claim7.holds_tied_plain_at .later [] [.data, .data, .data] true (true, "e10cda3979fdc64fe5e4145d4b1e205a9353c0887c35b4bd8f078036a62334be") false
  Fb (fun _ h=>by cases h) (by kernel_rfl) (fun _ h=>by cases h) serviceChecks_row_tie rfl ⟨rfl,rfl⟩ (by kernel_rfl) rfl
  (fun f fn hf hfn=>by
   obtain rfl : f = 4 := Option.some.inj ((show Tryz.prog.funcNamed "archivum/archivumlaw45.ServiceChecks" = some 4 by kernel_rfl).symm.trans hf) |>.symm
   obtain rfl:fn=Tryz.f4:=(Option.some.inj (Tryz.func4.symm.trans hfn)).symm;exact⟨by kernel_rfl,fun j t ht=>by
    rw[Tryz.params4] at ht;have h3:t=38\/t=3\/t=3:=by
     rcases j with _|_|_|j;all_goals simp at ht
     all_goals first|omega|(subst ht;simp)
    rcases h3 with rfl|rfl|rfl
    ·exact(show Tryz.prog.wantsStandIn 38=false by kernel_rfl)
    ·exact(show Tryz.prog.wantsStandIn 3=false by kernel_rfl)
    ·exact(show Tryz.prog.wantsStandIn 3=false by kernel_rfl)
    ⟩)
  serviceChecks.c8.symm
end Go.Proofs.YthlhlnbcjlpigaaGreatDoor
