/- The given statement on a law, out of the law's contract: for every input the law returns true, and the arguments read as before; the listed variables are tied to the program's text. Written by a program (frameL.py). -/
import Derived.Test.YtldnolgijfkfpaaGreatDoorKC4
import Derived.Test.YtldnolgijfkfpaaGreatDoorKC8
import Derived.Test.YtldnolgijfkfpaaGreatDoorTie
import Derived.Test.YtldnolgijfkfpaaGreatDoorCards
import Derived.SevenTiedAt
namespace Go.Proofs.YtldnolgijfkfpaaGreatDoor
open Go.Abs
open Go.ChangeShapes Go.WideShapes Go.ChangeAt Go.RowKit
set_option linter.unusedVariables false
set_option linter.unusedSimpArgs false

namespace digitizeLinked
set_option maxRecDepth 100000 in
theorem lifted (os : Os) (started : os.Started) (H : Type) (enc : TypeId × Value → H) (F : Stop.Interp) :
    ReturnsInHanded {} Tryz.checked os 10 .any ((OpenSpec.ofChange Rows.digitizeLinkedSpec).preRow enc Tryz.prog Tryz.f10 Rows.digitizeLinkedRow.domain false Rows.digitizeLinkedRow.laid) (((OpenSpec.ofChange Rows.digitizeLinkedSpec).at F).post enc Tryz.prog Tryz.f10 false true false false) := by
  refine returnsInHanded_of_row (C := Tryz.checked) (s := OpenSpec.ofChange Rows.digitizeLinkedSpec) own started (by kernel_rfl) Tryz.func10
    (witness_row_at (enc := enc) (C := Tryz.checked) false (laidWorld os) #[.slice none 0 0, .agg #[.int .i64 0, .int .i64 0, .int .i64 0, .int .i64 0, .int .i64 0, .int .i64 0, .slice none 0 0, .slice none 0 0], .int .i64 0] rfl (by kernel_rfl) (by kernel_rfl) (by kernel_rfl) (OpenSpec.preRow_of_B rfl 8 (by kernel_rfl) (by kernel_rfl) (laid_met os _))) ?_
  intro W base args ds gs before hval0 hW _ _ _ hL hsh _
  have hval : ∀ (j : Nat) t v, Tryz.f10.params[j]? = some t → args[j]? = some v → Value.okWide Tryz.prog W .any base t v := hval0
  have hW' := hW
  obtain ⟨p, q, hA0, hV, rfl, hfz, hnd⟩ := hW
  have hA : DataW.TrodAll enc Tryz.prog W 0 (fun _ => true) true Tryz.f10.params.toList args.toList ds p := hA0
  rw [Tryz.params10] at hA hval
  obtain ⟨v0, vs0, d0, ds0, p0, q0, hargs, rfl, rfl, h0, r0⟩ := trodAll_cons hA
  obtain ⟨v1, vs1, d1, ds1, p1, q1, rfl, rfl, rfl, h1, r1⟩ := trodAll_cons r0
  obtain ⟨v2, vs2, d2, ds2, p2, q2, rfl, rfl, rfl, h2, r2⟩ := trodAll_cons r1
  obtain ⟨rfl, rfl, rfl⟩ := trodAll_nil r2
  obtain rfl : args = #[v0, v1, v2] := by cases args; simp_all
  obtain ⟨rfl, rfl⟩ := trodVars_none hV
  have lt0 : ∀ x ∈ p0, x.block < W.heap.size := by obtain ⟨m, hm⟩ := h0; exact DataW.trod_lt m _ _ _ hm
  obtain ⟨y0, ⟨n0x, g0x, rfl, l0x⟩, R0⟩ := arg_slice Tryz.underlying52 opn52 (hval 0 52 v0 rfl rfl) h0
  have lt1 : ∀ x ∈ p1, x.block < W.heap.size := by obtain ⟨m, hm⟩ := h1; exact DataW.trod_lt m _ _ _ hm
  obtain ⟨y1, ⟨b1x, rfl, m1x, n1x⟩, R1⟩ := arg_struct Tryz.underlying24 opn24 (hval 1 24 v1 rfl rfl) h1
  have lt2 : ∀ x ∈ p2, x.block < W.heap.size := by obtain ⟨m, hm⟩ := h2; exact DataW.trod_lt m _ _ _ hm
  obtain ⟨x2, w2, R2⟩ := arg_int Tryz.underlying3 (hval 2 3 v2 rfl rfl) h2
  clear hA0 hval0
  refine (law_callsP (args := #[v0, v1, v2]) (law44_DigitizeLinked_cs [.tab 0 powV] n0x g0x b1x x2 m1x n1x rfl) (powIs hL) (RsT.cons R0.none1_d (RsT.cons R1.none1_agg (RsT.cons R2.none1_d (rsT_nil W))))).mono fun e W' ⟨he, bel⟩ => ?_
  subst he
  exact ⟨_, rfl, _, _, _, [], _, [], hW', trodAll_mk1 (shut_bool Tryz.underlying4 _), (trodAll_cons_mk (Below.trod laidOut (by kernel_rfl) (of_decide_eq_true (by kernel_rfl)) h0 bel lt0) (trodAll_cons_mk (Below.trod laidOut (by kernel_rfl) (of_decide_eq_true (by kernel_rfl)) h1 bel lt1) (trodAll_cons_mk (Below.trod laidOut (by kernel_rfl) (of_decide_eq_true (by kernel_rfl)) h2 bel lt2) trodAll_mk0))), rfl, bel.frame _, fun h => by cases h⟩

theorem over : Rows.digitizeLinkedRow.holds Tryz.pinned (OpenSpec.ofChange Rows.digitizeLinkedSpec) :=
  OpenClaim.holds_of_cond 10 Tryz.f10 rfl rfl rfl rfl rfl rfl rfl ⟨rfl, rfl, rfl, rfl, rfl⟩ rfl rfl rfl rfl rfl (by kernel_rfl) Tryz.func10 (by kernel_rfl)
    (of_decide_eq_true (by kernel_rfl)) (by unfold Func.isWrapper; first | (rw [if_pos (by decide +kernel)]; kernel_rfl) | (rw [if_neg (by decide +kernel)]; exact ⟨rfl, rfl⟩))
    (fun os started H enc _ F0 => by rw [OpenClaim.pre_eq_preRow]; exact lifted os started H enc F0)
end digitizeLinked

/-- the row -/
theorem digitizeLinked_row : Rows.DigitizeLinkedSaid := digitizeLinked.over
set_option maxRecDepth 100000 in
/-- the card: the row, its listed variables tied to the program's text -/
theorem digitizeLinked_proved : Rows.DigitizeLinkedCardSaid :=
  Claim7.holds_tied_plain_at .later [] [.data, .data, .data] true (true, "62835bff37872f84d74a16e8ad0111140da1f6402ad12692319f03e94d54ca98") false
    digitizeLinked_row (fun _ h => by cases h) (by kernel_rfl) (fun _ h => by cases h) digitizeLinked_row_tie rfl ⟨rfl, rfl⟩ (by kernel_rfl) rfl
    (fun f fn hf hfn => by
      obtain rfl : f = 10 := Option.some.inj ((show Tryz.prog.funcNamed "archivum/archivumlaw44.DigitizeLinked" = some 10 by kernel_rfl).symm.trans hf) |>.symm
      obtain rfl : fn = Tryz.f10 := (Option.some.inj (Tryz.func10.symm.trans hfn)).symm
      exact ⟨by kernel_rfl, fun j t ht => by
        rw [Tryz.params10] at ht
        have h3 : t = 52 ∨ t = 24 ∨ t = 3 := by
          rcases j with _ | _ | _ | j
          all_goals simp at ht
          all_goals first | omega | (subst ht; simp)
        rcases h3 with rfl | rfl | rfl
        · exact (show Tryz.prog.wantsStandIn 52 = false by kernel_rfl)
        · exact (show Tryz.prog.wantsStandIn 24 = false by kernel_rfl)
        · exact (show Tryz.prog.wantsStandIn 3 = false by kernel_rfl)
        ⟩)
    (by kernel_rfl)

end Go.Proofs.YtldnolgijfkfpaaGreatDoor
