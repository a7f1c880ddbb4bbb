/- The given statement on a law, out of the law's contract: for every input the law returns true, and the arguments read as before; the listed variables are tied to the program's text. Written by a program (frameL.py). -/
import Derived.Test.YtldnolgijfkfpaaGreatDoorKC4
import Derived.Test.YtldnolgijfkfpaaGreatDoorKC6
import Derived.Test.YtldnolgijfkfpaaGreatDoorTie
import Derived.Test.YtldnolgijfkfpaaGreatDoorCards
import Derived.SevenTiedAt
namespace Go.Proofs.YtldnolgijfkfpaaGreatDoor
open Go.Abs
open Go.ChangeShapes Go.WideShapes Go.ChangeAt Go.RowKit
set_option linter.unusedVariables false
set_option linter.unusedSimpArgs false

namespace digitizeDecides
set_option maxRecDepth 100000 in
theorem lifted (os : Os) (started : os.Started) (H : Type) (enc : TypeId × Value → H) (F : Stop.Interp) :
    ReturnsInHanded {} Tryz.checked os 8 .any ((OpenSpec.ofChange Rows.digitizeDecidesSpec).preRow enc Tryz.prog Tryz.f8 Rows.digitizeDecidesRow.domain false Rows.digitizeDecidesRow.laid) (((OpenSpec.ofChange Rows.digitizeDecidesSpec).at F).post enc Tryz.prog Tryz.f8 false true false false) := by
  refine returnsInHanded_of_row (C := Tryz.checked) (s := OpenSpec.ofChange Rows.digitizeDecidesSpec) own started (by kernel_rfl) Tryz.func8
    (witness_row_at (enc := enc) (C := Tryz.checked) false (laidWorld os) #[.agg #[.int .i64 0, .int .i64 0, .int .i64 0, .int .i64 0, .int .i64 0, .int .i64 0, .slice none 0 0, .slice none 0 0], .slice none 0 0] rfl (by kernel_rfl) (by kernel_rfl) (by kernel_rfl) (OpenSpec.preRow_of_B rfl 8 (by kernel_rfl) (by kernel_rfl) (laid_met os _))) ?_
  intro W base args ds gs before hval0 hW _ _ _ hL hsh _
  have hval : ∀ (j : Nat) t v, Tryz.f8.params[j]? = some t → args[j]? = some v → Value.okWide Tryz.prog W .any base t v := hval0
  have hW' := hW
  obtain ⟨p, q, hA0, hV, rfl, hfz, hnd⟩ := hW
  have hA : DataW.TrodAll enc Tryz.prog W 0 (fun _ => true) true Tryz.f8.params.toList args.toList ds p := hA0
  rw [Tryz.params8] at hA hval
  obtain ⟨v0, vs0, d0, ds0, p0, q0, hargs, rfl, rfl, h0, r0⟩ := trodAll_cons hA
  obtain ⟨v1, vs1, d1, ds1, p1, q1, rfl, rfl, rfl, h1, r1⟩ := trodAll_cons r0
  obtain ⟨rfl, rfl, rfl⟩ := trodAll_nil r1
  obtain rfl : args = #[v0, v1] := by cases args; simp_all
  obtain ⟨rfl, rfl⟩ := trodVars_none hV
  have lt0 : ∀ x ∈ p0, x.block < W.heap.size := by obtain ⟨m, hm⟩ := h0; exact DataW.trod_lt m _ _ _ hm
  obtain ⟨y0, ⟨b0x, rfl, m0x, n0x⟩, R0⟩ := arg_struct Tryz.underlying24 opn24 (hval 0 24 v0 rfl rfl) h0
  have lt1 : ∀ x ∈ p1, x.block < W.heap.size := by obtain ⟨m, hm⟩ := h1; exact DataW.trod_lt m _ _ _ hm
  obtain ⟨y1, ⟨n1x, g1x, rfl, l1x⟩, R1⟩ := arg_slice Tryz.underlying49 opn49 (hval 1 49 v1 rfl rfl) h1
  clear hA0 hval0
  refine (law_callsP (args := #[v0, v1]) (law44_DigitizeDecides_cs [.tab 0 powV] b0x n1x g1x m0x n0x rfl) (powIs hL) (RsT.cons R0.none1_agg (RsT.cons R1.none1_d (rsT_nil W)))).mono fun e W' ⟨he, bel⟩ => ?_
  subst he
  exact ⟨_, rfl, _, _, _, [], _, [], hW', trodAll_mk1 (shut_bool Tryz.underlying4 _), (trodAll_cons_mk (Below.trod laidOut (by kernel_rfl) (of_decide_eq_true (by kernel_rfl)) h0 bel lt0) (trodAll_cons_mk (Below.trod laidOut (by kernel_rfl) (of_decide_eq_true (by kernel_rfl)) h1 bel lt1) trodAll_mk0)), rfl, bel.frame _, fun h => by cases h⟩

theorem over : Rows.digitizeDecidesRow.holds Tryz.pinned (OpenSpec.ofChange Rows.digitizeDecidesSpec) :=
  OpenClaim.holds_of_cond 8 Tryz.f8 rfl rfl rfl rfl rfl rfl rfl ⟨rfl, rfl, rfl, rfl, rfl⟩ rfl rfl rfl rfl rfl (by kernel_rfl) Tryz.func8 (by kernel_rfl)
    (of_decide_eq_true (by kernel_rfl)) (by unfold Func.isWrapper; first | (rw [if_pos (by decide +kernel)]; kernel_rfl) | (rw [if_neg (by decide +kernel)]; exact ⟨rfl, rfl⟩))
    (fun os started H enc _ F0 => by rw [OpenClaim.pre_eq_preRow]; exact lifted os started H enc F0)
end digitizeDecides

/-- the row -/
theorem digitizeDecides_row : Rows.DigitizeDecidesSaid := digitizeDecides.over
set_option maxRecDepth 100000 in
/-- the card: the row, its listed variables tied to the program's text -/
theorem digitizeDecides_proved : Rows.DigitizeDecidesCardSaid :=
  Claim7.holds_tied_plain_at .later [] [.data, .data, .data] true (true, "62835bff37872f84d74a16e8ad0111140da1f6402ad12692319f03e94d54ca98") false
    digitizeDecides_row (fun _ h => by cases h) (by kernel_rfl) (fun _ h => by cases h) digitizeDecides_row_tie rfl ⟨rfl, rfl⟩ (by kernel_rfl) rfl
    (fun f fn hf hfn => by
      obtain rfl : f = 8 := Option.some.inj ((show Tryz.prog.funcNamed "archivum/archivumlaw44.DigitizeDecides" = some 8 by kernel_rfl).symm.trans hf) |>.symm
      obtain rfl : fn = Tryz.f8 := (Option.some.inj (Tryz.func8.symm.trans hfn)).symm
      exact ⟨by kernel_rfl, fun j t ht => by
        rw [Tryz.params8] at ht
        have h3 : t = 24 ∨ t = 49 := by
          rcases j with _ | _ | j
          all_goals simp at ht
          all_goals first | omega | (subst ht; simp)
        rcases h3 with rfl | rfl
        · exact (show Tryz.prog.wantsStandIn 24 = false by kernel_rfl)
        · exact (show Tryz.prog.wantsStandIn 49 = false by kernel_rfl)
        ⟩)
    (by kernel_rfl)

end Go.Proofs.YtldnolgijfkfpaaGreatDoor
