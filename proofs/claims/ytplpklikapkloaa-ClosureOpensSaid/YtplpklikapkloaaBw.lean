/- Contracts: the laws on closures, written by a program along law31e.spec. -/
import Derived.Test.YtplpklikapkloaaBp
import Derived.Test.YtplpklikapkloaaBt
namespace Go.Proofs.Ytplpklikapkloaa
open Go.Abs Go.Arch
set_option linter.unusedVariables false
set_option linter.unusedSimpArgs false
set_option maxRecDepth 100000
set_option maxHeartbeats 1000000

theorem opens_ne {n : Nat} {g : Nat → Rule} {k : Int} {m : Dating} {f : Int} (h1 : (refOpensR n g k m f).2 ≠ 0) (h2 : (refOpensR n g k m f).2 ≠ 23) : (refOpensR n g k m f).1 = 0 := by
  rw [refOpensR_asked] at h1 h2 ⊢
  by_cases ha : askedR n g k m f ≠ 0
  · rw [if_pos ha]
  · rw [if_neg ha] at h1 h2 ⊢
    by_cases h3 : opensF (refSpans n g k m) f = 1048576
    · rw [if_pos h3]
    · rw [if_neg h3] at h1; simp at h1
theorem opens_of {n : Nat} {g : Nat → Rule} {k : Int} {m : Dating} {f : Int} (h : (refOpensR n g k m f).2 ≠ 0 → (refOpensR n g k m f).2 = 23) : (0 ≤ f ∧ f ≤ 1048575) ∧ ∃ O, (((refOpensR n g k m f) = (O, 0) ∧ O ≠ 1048576) ∨ ((refOpensR n g k m f) = (0, 23) ∧ O = 1048576)) ∧ f ≤ O ∧ O ≤ 1048576 ∧ (closedR n g k m O).2 = false ∧ ∀ d, f ≤ d → d < O → (closedR n g k m d).2 = true := by
  rw [refOpensR_asked] at h ⊢
  by_cases ha : askedR n g k m f ≠ 0
  · rw [if_pos ha] at h
    have := h ha
    simp only at this
    unfold askedR at this
    split at this
    · omega
    · split at this <;> omega
  · obtain ⟨a1, a2, a3, a4, a5, a6⟩ := asked_zero (Classical.not_not.1 ha)
    obtain ⟨b1, b2, b3, b4⟩ := opensF_spec (refSpans_good a1 k m).1 (f := f) (by omega)
    rw [if_neg ha]
    refine ⟨⟨a5, a6⟩, opensF (refSpans n g k m) f, ?_, b1, b2, ?_, fun d h1 h2 => (closed_iff a1 a2).2 (b4 d h1 h2)⟩
    · by_cases h3 : opensF (refSpans n g k m) f = 1048576
      · rw [if_pos h3]; exact .inr ⟨rfl, h3⟩
      · rw [if_neg h3]; exact .inl ⟨rfl, h3⟩
    · cases hc : (closedR n g k m (opensF (refSpans n g k m) f)).2 with
      | false => rfl
      | true => exact absurd ((closed_iff a1 a2).1 hc) b3
def absY (x : Int) : Int := max x (IntKind.i64.wrap (-IntKind.i64.wrap (x + 1)))
theorem absY_bd {x : Int} (h : -9223372036854775808 ≤ x ∧ x ≤ 9223372036854775807) : 0 ≤ absY x ∧ absY x ≤ 9223372036854775807 := by
  unfold absY
  by_cases h1 : x = 9223372036854775807
  · subst h1
    have : IntKind.i64.wrap (-IntKind.i64.wrap (9223372036854775807 + 1)) = -9223372036854775808 := by decide
    rw [this]; omega
  · rw [wrapI (n := x + 1) (by omega) (by omega), wrapI (by omega) (by omega)]; omega


theorem law31_ClosureOpens_cs (σ : List Blk) (c : Option Nat) (n : Nat) (g : Nat → Rule) (m : Dating) (x0 x1 x2 : Int) (h2 : -9223372036854775808 ≤ x2 ∧ x2 ≤ 9223372036854775807) : CSF Try.prog 10 [.d (SL c 6 Rule.enc n g), .agg (m.enc.map .d), .agg [.d (I x0), .d (I x1), .d (I x2)]] σ (.d (B true)) := by
  refine CSF.of_body T.en10 Try.func10 rfl (by simp [Try.ntmps10]) (by simp [go_sem]) fun hwf => ?_
  refine awp_reg_seq fun K hK => ?_
  simp [go_sem, Try.ntmps10]
  repeat refine ⟨by omega, ?_⟩
  refine hK _ ?_; clear hK K
  refine awp_seq ?_
  refine awp_reg_seq fun K hK => ?_
  simp [go_sem]
  repeat refine ⟨by omega, ?_⟩
  refine CSk.mk (law31_awake_cs _ ) ?_
  simp [go_sem]
  repeat refine ⟨by omega, ?_⟩
  refine hK _ ?_; clear hK K
  refine awp_forget [0, 4, 5, 20] (by simp only [restr, List.contains_cons, List.contains_nil, Nat.reduceBEq, Bool.or_false, Bool.or_true, Bool.true_or, Bool.false_or, if_true, if_false, Bool.false_eq_true]; rfl) ?_
  refine awp_cond rfl (fun c0 => ?_) (fun c0 => ?_)
  · have d0 := c0; try simp at d0
  · have d0 := c0; try simp at d0
    refine awp_skip ?_
    refine awp_draw_seq 5 T.mixed (by kernel_rfl) fun K hK => ?_
    simp [go_sem, c0, d0]
    repeat refine ⟨by omega, ?_⟩
    refine hK _ ?_; clear hK K
    refine awp_seq ?_
    refine awp_reg_seq fun K hK => ?_
    simp [go_sem, c0, d0]
    repeat refine ⟨by omega, ?_⟩
    refine CSk.mk (ref31_Few_cs _ _ _ _) ?_
    simp [go_sem, c0, d0]
    repeat refine ⟨by omega, ?_⟩
    refine hK _ ?_; clear hK K
    refine awp_forget [0, 4, 5, 7, 8, 27] (by simp only [restr, List.contains_cons, List.contains_nil, Nat.reduceBEq, Bool.or_false, Bool.or_true, Bool.true_or, Bool.false_or, if_true, if_false, Bool.false_eq_true]; rfl) ?_
    refine awp_cond rfl (fun c1 => ?_) (fun c1 => ?_)
    · have d1 := c1; try simp at d1
      refine awp_reg_seq fun K hK => ?_
      simp [go_sem, c0, d0, c1, d1]
      repeat refine ⟨by omega, ?_⟩
      refine hK _ ?_; clear hK K
      refine awp_ret ?_
      simp [go_sem, Try.results10, c0, d0, c1, d1] <;> omega
    · have d1 := c1; try simp at d1
      refine awp_skip ?_
      refine awp_draw_seq 10 T.mixed (by kernel_rfl) fun K hK => ?_
      simp [go_sem, c0, d0, c1, d1]
      repeat refine ⟨by omega, ?_⟩
      refine CSg.mk (cloneRule_cs _ c n g (by omega)) ?_
      simp [go_sem, c0, d0, c1, d1]
      repeat refine ⟨by omega, ?_⟩
      refine CSg.mk (closure_Opens_cs _ none n g x0 m x1 (by omega)) ?_
      simp [go_sem, c0, d0, c1, d1]
      repeat refine ⟨by omega, ?_⟩
      refine hK _ ?_; clear hK K
      refine awp_seq ?_
      refine awp_reg_seq fun K hK => ?_
      simp [go_sem, c0, d0, c1, d1]
      repeat refine ⟨by omega, ?_⟩
      refine hK _ ?_; clear hK K
      refine awp_forget [0, 4, 5, 7, 8, 9, 10, 42] (by simp only [restr, List.contains_cons, List.contains_nil, Nat.reduceBEq, Bool.or_false, Bool.or_true, Bool.true_or, Bool.false_or, if_true, if_false, Bool.false_eq_true]; rfl) ?_
      refine awp_cond rfl (fun c2 => ?_) (fun c2 => ?_)
      · have d2 := c2; try simp at d2
        have hz := opens_ne d2.1 d2.2
        refine awp_reg_seq fun K hK => ?_
        simp [go_sem, c0, d0, c1, d1, c2, d2, hz]
        repeat refine ⟨by omega, ?_⟩
        refine hK _ ?_; clear hK K
        refine awp_ret ?_
        simp [go_sem, Try.results10, c0, d0, c1, d1, c2, d2, hz] <;> omega
      · have d2 := c2; try simp at d2
        obtain ⟨hf, O, hO, ho1, ho2, ho3, ho4⟩ := opens_of d2
        have hY := absY_bd h2
        refine awp_skip ?_
        refine awp_reg_seq fun K hK => ?_
        simp [go_sem, c0, d0, c1, d1, c2, d2]
        repeat refine ⟨by omega, ?_⟩
        refine hK _ ?_; clear hK K
        refine awp_seq ?_
        refine awp_reg_seq fun K hK => ?_
        simp [go_sem, c0, d0, c1, d1, c2, d2]
        repeat refine ⟨by omega, ?_⟩
        refine hK _ ?_; clear hK K
        refine awp_forget [0, 4, 5, 7, 8, 9, 11, 47] (by simp only [restr, List.contains_cons, List.contains_nil, Nat.reduceBEq, Bool.or_false, Bool.or_true, Bool.true_or, Bool.false_or, if_true, if_false, Bool.false_eq_true]; rfl) ?_
        refine awp_cond rfl (fun c3 => ?_) (fun c3 => ?_)
        · have d3 := c3; try simp at d3
          obtain ⟨hz, rfl⟩ : refOpensR n g x0 m x1 = (0, 23) ∧ O = 1048576 := by
            rcases hO with ⟨h, _⟩ | h
            · rw [h] at d3; simp at d3
            · exact h
          refine awp_reg_end fun K hK => ?_
          simp [go_sem, c0, d0, c1, d1, c2, d2, c3, d3]
          repeat refine ⟨by omega, ?_⟩
          refine hK _ ?_; clear hK K
          refine awp_seq ?_
          refine awp_reg_seq fun K hK => ?_
          simp [go_sem, c0, d0, c1, d1, c2, d2, c3, d3]
          repeat refine ⟨by omega, ?_⟩
          refine hK _ ?_; clear hK K
          refine awp_forget [0, 4, 5, 7, 8, 11, 65] (by simp only [restr, List.contains_cons, List.contains_nil, Nat.reduceBEq, Bool.or_false, Bool.or_true, Bool.true_or, Bool.false_or, if_true, if_false, Bool.false_eq_true]; rfl) ?_
          refine awp_cond rfl (fun c4 => ?_) (fun c4 => ?_)
          · have d4 := c4; try simp at d4
            refine awp_reg_seq fun K hK => ?_
            simp [go_sem, c0, d0, c1, d1, c2, d2, c3, d3, c4, d4]
            repeat refine ⟨by omega, ?_⟩
            refine hK _ ?_; clear hK K
            refine awp_ret ?_
            simp [go_sem, Try.results10, c0, d0, c1, d1, c2, d2, c3, d3, c4, d4] <;> omega
          · have d4 := c4; try simp at d4
            have hp : 0 < 1048576 - x1 := by omega
            have e1 := Int.emod_nonneg (absY x2) (show 1048576 - x1 ≠ 0 by omega)
            have e2 := Int.emod_lt_of_pos (absY x2) hp
            have hw1 : IntKind.i64.wrap (1048576 - x1) = 1048576 - x1 := wrapI (by omega) (by omega)
            have hq : (max x2 (IntKind.i64.wrap (-IntKind.i64.wrap (x2 + 1)))).tmod (1048576 - x1) = absY x2 % (1048576 - x1) := tmodI hY.1
            have hw2 : IntKind.i64.wrap (x1 + absY x2 % (1048576 - x1)) = x1 + absY x2 % (1048576 - x1) := wrapI (by omega) (by omega)
            have hfi : (closedR n g x0 m (x1 + absY x2 % (1048576 - x1))).2 = true := ho4 _ (by omega) (by omega)
            have hla : (closedR n g x0 m (1048575)).2 = true := ho4 _ (by omega) (by omega)
            refine awp_skip ?_
            refine awp_reg_seq fun K hK => ?_
            simp [go_sem, c0, d0, c1, d1, c2, d2, c3, d3, c4, d4, hw1, hq, hw2, hfi, hla]
            try simp (disch := omega) only [tmodI, wrapI]
            repeat refine ⟨by omega, ?_⟩
            refine hK _ ?_; clear hK K
            apply awp_own_seq 11 9 10 T.mixed (by kernel_rfl)
            · intro τ K hK
              simp [go_sem, c0, d0, c1, d1, c2, d2, c3, d3, c4, d4, hw1, hq, hw2, hfi, hla]
              repeat refine ⟨by omega, ?_⟩
              refine CSg.mk (cloneRule_cs _ c n g (by omega)) ?_
              simp [go_sem, c0, d0, c1, d1, c2, d2, c3, d3, c4, d4, hw1, hq, hw2, hfi, hla]
              repeat refine ⟨by omega, ?_⟩
              refine CSg.mk (closure_Closed_cs _ none n g x0 m _ (by omega)) ?_
              simp [go_sem, c0, d0, c1, d1, c2, d2, c3, d3, c4, d4, hw1, hq, hw2, hfi, hla]
              repeat refine ⟨by omega, ?_⟩
              exact hK _ _
            intro K hK
            simp [go_sem, c0, d0, c1, d1, c2, d2, c3, d3, c4, d4, hw1, hq, hw2, hfi, hla]
            repeat refine ⟨by omega, ?_⟩
            refine hK _ ?_; clear hK K
            apply awp_own_seq 12 10 11 T.mixed (by kernel_rfl)
            · intro τ K hK
              simp [go_sem, c0, d0, c1, d1, c2, d2, c3, d3, c4, d4, hw1, hq, hw2, hfi, hla]
              try simp (disch := omega) only [wrapI]
              repeat refine ⟨by omega, ?_⟩
              refine CSg.mk (cloneRule_cs _ c n g (by omega)) ?_
              simp [go_sem, c0, d0, c1, d1, c2, d2, c3, d3, c4, d4, hw1, hq, hw2, hfi, hla]
              try simp (disch := omega) only [wrapI]
              repeat refine ⟨by omega, ?_⟩
              refine CSg.mk (closure_Closed_cs _ none n g x0 m _ (by omega)) ?_
              simp [go_sem, c0, d0, c1, d1, c2, d2, c3, d3, c4, d4, hw1, hq, hw2, hfi, hla]
              try simp (disch := omega) only [wrapI]
              repeat refine ⟨by omega, ?_⟩
              exact hK _ _
            intro K hK
            simp [go_sem, c0, d0, c1, d1, c2, d2, c3, d3, c4, d4, hw1, hq, hw2, hfi, hla]
            try simp (disch := omega) only [wrapI]
            repeat refine ⟨by omega, ?_⟩
            refine hK _ ?_; clear hK K
            refine awp_reg_seq fun K hK => ?_
            simp [go_sem, c0, d0, c1, d1, c2, d2, c3, d3, c4, d4, hw1, hq, hw2, hfi, hla]
            repeat refine ⟨by omega, ?_⟩
            refine hK _ ?_; clear hK K
            refine awp_ret ?_
            simp [go_sem, Try.results10, c0, d0, c1, d1, c2, d2, c3, d3, c4, d4, hw1, hq, hw2, hfi, hla] <;> omega
        · have d3 := c3; try simp at d3
          obtain ⟨hz, hne⟩ : refOpensR n g x0 m x1 = (O, 0) ∧ O ≠ 1048576 := by
            rcases hO with h | ⟨h, _⟩
            · exact h
            · rw [h] at d3; simp at d3
          rw [hz]
          apply awp_own_seq 11 9 10 T.mixed (by kernel_rfl)
          · intro τ K hK
            simp [go_sem, c0, d0, c1, d1, c2, d2, c3, d3]
            repeat refine ⟨by omega, ?_⟩
            refine CSg.mk (cloneRule_cs _ c n g (by omega)) ?_
            simp [go_sem, c0, d0, c1, d1, c2, d2, c3, d3]
            repeat refine ⟨by omega, ?_⟩
            refine CSg.mk (closure_Closed_cs _ none n g x0 m _ (by omega)) ?_
            simp [go_sem, c0, d0, c1, d1, c2, d2, c3, d3]
            repeat refine ⟨by omega, ?_⟩
            exact hK _ _
          intro K hK
          simp [go_sem, c0, d0, c1, d1, c2, d2, c3, d3]
          repeat refine ⟨by omega, ?_⟩
          refine hK _ ?_; clear hK K
          refine awp_reg_seq fun K hK => ?_
          simp [go_sem, c0, d0, c1, d1, c2, d2, c3, d3]
          repeat refine ⟨by omega, ?_⟩
          refine hK _ ?_; clear hK K
          refine awp_forget [0, 4, 5, 7, 8, 11, 62] (by simp only [restr, List.contains_cons, List.contains_nil, Nat.reduceBEq, Bool.or_false, Bool.or_true, Bool.true_or, Bool.false_or, if_true, if_false, Bool.false_eq_true]; rfl) ?_
          refine awp_cond rfl (fun c5 => ?_) (fun c5 => ?_)
          · have d5 := c5; try simp at d5
            refine awp_reg_seq fun K hK => ?_
            simp [go_sem, c0, d0, c1, d1, c2, d2, c3, d3, c5, d5]
            repeat refine ⟨by omega, ?_⟩
            refine hK _ ?_; clear hK K
            refine awp_ret ?_
            exfalso
            rcases d5 with h | h
            · rw [ho3] at h; cases h
            · omega
          · have d5 := c5; try simp at d5
            refine awp_skip ?_
            refine awp_seq ?_
            refine awp_reg_seq fun K hK => ?_
            simp [go_sem, c0, d0, c1, d1, c2, d2, c3, d3, c5, d5]
            repeat refine ⟨by omega, ?_⟩
            refine hK _ ?_; clear hK K
            refine awp_forget [0, 4, 5, 7, 8, 11, 65] (by simp only [restr, List.contains_cons, List.contains_nil, Nat.reduceBEq, Bool.or_false, Bool.or_true, Bool.true_or, Bool.false_or, if_true, if_false, Bool.false_eq_true]; rfl) ?_
            refine awp_cond rfl (fun c6 => ?_) (fun c6 => ?_)
            · have d6 := c6; try simp at d6
              refine awp_reg_seq fun K hK => ?_
              simp [go_sem, c0, d0, c1, d1, c2, d2, c3, d3, c5, d5, c6, d6]
              repeat refine ⟨by omega, ?_⟩
              refine hK _ ?_; clear hK K
              refine awp_ret ?_
              simp [go_sem, Try.results10, c0, d0, c1, d1, c2, d2, c3, d3, c5, d5, c6, d6] <;> omega
            · have d6 := c6; try simp at d6
              have hp : 0 < O - x1 := by omega
              have e1 := Int.emod_nonneg (absY x2) (show O - x1 ≠ 0 by omega)
              have e2 := Int.emod_lt_of_pos (absY x2) hp
              have hw1 : IntKind.i64.wrap (O - x1) = O - x1 := wrapI (by omega) (by omega)
              have hq : (max x2 (IntKind.i64.wrap (-IntKind.i64.wrap (x2 + 1)))).tmod (O - x1) = absY x2 % (O - x1) := tmodI hY.1
              have hw2 : IntKind.i64.wrap (x1 + absY x2 % (O - x1)) = x1 + absY x2 % (O - x1) := wrapI (by omega) (by omega)
              have hfi : (closedR n g x0 m (x1 + absY x2 % (O - x1))).2 = true := ho4 _ (by omega) (by omega)
              have hla : (closedR n g x0 m (O - 1)).2 = true := ho4 _ (by omega) (by omega)
              have hw3 : IntKind.i64.wrap (O - 1) = O - 1 := wrapI (by omega) (by omega)
              refine awp_skip ?_
              refine awp_reg_seq fun K hK => ?_
              simp [go_sem, c0, d0, c1, d1, c2, d2, c3, d3, c5, d5, c6, d6, hw1, hq, hw2, hfi, hla, hw3]
              try simp (disch := omega) only [tmodI, wrapI]
              repeat refine ⟨by omega, ?_⟩
              refine hK _ ?_; clear hK K
              apply awp_own_seq 11 9 10 T.mixed (by kernel_rfl)
              · intro τ K hK
                simp [go_sem, c0, d0, c1, d1, c2, d2, c3, d3, c5, d5, c6, d6, hw1, hq, hw2, hfi, hla, hw3]
                repeat refine ⟨by omega, ?_⟩
                refine CSg.mk (cloneRule_cs _ c n g (by omega)) ?_
                simp [go_sem, c0, d0, c1, d1, c2, d2, c3, d3, c5, d5, c6, d6, hw1, hq, hw2, hfi, hla, hw3]
                repeat refine ⟨by omega, ?_⟩
                refine CSg.mk (closure_Closed_cs _ none n g x0 m _ (by omega)) ?_
                simp [go_sem, c0, d0, c1, d1, c2, d2, c3, d3, c5, d5, c6, d6, hw1, hq, hw2, hfi, hla, hw3]
                repeat refine ⟨by omega, ?_⟩
                exact hK _ _
              intro K hK
              simp [go_sem, c0, d0, c1, d1, c2, d2, c3, d3, c5, d5, c6, d6, hw1, hq, hw2, hfi, hla, hw3]
              repeat refine ⟨by omega, ?_⟩
              refine hK _ ?_; clear hK K
              apply awp_own_seq 12 10 11 T.mixed (by kernel_rfl)
              · intro τ K hK
                simp [go_sem, c0, d0, c1, d1, c2, d2, c3, d3, c5, d5, c6, d6, hw1, hq, hw2, hfi, hla, hw3]
                try simp (disch := omega) only [wrapI]
                repeat refine ⟨by omega, ?_⟩
                refine CSg.mk (cloneRule_cs _ c n g (by omega)) ?_
                simp [go_sem, c0, d0, c1, d1, c2, d2, c3, d3, c5, d5, c6, d6, hw1, hq, hw2, hfi, hla, hw3]
                try simp (disch := omega) only [wrapI]
                repeat refine ⟨by omega, ?_⟩
                refine CSg.mk (closure_Closed_cs _ none n g x0 m _ (by omega)) ?_
                simp [go_sem, c0, d0, c1, d1, c2, d2, c3, d3, c5, d5, c6, d6, hw1, hq, hw2, hfi, hla, hw3]
                try simp (disch := omega) only [wrapI]
                repeat refine ⟨by omega, ?_⟩
                exact hK _ _
              intro K hK
              simp [go_sem, c0, d0, c1, d1, c2, d2, c3, d3, c5, d5, c6, d6, hw1, hq, hw2, hfi, hla, hw3]
              try simp (disch := omega) only [wrapI]
              repeat refine ⟨by omega, ?_⟩
              refine hK _ ?_; clear hK K
              refine awp_reg_seq fun K hK => ?_
              simp [go_sem, c0, d0, c1, d1, c2, d2, c3, d3, c5, d5, c6, d6, hw1, hq, hw2, hfi, hla, hw3]
              repeat refine ⟨by omega, ?_⟩
              refine hK _ ?_; clear hK K
              refine awp_ret ?_
              simp [go_sem, Try.results10, c0, d0, c1, d1, c2, d2, c3, d3, c5, d5, c6, d6, hw1, hq, hw2, hfi, hla, hw3] <;> omega

end Go.Proofs.Ytplpklikapkloaa
