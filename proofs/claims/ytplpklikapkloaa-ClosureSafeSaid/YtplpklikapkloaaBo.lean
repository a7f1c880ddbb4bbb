/- Contracts: Spans and Opens of closure, written by a program along closure5.spec. -/
import Derived.Test.YtplpklikapkloaaBl
import Derived.Test.YtplpklikapkloaaBn
namespace Go.Proofs.Ytplpklikapkloaa
open Go.Abs Go.Arch
set_option linter.unusedVariables false
set_option linter.unusedSimpArgs false
set_option maxRecDepth 100000
set_option maxHeartbeats 400000

theorem asked_zero {n : Nat} {g : Nat → Rule} {k : Int} {m : Dating} {d : Int} (h : askedR n g k m d = 0) : check n g = 0 ∧ datChk m = 0 ∧ 1 ≤ k ∧ k ≤ 999 ∧ 0 ≤ d ∧ d ≤ 1048575 := by
  unfold askedR at h
  split at h
  · omega
  · split at h
    · omega
    · omega
theorem refSpansR_asked (n : Nat) (g : Nat → Rule) (k : Int) (m : Dating) : refSpansR n g k m = if askedR n g k m 0 ≠ 0 then ([], askedR n g k m 0) else (refSpans n g k m, 0) := by
  unfold refSpansR askedR
  by_cases h1 : check n g ≠ 0 ∨ datChk m ≠ 0
  · simp only [if_pos h1]; simp
  · simp only [if_neg h1]
    by_cases h2 : k < 1 ∨ 999 < k
    · rw [if_pos h2, if_pos (show k < 1 ∨ 999 < k ∨ (0 : Int) < 0 ∨ (1048575 : Int) < 0 by omega)]; simp
    · rw [if_neg h2, if_neg (show ¬ (k < 1 ∨ 999 < k ∨ (0 : Int) < 0 ∨ (1048575 : Int) < 0) by omega)]; simp
theorem refOpensR_asked (n : Nat) (g : Nat → Rule) (k : Int) (m : Dating) (f : Int) : refOpensR n g k m f = if askedR n g k m f ≠ 0 then (0, askedR n g k m f) else if opensF (refSpans n g k m) f = 1048576 then (0, 23) else (opensF (refSpans n g k m) f, 0) := by
  unfold refOpensR
  by_cases h1 : check n g ≠ 0 ∨ datChk m ≠ 0
  · have e1 : refSpansR n g k m = ([], 1) := by unfold refSpansR; rw [if_pos h1]
    have e2 : askedR n g k m f = 1 := by unfold askedR; rw [if_pos h1]
    simp [e1, e2]
  · by_cases h2 : k < 1 ∨ 999 < k
    · have e1 : refSpansR n g k m = ([], 2) := by unfold refSpansR; rw [if_neg h1, if_pos h2]
      have e2 : askedR n g k m f = 2 := by unfold askedR; rw [if_neg h1, if_pos (by omega)]
      simp [e1, e2]
    · have e1 : refSpansR n g k m = (refSpans n g k m, 0) := by unfold refSpansR; rw [if_neg h1, if_neg h2]
      by_cases h3 : f < 0 ∨ 1048575 < f
      · have e2 : askedR n g k m f = 2 := by unfold askedR; rw [if_neg h1, if_pos (by omega)]
        simp [e1, e2, h3]
      · have e2 : askedR n g k m f = 0 := by unfold askedR; rw [if_neg h1, if_neg (by omega)]
        simp only [e1, e2, if_neg h3]
        have := opensF_spec (refSpans_good (n := n) (g := g) (by omega) k m).1 (f := f) (by omega)
        simp only [ne_eq, not_true_eq_false, if_false]
        by_cases h4 : opensF (refSpans n g k m) f = 1048576
        · rw [if_pos (by omega), if_pos h4]
        · rw [if_neg (by omega), if_neg h4]


theorem closure_Spans_cs (σ : List Blk) (c : Option Nat) (n : Nat) (g : Nat → Rule) (k : Int) (m : Dating) (hn : n < 1000000000) : CSF Try.prog 25 [.d (SL c 6 Rule.enc n g), .d (I k), .agg (m.enc.map .d)] σ (.tup [.d (SL none 2 Span.enc (refSpansR n g k m).1.length (nth (refSpansR n g k m).1)), .d (I (refSpansR n g k m).2)]) := by
  refine CSF.of_body T.en25 Try.func25 rfl (by simp [Try.ntmps25]) (by simp [go_sem]) fun hwf => ?_
  refine awp_reg_seq fun K hK => ?_
  simp [go_sem, Try.ntmps25]
  repeat refine ⟨by omega, ?_⟩
  refine hK _ ?_; clear hK K
  refine awp_seq ?_
  refine awp_reg_seq fun K hK => ?_
  simp [go_sem]
  repeat refine ⟨by omega, ?_⟩
  refine CSk.mk (closure_asked_cs _ c n g k m 0 hn) ?_
  simp [go_sem]
  repeat refine ⟨by omega, ?_⟩
  refine hK _ ?_; clear hK K
  refine awp_reg_seq fun K hK => ?_
  simp [go_sem]
  repeat refine ⟨by omega, ?_⟩
  refine hK _ ?_; clear hK K
  refine awp_forget [0, 1, 5, 8, 14] (by simp only [restr, List.contains_cons, List.contains_nil, Nat.reduceBEq, Bool.or_false, Bool.or_true, Bool.true_or, Bool.false_or, if_true, if_false, Bool.false_eq_true]; rfl) ?_
  refine awp_cond rfl (fun c0 => ?_) (fun c0 => ?_)
  · have d0 := c0; try simp at d0
    have hz : refSpansR n g k m = ([], askedR n g k m 0) := by rw [refSpansR_asked, if_pos d0]
    refine awp_reg_seq fun K hK => ?_
    simp [go_sem, c0, d0]
    repeat refine ⟨by omega, ?_⟩
    refine hK _ ?_; clear hK K
    refine awp_ret ?_
    rw [hz]; simp [go_sem, Try.results25]
  · have d0 := c0; try simp at d0
    have hz : refSpansR n g k m = (refSpans n g k m, 0) := by rw [refSpansR_asked, if_neg (by simp [d0])]
    refine awp_skip ?_
    refine awp_reg_seq fun K hK => ?_
    simp [go_sem, c0, d0]
    repeat refine ⟨by omega, ?_⟩
    refine CSk.mk (closure_spans_cs _ c n g k m (asked_zero d0).1) ?_
    simp [go_sem, c0, d0]
    repeat refine ⟨by omega, ?_⟩
    refine hK _ ?_; clear hK K
    refine awp_ret ?_
    rw [hz]; simp [go_sem, Try.results25]

theorem closure_Opens_cs (σ : List Blk) (c : Option Nat) (n : Nat) (g : Nat → Rule) (k : Int) (m : Dating) (f : Int) (hn : n < 1000000000) : CSF Try.prog 27 [.d (SL c 6 Rule.enc n g), .d (I k), .agg (m.enc.map .d), .d (I f)] σ (.tup [.d (I (refOpensR n g k m f).1), .d (I (refOpensR n g k m f).2)]) := by
  refine CSF.of_body T.en27 Try.func27 rfl (by simp [Try.ntmps27]) (by simp [go_sem]) fun hwf => ?_
  refine awp_reg_seq fun K hK => ?_
  simp [go_sem, Try.ntmps27]
  repeat refine ⟨by omega, ?_⟩
  refine hK _ ?_; clear hK K
  refine awp_seq ?_
  refine awp_reg_seq fun K hK => ?_
  simp [go_sem]
  repeat refine ⟨by omega, ?_⟩
  refine CSk.mk (closure_asked_cs _ c n g k m f hn) ?_
  simp [go_sem]
  repeat refine ⟨by omega, ?_⟩
  refine hK _ ?_; clear hK K
  refine awp_reg_seq fun K hK => ?_
  simp [go_sem]
  repeat refine ⟨by omega, ?_⟩
  refine hK _ ?_; clear hK K
  refine awp_forget [0, 1, 3, 6, 10, 19] (by simp only [restr, List.contains_cons, List.contains_nil, Nat.reduceBEq, Bool.or_false, Bool.or_true, Bool.true_or, Bool.false_or, if_true, if_false, Bool.false_eq_true]; rfl) ?_
  refine awp_cond rfl (fun c0 => ?_) (fun c0 => ?_)
  · have d0 := c0; try simp at d0
    have hz : refOpensR n g k m f = (0, askedR n g k m f) := by rw [refOpensR_asked, if_pos d0]
    refine awp_reg_seq fun K hK => ?_
    simp [go_sem, c0, d0]
    repeat refine ⟨by omega, ?_⟩
    refine hK _ ?_; clear hK K
    refine awp_ret ?_
    rw [hz]; simp [go_sem, Try.results27]
  · have d0 := c0; try simp at d0
    have hz : refOpensR n g k m f = if opensF (refSpans n g k m) f = 1048576 then (0, 23) else (opensF (refSpans n g k m) f, 0) := by rw [refOpensR_asked, if_neg (by simp [d0])]
    have hlen := refLoop_len n g k m 1048577 (nextF g k 0 n) []
    simp only [List.length_nil] at hlen
    have hlen' : (refSpans n g k m).length < 2000000 := by unfold refSpans; omega
    refine awp_skip ?_
    refine awp_seq ?_
    refine awp_reg_seq fun K hK => ?_
    simp [go_sem, c0, d0]
    repeat refine ⟨by omega, ?_⟩
    refine CSk.mk (closure_spans_cs _ c n g k m (asked_zero d0).1) ?_
    simp [go_sem, c0, d0]
    repeat refine ⟨by omega, ?_⟩
    refine hK _ ?_; clear hK K
    refine awp_block ?_
    refine awp_forget [3, 24, 25, 26] (by simp [go_sem, restr]; rfl) ?_
    refine awp_loopU (α := Nat × Int) (fun x => [(3, .d (I x.2)), (26, .d (I x.1))]) (fun x => _) (fun x => x.1 ≤ (refSpans n g k m).length ∧ opensF (refSpans n g k m) f = opensF ((refSpans n g k m).drop x.1) x.2) (fun x => (refSpans n g k m).length - x.1) (0, f) (by simp [go_sem]) rfl (⟨by simp, rfl⟩) ?_
    rintro ⟨i, e⟩ ⟨hi, hx⟩
    dsimp only at hi hx
    refine awp_reg_seq fun K hK => ?_
    simp [go_sem, c0, d0]
    repeat refine ⟨by omega, ?_⟩
    refine hK _ ?_; clear hK K
    refine awp_seq ?_
    refine awp_forget [3, 24, 25, 26, 27] (by simp only [restr, List.contains_cons, List.contains_nil, Nat.reduceBEq, Bool.or_false, Bool.or_true, Bool.true_or, Bool.false_or, if_true, if_false, Bool.false_eq_true]; rfl) ?_
    refine awp_cond rfl (fun c1 => ?_) (fun c1 => ?_)
    · have d1 := c1; try simp at d1
      rw [drop_nth (by omega), opensF] at hx
      refine awp_skip ?_
      refine awp_seq ?_
      refine awp_block ?_
      refine awp_reg_seq fun K hK => ?_
      simp [go_sem, c0, d0, c1, d1]
      repeat refine ⟨by omega, ?_⟩
      refine hK _ ?_; clear hK K
      refine awp_reg_seq fun K hK => ?_
      simp [go_sem, c0, d0, c1, d1]
      repeat refine ⟨by omega, ?_⟩
      refine hK _ ?_; clear hK K
      refine awp_forget [3, 12, 24, 25, 26, 39] (by simp only [restr, List.contains_cons, List.contains_nil, Nat.reduceBEq, Bool.or_false, Bool.or_true, Bool.true_or, Bool.false_or, if_true, if_false, Bool.false_eq_true]; rfl) ?_
      refine awp_cond rfl (fun c2 => ?_) (fun c2 => ?_)
      · have d2 := c2; try simp at d2
        refine awp_reg_end fun K hK => ?_
        simp [go_sem, c0, d0, c1, d1, c2, d2]
        repeat refine ⟨by omega, ?_⟩
        refine hK _ ?_; clear hK K
        refine awp_reg_end fun K hK => ?_
        simp [go_sem, c0, d0, c1, d1, c2, d2]
        try simp (disch := omega) only [wrapI]
        repeat refine ⟨by omega, ?_⟩
        refine hK _ ?_; clear hK K
        refine ⟨(i + 1, (nth (refSpans n g k m) i).Until), back_of' (by simp) (.refl _) (by (simp [go_sem, wrap_succ (i := i) (by omega), c0, d0, c1, d1, c2, d2] <;> omega)), ⟨by dsimp only; omega, by rw [hx, if_pos (by simpa using d2)]⟩, by first | omega | (dsimp only; omega)⟩
      · have d2 := c2; try simp at d2
        refine awp_skip ?_
        refine awp_reg_end fun K hK => ?_
        simp [go_sem, c0, d0, c1, d1, c2, d2]
        try simp (disch := omega) only [wrapI]
        repeat refine ⟨by omega, ?_⟩
        refine hK _ ?_; clear hK K
        refine ⟨(i + 1, e), back_of' (by simp) (.refl _) (by (simp [go_sem, wrap_succ (i := i) (by omega), c0, d0, c1, d1, c2, d2] <;> omega)), ⟨by dsimp only; omega, by rw [hx, if_neg (by simpa using d2)]⟩, by first | omega | (dsimp only; omega)⟩
    · have d1 := c1; try simp at d1
      rw [List.drop_eq_nil_iff.2 (by omega), opensF] at hx
      rw [hx] at hz
      refine awp_exit ?_
      refine awp_seq ?_
      refine awp_reg_seq fun K hK => ?_
      simp [go_sem, c0, d0, c1, d1]
      repeat refine ⟨by omega, ?_⟩
      refine hK _ ?_; clear hK K
      refine awp_forget [3, 44] (by simp only [restr, List.contains_cons, List.contains_nil, Nat.reduceBEq, Bool.or_false, Bool.or_true, Bool.true_or, Bool.false_or, if_true, if_false, Bool.false_eq_true]; rfl) ?_
      refine awp_cond rfl (fun c3 => ?_) (fun c3 => ?_)
      · have d3 := c3; try simp at d3
        rw [if_pos d3] at hz
        refine awp_reg_seq fun K hK => ?_
        simp [go_sem, c0, d0, c1, d1, c3, d3]
        repeat refine ⟨by omega, ?_⟩
        refine hK _ ?_; clear hK K
        refine awp_ret ?_
        rw [hz]; simp [go_sem, Try.results27]
      · have d3 := c3; try simp at d3
        rw [if_neg (by omega)] at hz
        refine awp_skip ?_
        refine awp_reg_seq fun K hK => ?_
        simp [go_sem, c0, d0, c1, d1, c3, d3]
        repeat refine ⟨by omega, ?_⟩
        refine hK _ ?_; clear hK K
        refine awp_ret ?_
        rw [hz]; simp [go_sem, Try.results27]

end Go.Proofs.Ytplpklikapkloaa
