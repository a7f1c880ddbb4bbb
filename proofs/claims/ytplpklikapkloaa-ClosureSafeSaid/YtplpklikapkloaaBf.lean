/- Contracts of the reference's closure rules, written by a program along ref31.spec. -/
import Derived.Test.YtplpklikapkloaaBe
namespace Go.Proofs.Ytplpklikapkloaa
open Go.Abs Go.Arch
set_option linter.unusedVariables false
set_option linter.unusedSimpArgs false
set_option maxRecDepth 100000
set_option maxHeartbeats 400000

theorem chkF_zero {g : Nat → Rule} : ∀ {k i : Nat}, chkF g i k = 0 → ∀ q, i ≤ q → q < i + k → formed (g q) = true ∧ (0 < q → (g (q - 1)).ID < (g q).ID) ∧ (lst q g).any (clash (g q)) = false
  | 0, i, h, q, h1, h2 => by omega
  | k + 1, i, h, q, h1, h2 => by
    rw [chkF] at h
    split at h
    · omega
    · rename_i hf
      split at h
      · omega
      · rename_i ho
        split at h
        · omega
        · rename_i hc
          by_cases e : q = i
          · subst e
            refine ⟨by simpa using hf, fun hq => ?_, by simpa using hc⟩
            simp [hq] at ho; omega
          · exact chkF_zero h q (by omega) (by omega)
theorem check_zero {n : Nat} {g : Nat → Rule} (h : check n g = 0) : n ≤ 64 ∧ ∀ q, q < n → formed (g q) = true ∧ (0 < q → (g (q - 1)).ID < (g q).ID) ∧ (lst q g).any (clash (g q)) = false := by
  unfold check at h
  split at h
  · omega
  · exact ⟨by omega, fun q hq => chkF_zero h q (by omega) (by omega)⟩
theorem inForce_formed {n : Nat} {g : Nat → Rule} {k d : Int} (h : (inForceR n g k d).2 = true) : formed (inForceR n g k d).1 = true := by
  unfold inForceR at h ⊢
  split at h
  · simp at h
  · rename_i hc
    rw [if_neg hc]
    have hlt := inForceI_lt n g k d
    have h0 : check n g = 0 := by omega
    exact ((check_zero h0).2 _ (by omega)).1
theorem any_drop {α : Type} {p : α → Bool} {l : List α} {q : Nat} (h : (l.drop q).any p = true) : l.any p = true := by
  rw [List.any_eq_true] at h ⊢
  obtain ⟨x, h1, h2⟩ := h
  exact ⟨x, List.mem_of_mem_drop h1, h2⟩


theorem ref31_Few_cs (σ : List Blk) (c : Option Nat) (n : Nat) (g : Nat → Rule) : CSF Try.prog 12 [.d (SL c 6 Rule.enc n g)] σ (.d (B (decide ((n : Int) ≤ 20)))) := by
  refine CSF.of_body T.en12 Try.func12 rfl (by simp [Try.ntmps12]) (by simp [go_sem]) fun hwf => ?_
  refine awp_reg_seq fun K hK => ?_
  simp [go_sem, Try.ntmps12]
  repeat refine ⟨by omega, ?_⟩
  refine hK _ ?_; clear hK K
  refine awp_reg_seq fun K hK => ?_
  simp [go_sem]
  repeat refine ⟨by omega, ?_⟩
  refine hK _ ?_; clear hK K
  refine awp_ret ?_
  simp [go_sem, Try.results12] <;> omega

theorem ref31_Spanned_cs (σ : List Blk) (s : Span) : CSF Try.prog 47 [.agg (s.enc.map .d)] σ (.d (B (spanOk s))) := by
  refine CSF.of_body T.en47 Try.func47 rfl (by simp [Try.ntmps47]) (by simp [go_sem]) fun hwf => ?_
  refine awp_reg_seq fun K hK => ?_
  simp [go_sem, Try.ntmps47]
  repeat refine ⟨by omega, ?_⟩
  refine hK _ ?_; clear hK K
  refine awp_reg_seq fun K hK => ?_
  simp [go_sem]
  repeat refine ⟨by omega, ?_⟩
  refine hK _ ?_; clear hK K
  refine awp_ret ?_
  simp [go_sem, Try.results47, spanOk] <;> omega

theorem ref31_Form_cs (σ : List Blk) (r : Rule) : CSF Try.prog 35 [.agg (r.enc.map .d)] σ (.d (B (formed r))) := by
  refine CSF.of_body T.en35 Try.func35 rfl (by simp [Try.ntmps35]) (by simp [go_sem]) fun hwf => ?_
  refine awp_reg_seq fun K hK => ?_
  simp [go_sem, Try.ntmps35]
  repeat refine ⟨by omega, ?_⟩
  refine hK _ ?_; clear hK K
  refine awp_reg_seq fun K hK => ?_
  simp [go_sem]
  repeat refine ⟨by omega, ?_⟩
  refine CSm.mk (ref31_Spanned_cs _ r.In) ?_
  simp [go_sem]
  repeat refine ⟨by omega, ?_⟩
  refine hK _ ?_; clear hK K
  refine awp_ret ?_
  simp [go_sem, Try.results35, formed] <;> omega

def meetB (a b : Span) : Bool := decide (a.From < b.Until) && decide (b.From < a.Until)
theorem ref31_meet_cs (σ : List Blk) (a b : Span) : CSF Try.prog 36 [.agg (a.enc.map .d), .agg (b.enc.map .d)] σ (.d (B (meetB a b))) := by
  refine CSF.of_body T.en36 Try.func36 rfl (by simp [Try.ntmps36]) (by simp [go_sem]) fun hwf => ?_
  refine awp_reg_seq fun K hK => ?_
  simp [go_sem, Try.ntmps36]
  repeat refine ⟨by omega, ?_⟩
  refine hK _ ?_; clear hK K
  refine awp_reg_seq fun K hK => ?_
  simp [go_sem]
  repeat refine ⟨by omega, ?_⟩
  refine hK _ ?_; clear hK K
  refine awp_ret ?_
  simp [go_sem, Try.results36, meetB] <;> omega

theorem ref31_Check_cs (σ : List Blk) (c : Option Nat) (n : Nat) (g : Nat → Rule) (hn : n < 1000000000) : CSF Try.prog 17 [.d (SL c 6 Rule.enc n g)] σ (.d (I (check n g))) := by
  refine CSF.of_body T.en17 Try.func17 rfl (by simp [Try.ntmps17]) (by simp [go_sem]) fun hwf => ?_
  refine awp_reg_seq fun K hK => ?_
  simp [go_sem, Try.ntmps17]
  repeat refine ⟨by omega, ?_⟩
  refine hK _ ?_; clear hK K
  refine awp_seq ?_
  refine awp_reg_seq fun K hK => ?_
  simp [go_sem]
  repeat refine ⟨by omega, ?_⟩
  refine hK _ ?_; clear hK K
  refine awp_forget [0, 9] (by simp only [restr, List.contains_cons, List.contains_nil, Nat.reduceBEq, Bool.or_false, Bool.or_true, Bool.true_or, Bool.false_or, if_true, if_false, Bool.false_eq_true]; rfl) ?_
  refine awp_cond rfl (fun c0 => ?_) (fun c0 => ?_)
  · have d0 := c0; try simp at d0
    refine awp_reg_seq fun K hK => ?_
    simp [go_sem, c0, d0]
    repeat refine ⟨by omega, ?_⟩
    refine hK _ ?_; clear hK K
    refine awp_ret ?_
    simp [go_sem, Try.results17, check, c0, d0] <;> omega
  · have d0 := c0; try simp at d0
    refine awp_skip ?_
    refine awp_seq ?_
    refine awp_reg_seq fun K hK => ?_
    simp [go_sem, c0, d0]
    repeat refine ⟨by omega, ?_⟩
    refine hK _ ?_; clear hK K
    refine awp_block ?_
    refine awp_forget [0, 10, 11, 12] (by simp [go_sem, restr]; rfl) ?_
    refine awp_loopU (α := Nat) (fun i => [(12, .d (I i))]) (fun i => _) (fun i => i ≤ n ∧ chkF g 0 n = chkF g i (n - i)) (fun i => n - i) 0 (by simp [go_sem]) rfl (by simp) ?_
    rintro i ⟨hi, hx⟩
    refine awp_reg_seq fun K hK => ?_
    simp [go_sem, c0, d0, hi, wrap_pred (i := i) (by omega)]
    repeat refine ⟨by omega, ?_⟩
    refine hK _ ?_; clear hK K
    refine awp_seq ?_
    refine awp_forget [0, 10, 11, 12, 13] (by simp only [restr, List.contains_cons, List.contains_nil, Nat.reduceBEq, Bool.or_false, Bool.or_true, Bool.true_or, Bool.false_or, if_true, if_false, Bool.false_eq_true]; rfl) ?_
    refine awp_cond rfl (fun c1 => ?_) (fun c1 => ?_)
    · have d1 := c1; try simp at d1
      obtain ⟨k, hk⟩ : ∃ k, n - i = k + 1 := ⟨n - i - 1, by omega⟩
      have hk' : n - (i + 1) = k := by omega
      rw [hk, chkF] at hx
      refine awp_skip ?_
      refine awp_seq ?_
      refine awp_block ?_
      refine awp_reg_seq fun K hK => ?_
      simp [go_sem, c0, d0, hi, wrap_pred (i := i) (by omega), c1, d1]
      repeat refine ⟨by omega, ?_⟩
      refine hK _ ?_; clear hK K
      refine awp_seq ?_
      refine awp_reg_seq fun K hK => ?_
      simp [go_sem, c0, d0, hi, wrap_pred (i := i) (by omega), c1, d1]
      repeat refine ⟨by omega, ?_⟩
      refine CSk.mk (ref31_Form_cs _ (g i)) ?_
      simp [go_sem, c0, d0, hi, wrap_pred (i := i) (by omega), c1, d1]
      repeat refine ⟨by omega, ?_⟩
      refine hK _ ?_; clear hK K
      refine awp_forget [0, 3, 4, 10, 11, 12, 19] (by simp only [restr, List.contains_cons, List.contains_nil, Nat.reduceBEq, Bool.or_false, Bool.or_true, Bool.true_or, Bool.false_or, if_true, if_false, Bool.false_eq_true]; rfl) ?_
      refine awp_cond rfl (fun c2 => ?_) (fun c2 => ?_)
      · have d2 := c2; try simp at d2
        refine awp_reg_seq fun K hK => ?_
        simp [go_sem, c0, d0, hi, wrap_pred (i := i) (by omega), c1, d1, c2, d2]
        repeat refine ⟨by omega, ?_⟩
        refine hK _ ?_; clear hK K
        refine awp_ret ?_
        simp [go_sem, Try.results17, check, hx, c0, d0, hi, wrap_pred (i := i) (by omega), c1, d1, c2, d2] <;> omega
      · have d2 := c2; try simp at d2
        refine awp_skip ?_
        refine awp_seq ?_
        refine awp_draw_seq 13 T.mixed (by kernel_rfl) fun K hK => ?_
        simp [go_sem, c0, d0, hi, wrap_pred (i := i) (by omega), c1, d1, c2, d2]
        try simp (disch := omega) only [wrapI]
        repeat refine ⟨by omega, ?_⟩
        refine hK _ ?_; clear hK K
        refine awp_forget [0, 3, 4, 10, 11, 12, 32] (by simp only [restr, List.contains_cons, List.contains_nil, Nat.reduceBEq, Bool.or_false, Bool.or_true, Bool.true_or, Bool.false_or, if_true, if_false, Bool.false_eq_true]; rfl) ?_
        refine awp_cond rfl (fun c3 => ?_) (fun c3 => ?_)
        · have d3 := c3; try simp at d3
          refine awp_reg_seq fun K hK => ?_
          simp [go_sem, c0, d0, hi, wrap_pred (i := i) (by omega), c1, d1, c2, d2, c3, d3]
          repeat refine ⟨by omega, ?_⟩
          refine hK _ ?_; clear hK K
          refine awp_ret ?_
          simp [go_sem, Try.results17, check, hx, c0, d0, hi, wrap_pred (i := i) (by omega), c1, d1, c2, d2, c3, d3] <;> omega
        · have d3 := c3; try simp at d3
          refine awp_skip ?_
          refine awp_reg_seq fun K hK => ?_
          simp [go_sem, c0, d0, hi, wrap_pred (i := i) (by omega), c1, d1, c2, d2, c3, d3]
          repeat refine ⟨by omega, ?_⟩
          refine hK _ ?_; clear hK K
          refine awp_block ?_
          refine awp_forget [0, 4, 10, 11, 12, 35, 36, 37] (by simp [go_sem, restr]; rfl) ?_
          refine awp_loopU (α := Nat) (fun q => [(37, .d (I q))]) (fun q => _) (fun q => q ≤ i ∧ (lst i g).any (clash (g i)) = ((lst i g).drop q).any (clash (g i))) (fun q => i - q) 0 (by simp [go_sem]) rfl (by simp) ?_
          rintro q ⟨hq, hy⟩
          refine awp_reg_seq fun K hK => ?_
          simp [go_sem, c0, d0, hi, wrap_pred (i := i) (by omega), c1, d1, c2, d2, c3, d3, hq]
          repeat refine ⟨by omega, ?_⟩
          refine hK _ ?_; clear hK K
          refine awp_seq ?_
          refine awp_forget [0, 4, 10, 11, 12, 35, 36, 37, 38] (by simp only [restr, List.contains_cons, List.contains_nil, Nat.reduceBEq, Bool.or_false, Bool.or_true, Bool.true_or, Bool.false_or, if_true, if_false, Bool.false_eq_true]; rfl) ?_
          refine awp_cond rfl (fun c4 => ?_) (fun c4 => ?_)
          · have d4 := c4; try simp at d4
            rw [drop_lst d4, List.any_cons] at hy
            refine awp_skip ?_
            refine awp_seq ?_
            refine awp_block ?_
            refine awp_reg_seq fun K hK => ?_
            simp [go_sem, c0, d0, hi, wrap_pred (i := i) (by omega), c1, d1, c2, d2, c3, d3, hq, c4, d4]
            repeat refine ⟨by omega, ?_⟩
            refine hK _ ?_; clear hK K
            refine awp_reg_seq fun K hK => ?_
            simp [go_sem, c0, d0, hi, wrap_pred (i := i) (by omega), c1, d1, c2, d2, c3, d3, hq, c4, d4]
            repeat refine ⟨by omega, ?_⟩
            refine CSm.mk (ref31_meet_cs _ (g q).In (g i).In) ?_
            simp [go_sem, c0, d0, hi, wrap_pred (i := i) (by omega), c1, d1, c2, d2, c3, d3, hq, c4, d4]
            repeat refine ⟨by omega, ?_⟩
            refine hK _ ?_; clear hK K
            refine awp_forget [0, 4, 10, 11, 12, 35, 36, 37, 52] (by simp only [restr, List.contains_cons, List.contains_nil, Nat.reduceBEq, Bool.or_false, Bool.or_true, Bool.true_or, Bool.false_or, if_true, if_false, Bool.false_eq_true]; rfl) ?_
            refine awp_cond rfl (fun c5 => ?_) (fun c5 => ?_)
            · have d5 := c5; try simp at d5
              have hany : (lst i g).any (clash (g i)) = true := by rw [hy]; simp only [clash, Bool.and_assoc]; rw [show ((g q).Class == (g i).Class && (decide ((g q).In.From < (g i).In.Until) && decide ((g i).In.From < (g q).In.Until))) = true from c5]; rfl
              refine awp_reg_seq fun K hK => ?_
              simp [go_sem, c0, d0, hi, wrap_pred (i := i) (by omega), c1, d1, c2, d2, c3, d3, hq, c4, d4, c5, d5, hany]
              repeat refine ⟨by omega, ?_⟩
              refine hK _ ?_; clear hK K
              refine awp_ret ?_
              simp [go_sem, Try.results17, check, hx, c0, d0, hi, wrap_pred (i := i) (by omega), c1, d1, c2, d2, c3, d3, hq, c4, d4, c5, d5, hany] <;> omega
            · have d5 := c5; try simp at d5
              refine awp_skip ?_
              refine awp_reg_end fun K hK => ?_
              simp [go_sem, c0, d0, hi, wrap_pred (i := i) (by omega), c1, d1, c2, d2, c3, d3, hq, c4, d4, c5, d5]
              try simp (disch := omega) only [wrapI]
              repeat refine ⟨by omega, ?_⟩
              refine hK _ ?_; clear hK K
              refine ⟨q + 1, back_of' (by simp) (.refl _) (by (simp [go_sem, wrap_succ (i := q) (by omega), c0, d0, hi, wrap_pred (i := i) (by omega), c1, d1, c2, d2, c3, d3, hq, c4, d4, c5, d5] <;> omega)), ⟨by omega, by rw [hy, show clash (g i) (g q) = false by unfold clash; rw [Bool.and_assoc]; exact c5]; rfl⟩, by omega⟩
          · have d4 := c4; try simp at d4
            have hany : (lst i g).any (clash (g i)) = false := by rw [hy, drop_all (by omega)]; rfl
            refine awp_exit ?_
            refine awp_reg_end fun K hK => ?_
            simp [go_sem, c0, d0, hi, wrap_pred (i := i) (by omega), c1, d1, c2, d2, c3, d3, hq, c4, d4]
            try simp (disch := omega) only [wrapI]
            repeat refine ⟨by omega, ?_⟩
            refine hK _ ?_; clear hK K
            refine ⟨i + 1, back_of' (by simp) (.refl _) (by (simp [go_sem, wrap_succ (i := i) (by omega), c0, d0, hi, wrap_pred (i := i) (by omega), c1, d1, c2, d2, c3, d3, hq, c4, d4] <;> omega)), ⟨by omega, by rw [hx, hk']; simp [d2, c3, hany]⟩, by omega⟩
    · have d1 := c1; try simp at d1
      obtain rfl : i = n := by omega
      rw [Nat.sub_self, chkF] at hx
      refine awp_exit ?_
      refine awp_reg_seq fun K hK => ?_
      simp [go_sem, c0, d0, hi, wrap_pred (i := i) (by omega), c1, d1]
      repeat refine ⟨by omega, ?_⟩
      refine hK _ ?_; clear hK K
      refine awp_ret ?_
      simp [go_sem, Try.results17, check, hx, c0, d0, hi, wrap_pred (i := i) (by omega), c1, d1] <;> omega

theorem ref31_InForce_cs (σ : List Blk) (c : Option Nat) (n : Nat) (g : Nat → Rule) (k d : Int) (hn : n < 1000000000) : CSF Try.prog 15 [.d (SL c 6 Rule.enc n g), .d (I k), .d (I d)] σ (.tup [.agg ((inForceR n g k d).1.enc.map .d), .d (B (inForceR n g k d).2)]) := by
  refine CSF.of_body T.en15 Try.func15 rfl (by simp [Try.ntmps15]) (by simp [go_sem]) fun hwf => ?_
  refine awp_reg_seq fun K hK => ?_
  simp [go_sem, Try.ntmps15]
  repeat refine ⟨by omega, ?_⟩
  refine hK _ ?_; clear hK K
  refine awp_seq ?_
  refine awp_reg_seq fun K hK => ?_
  simp [go_sem]
  repeat refine ⟨by omega, ?_⟩
  refine CSk.mk (ref31_Check_cs _ c n g hn) ?_
  simp [go_sem]
  repeat refine ⟨by omega, ?_⟩
  refine hK _ ?_; clear hK K
  refine awp_forget [0, 1, 2, 6, 12] (by simp only [restr, List.contains_cons, List.contains_nil, Nat.reduceBEq, Bool.or_false, Bool.or_true, Bool.true_or, Bool.false_or, if_true, if_false, Bool.false_eq_true]; rfl) ?_
  refine awp_cond rfl (fun c0 => ?_) (fun c0 => ?_)
  · have d0 := c0; try simp at d0
    have hz : inForceR n g k d = (Rule.zero, false) := by unfold inForceR; rw [if_pos (.inr d0)]
    refine awp_reg_seq fun K hK => ?_
    simp [go_sem, c0, d0]
    repeat refine ⟨by omega, ?_⟩
    refine hK _ ?_; clear hK K
    refine awp_ret ?_
    rw [hz]; simp [go_sem, Try.results15, Rule.zero]
  · have d0 := c0; try simp at d0
    refine awp_skip ?_
    refine awp_seq ?_
    refine awp_reg_seq fun K hK => ?_
    simp [go_sem, c0, d0]
    repeat refine ⟨by omega, ?_⟩
    refine hK _ ?_; clear hK K
    refine awp_block ?_
    refine awp_forget [1, 2, 6, 14, 15, 16] (by simp [go_sem, restr]; rfl) ?_
    refine awp_loopU (α := Nat) (fun i => [(16, .d (I i))]) (fun i => _) (fun i => i ≤ n ∧ inForceI n g k d = idxFrom (inB k d) ((lst n g).drop i) i) (fun i => n - i) 0 (by simp [go_sem]) rfl (⟨by omega, rfl⟩) ?_
    rintro i ⟨hi, hx⟩
    refine awp_reg_seq fun K hK => ?_
    simp [go_sem, c0, d0]
    repeat refine ⟨by omega, ?_⟩
    refine hK _ ?_; clear hK K
    refine awp_seq ?_
    refine awp_forget [1, 2, 6, 14, 15, 16, 17] (by simp only [restr, List.contains_cons, List.contains_nil, Nat.reduceBEq, Bool.or_false, Bool.or_true, Bool.true_or, Bool.false_or, if_true, if_false, Bool.false_eq_true]; rfl) ?_
    refine awp_cond rfl (fun c1 => ?_) (fun c1 => ?_)
    · have d1 := c1; try simp at d1
      rw [drop_lst d1, idxFrom] at hx
      refine awp_skip ?_
      refine awp_seq ?_
      refine awp_block ?_
      refine awp_reg_seq fun K hK => ?_
      simp [go_sem, c0, d0, c1, d1]
      repeat refine ⟨by omega, ?_⟩
      refine hK _ ?_; clear hK K
      refine awp_reg_seq fun K hK => ?_
      simp [go_sem, c0, d0, c1, d1]
      repeat refine ⟨by omega, ?_⟩
      refine hK _ ?_; clear hK K
      refine awp_forget [1, 2, 6, 9, 14, 15, 16, 37] (by simp only [restr, List.contains_cons, List.contains_nil, Nat.reduceBEq, Bool.or_false, Bool.or_true, Bool.true_or, Bool.false_or, if_true, if_false, Bool.false_eq_true]; rfl) ?_
      refine awp_cond rfl (fun c2 => ?_) (fun c2 => ?_)
      · have d2 := c2; try simp at d2
        rw [if_pos (show inB k d (g i) = true from c2)] at hx
        have hz : inForceR n g k d = (g i, true) := by unfold inForceR; rw [if_neg (by omega), hx]; rfl
        refine awp_reg_seq fun K hK => ?_
        simp [go_sem, c0, d0, c1, d1, c2, d2]
        repeat refine ⟨by omega, ?_⟩
        refine hK _ ?_; clear hK K
        refine awp_ret ?_
        rw [hz]; simp [go_sem, Try.results15, d2]
      · have d2 := c2; try simp at d2
        refine awp_skip ?_
        refine awp_reg_end fun K hK => ?_
        simp [go_sem, c0, d0, c1, d1, c2, d2]
        try simp (disch := omega) only [wrapI]
        repeat refine ⟨by omega, ?_⟩
        refine hK _ ?_; clear hK K
        refine ⟨i + 1, back_of' (by simp) (.refl _) (by (simp [go_sem, wrap_succ (i := i) (by omega), c0, d0, c1, d1, c2, d2] <;> omega)), ⟨by omega, by rw [hx, if_neg (by rw [show inB k d (g i) = false from c2]; simp)]⟩, by omega⟩
    · have d1 := c1; try simp at d1
      rw [drop_all d1, idxFrom] at hx
      have hz : inForceR n g k d = (Rule.zero, false) := by unfold inForceR; rw [if_pos (by omega)]
      refine awp_exit ?_
      refine awp_reg_seq fun K hK => ?_
      simp [go_sem, c0, d0, c1, d1]
      repeat refine ⟨by omega, ?_⟩
      refine hK _ ?_; clear hK K
      refine awp_ret ?_
      rw [hz]; simp [go_sem, Try.results15, Rule.zero]

theorem ref31_Until_cs (σ : List Blk) (r : Rule) (m : Dating) : CSF Try.prog 19 [.agg (r.enc.map .d), .agg (m.enc.map .d)] σ (.tup [.d (I (untilR r m).1), .d (I (untilR r m).2)]) := by
  refine CSF.of_body T.en19 Try.func19 rfl (by simp [Try.ntmps19]) (by simp [go_sem]) fun hwf => ?_
  refine awp_reg_seq fun K hK => ?_
  simp [go_sem, Try.ntmps19]
  repeat refine ⟨by omega, ?_⟩
  refine hK _ ?_; clear hK K
  refine awp_seq ?_
  refine awp_reg_seq fun K hK => ?_
  simp [go_sem]
  repeat refine ⟨by omega, ?_⟩
  refine CSk.mk (ref31_Form_cs _ r) ?_
  simp [go_sem]
  repeat refine ⟨by omega, ?_⟩
  refine hK _ ?_; clear hK K
  refine awp_forget [2, 3, 10] (by simp only [restr, List.contains_cons, List.contains_nil, Nat.reduceBEq, Bool.or_false, Bool.or_true, Bool.true_or, Bool.false_or, if_true, if_false, Bool.false_eq_true]; rfl) ?_
  refine awp_cond rfl (fun c0 => ?_) (fun c0 => ?_)
  · have d0 := c0; try simp at d0
    have hz : untilR r m = (0, 2) := by unfold untilR; rw [if_pos d0]
    refine awp_reg_seq fun K hK => ?_
    simp [go_sem, c0, d0]
    repeat refine ⟨by omega, ?_⟩
    refine hK _ ?_; clear hK K
    refine awp_ret ?_
    rw [hz]; simp [go_sem, Try.results19]
  · have d0 := c0; try simp at d0
    refine awp_skip ?_
    refine awp_seq ?_
    refine awp_reg_seq fun K hK => ?_
    simp [go_sem, c0, d0]
    repeat refine ⟨by omega, ?_⟩
    refine CSk.mk (ref03_Check_cs _ m) ?_
    simp [go_sem, c0, d0]
    repeat refine ⟨by omega, ?_⟩
    refine hK _ ?_; clear hK K
    refine awp_forget [2, 3, 13] (by simp only [restr, List.contains_cons, List.contains_nil, Nat.reduceBEq, Bool.or_false, Bool.or_true, Bool.true_or, Bool.false_or, if_true, if_false, Bool.false_eq_true]; rfl) ?_
    refine awp_cond rfl (fun c1 => ?_) (fun c1 => ?_)
    · have d1 := c1; try simp at d1
      have hz : untilR r m = (0, 1) := by unfold untilR; rw [if_neg (by simp [d0]), if_pos d1]
      refine awp_reg_seq fun K hK => ?_
      simp [go_sem, c0, d0, c1, d1]
      repeat refine ⟨by omega, ?_⟩
      refine hK _ ?_; clear hK K
      refine awp_ret ?_
      rw [hz]; simp [go_sem, Try.results19]
    · have d1 := c1; try simp at d1
      have hz : untilR r m = (lastF r m + 1, 0) := by unfold untilR; rw [if_neg (by simp [d0]), if_neg (by simp [d1])]
      refine awp_skip ?_
      refine awp_reg_seq fun K hK => ?_
      simp [go_sem, c0, d0, c1, d1]
      repeat refine ⟨by omega, ?_⟩
      refine CSk.mk (ref02_Years_cs _ m.Last r.Years) ?_
      simp [go_sem, c0, d0, c1, d1]
      repeat refine ⟨by omega, ?_⟩
      refine hK _ ?_; clear hK K
      refine awp_seq ?_
      refine awp_reg_seq fun K hK => ?_
      simp [go_sem, c0, d0, c1, d1]
      repeat refine ⟨by omega, ?_⟩
      refine hK _ ?_; clear hK K
      refine awp_forget [6, 23] (by simp only [restr, List.contains_cons, List.contains_nil, Nat.reduceBEq, Bool.or_false, Bool.or_true, Bool.true_or, Bool.false_or, if_true, if_false, Bool.false_eq_true]; rfl) ?_
      refine awp_cond rfl (fun c2 => ?_) (fun c2 => ?_)
      · have d2 := c2; try simp at d2
        have hl : lastF r m = (yearEndR (yearsR m.Last r.Years).1).1 := by unfold lastF; rw [if_pos c2]
        have hb := lastF_bd r m
        rw [hl] at hb hz
        unfold isDay at hb
        refine awp_reg_end fun K hK => ?_
        simp [go_sem, c0, d0, c1, d1, c2, d2]
        repeat refine ⟨by omega, ?_⟩
        refine CSk.mk (ref02_YearEnd_cs _ (yearsR m.Last r.Years).1) ?_
        simp [go_sem, c0, d0, c1, d1, c2, d2]
        repeat refine ⟨by omega, ?_⟩
        refine hK _ ?_; clear hK K
        refine awp_reg_seq fun K hK => ?_
        simp [go_sem, c0, d0, c1, d1, c2, d2]
        try simp (disch := omega) only [wrapI]
        repeat refine ⟨by omega, ?_⟩
        refine hK _ ?_; clear hK K
        refine awp_ret ?_
        rw [hz]; simp [go_sem, Try.results19]
      · have d2 := c2; try simp at d2
        have hl : lastF r m = (yearsR m.Last r.Years).1 := by unfold lastF; rw [if_neg (by simp [c2])]
        have hb := lastF_bd r m
        rw [hl] at hb hz
        unfold isDay at hb
        refine awp_skip ?_
        refine awp_reg_seq fun K hK => ?_
        simp [go_sem, c0, d0, c1, d1, c2, d2]
        try simp (disch := omega) only [wrapI]
        repeat refine ⟨by omega, ?_⟩
        refine hK _ ?_; clear hK K
        refine awp_ret ?_
        rw [hz]; simp [go_sem, Try.results19]

theorem ref31_Closed_cs (σ : List Blk) (c : Option Nat) (n : Nat) (g : Nat → Rule) (k : Int) (m : Dating) (d : Int) (hn : n < 1000000000) : CSF Try.prog 21 [.d (SL c 6 Rule.enc n g), .d (I k), .agg (m.enc.map .d), .d (I d)] σ (.tup [.agg ((closedR n g k m d).1.enc.map .d), .d (B (closedR n g k m d).2)]) := by
  refine CSF.of_body T.en21 Try.func21 rfl (by simp [Try.ntmps21]) (by simp [go_sem]) fun hwf => ?_
  refine awp_reg_seq fun K hK => ?_
  simp [go_sem, Try.ntmps21]
  repeat refine ⟨by omega, ?_⟩
  refine hK _ ?_; clear hK K
  refine awp_reg_seq fun K hK => ?_
  simp [go_sem]
  repeat refine ⟨by omega, ?_⟩
  refine CSk.mk (ref31_InForce_cs _ c n g k d hn) ?_
  simp [go_sem]
  repeat refine ⟨by omega, ?_⟩
  refine hK _ ?_; clear hK K
  refine awp_seq ?_
  refine awp_reg_seq fun K hK => ?_
  simp [go_sem]
  repeat refine ⟨by omega, ?_⟩
  refine hK _ ?_; clear hK K
  refine awp_forget [3, 6, 8, 10, 22] (by simp only [restr, List.contains_cons, List.contains_nil, Nat.reduceBEq, Bool.or_false, Bool.or_true, Bool.true_or, Bool.false_or, if_true, if_false, Bool.false_eq_true]; rfl) ?_
  refine awp_cond rfl (fun c0 => ?_) (fun c0 => ?_)
  · have d0 := c0; try simp at d0
    have hz : closedR n g k m d = (Ground.zero, false) := by unfold closedR; rw [if_pos (.inl d0)]
    refine awp_reg_seq fun K hK => ?_
    simp [go_sem, c0, d0]
    repeat refine ⟨by omega, ?_⟩
    refine hK _ ?_; clear hK K
    refine awp_ret ?_
    rw [hz]; simp [go_sem, Try.results21, Ground.zero]
  · have d0 := c0; try simp at d0
    have hf := inForce_formed d0
    have hu : untilR (inForceR n g k d).1 m = if datChk m ≠ 0 then (0, 1) else (lastF (inForceR n g k d).1 m + 1, 0) := by unfold untilR; rw [if_neg (by simp [hf])]
    refine awp_skip ?_
    refine awp_reg_seq fun K hK => ?_
    simp [go_sem, c0, d0]
    repeat refine ⟨by omega, ?_⟩
    refine CSk.mk (ref31_Until_cs _ (inForceR n g k d).1 m) ?_
    simp [go_sem, c0, d0]
    repeat refine ⟨by omega, ?_⟩
    refine hK _ ?_; clear hK K
    refine awp_seq ?_
    refine awp_reg_seq fun K hK => ?_
    simp [go_sem, c0, d0]
    repeat refine ⟨by omega, ?_⟩
    refine hK _ ?_; clear hK K
    refine awp_forget [8, 10, 12, 36] (by simp only [restr, List.contains_cons, List.contains_nil, Nat.reduceBEq, Bool.or_false, Bool.or_true, Bool.true_or, Bool.false_or, if_true, if_false, Bool.false_eq_true]; rfl) ?_
    refine awp_cond rfl (fun c1 => ?_) (fun c1 => ?_)
    · have d1 := c1; try simp at d1
      have hz : closedR n g k m d = (Ground.zero, false) := by
        unfold closedR
        by_cases h : datChk m ≠ 0
        · rw [if_pos (.inr (.inl h))]
        · rw [hu, if_neg h] at d1
          rw [if_pos (.inr (.inr (by simpa using d1)))]
      refine awp_reg_seq fun K hK => ?_
      simp [go_sem, c0, d0, c1, d1]
      repeat refine ⟨by omega, ?_⟩
      refine hK _ ?_; clear hK K
      refine awp_ret ?_
      rw [hz]; simp [go_sem, Try.results21, Ground.zero]
    · have d1 := c1; try simp at d1
      have h0 : datChk m = 0 := by
        apply Classical.byContradiction
        intro h
        rw [hu, if_pos h] at d1; simp at d1
      rw [if_neg (by simp [h0])] at hu
      have hz : closedR n g k m d = (⟨1, (inForceR n g k d).1.ID, 0, lastF (inForceR n g k d).1 m + 1⟩, true) := by
        rw [hu] at d1
        unfold closedR; rw [if_neg (by simp [d0, h0]; simpa using d1)]
      refine awp_skip ?_
      refine awp_reg_seq fun K hK => ?_
      simp [go_sem, c0, d0, c1, d1]
      repeat refine ⟨by omega, ?_⟩
      refine hK _ ?_; clear hK K
      refine awp_ret ?_
      rw [hz]; simp [go_sem, Try.results21, hu]

theorem ref31_End_cs (σ : List Blk) (c : Option Nat) (n : Nat) (g : Nat → Rule) (id d : Int) (hn : n < 1000000000) : CSF Try.prog 23 [.d (SL c 6 Rule.enc n g), .d (I id), .d (I d)] σ (.tup [.d (SL none 6 Rule.enc (endR n g id d).1.1 (endR n g id d).1.2), .d (I (endR n g id d).2)]) := by
  refine CSF.of_body T.en23 Try.func23 rfl (by simp [Try.ntmps23]) (by simp [go_sem]) fun hwf => ?_
  refine awp_reg_seq fun K hK => ?_
  simp [go_sem, Try.ntmps23]
  repeat refine ⟨by omega, ?_⟩
  refine hK _ ?_; clear hK K
  refine awp_seq ?_
  refine awp_reg_seq fun K hK => ?_
  simp [go_sem]
  repeat refine ⟨by omega, ?_⟩
  refine CSk.mk (ref31_Check_cs _ c n g hn) ?_
  simp [go_sem]
  repeat refine ⟨by omega, ?_⟩
  refine hK _ ?_; clear hK K
  refine awp_forget [0, 1, 2, 13] (by simp only [restr, List.contains_cons, List.contains_nil, Nat.reduceBEq, Bool.or_false, Bool.or_true, Bool.true_or, Bool.false_or, if_true, if_false, Bool.false_eq_true]; rfl) ?_
  refine awp_cond rfl (fun c0 => ?_) (fun c0 => ?_)
  · have d0 := c0; try simp at d0
    have hz : endR n g id d = ((0, g), 1) := by unfold endR; rw [if_pos d0]
    refine awp_reg_seq fun K hK => ?_
    simp [go_sem, c0, d0]
    repeat refine ⟨by omega, ?_⟩
    refine hK _ ?_; clear hK K
    refine awp_ret ?_
    rw [hz]; simp [go_sem, Try.results23]
  · have d0 := c0; try simp at d0
    refine awp_skip ?_
    refine awp_reg_seq fun K hK => ?_
    simp [go_sem, c0, d0]
    repeat refine ⟨by omega, ?_⟩
    refine hK _ ?_; clear hK K
    refine awp_seq ?_
    refine awp_reg_seq fun K hK => ?_
    simp [go_sem, c0, d0]
    repeat refine ⟨by omega, ?_⟩
    refine hK _ ?_; clear hK K
    refine awp_block ?_
    refine awp_forget [1, 2, 8, 17, 18, 19] (by simp [go_sem, restr]; rfl) ?_
    refine awp_loopU (α := Nat) (fun i => [(19, .d (I i))]) (fun i => _) (fun i => i ≤ n ∧ idxFrom (fun r => r.ID == id) (lst n g) 0 = idxFrom (fun r => r.ID == id) ((lst n g).drop i) i) (fun i => n - i) 0 (by simp [go_sem]) rfl (⟨by omega, rfl⟩) ?_
    rintro i ⟨hi, hx⟩
    refine awp_reg_seq fun K hK => ?_
    simp [go_sem, c0, d0]
    repeat refine ⟨by omega, ?_⟩
    refine hK _ ?_; clear hK K
    refine awp_seq ?_
    refine awp_forget [1, 2, 8, 17, 18, 19, 20] (by simp only [restr, List.contains_cons, List.contains_nil, Nat.reduceBEq, Bool.or_false, Bool.or_true, Bool.true_or, Bool.false_or, if_true, if_false, Bool.false_eq_true]; rfl) ?_
    refine awp_cond rfl (fun c1 => ?_) (fun c1 => ?_)
    · have d1 := c1; try simp at d1
      rw [drop_lst d1, idxFrom] at hx
      refine awp_skip ?_
      refine awp_seq ?_
      refine awp_block ?_
      refine awp_reg_seq fun K hK => ?_
      simp [go_sem, c0, d0, c1, d1]
      repeat refine ⟨by omega, ?_⟩
      refine hK _ ?_; clear hK K
      refine awp_seq ?_
      refine awp_reg_seq fun K hK => ?_
      simp [go_sem, c0, d0, c1, d1]
      repeat refine ⟨by omega, ?_⟩
      refine hK _ ?_; clear hK K
      refine awp_forget [1, 2, 8, 9, 10, 17, 18, 19, 27] (by simp only [restr, List.contains_cons, List.contains_nil, Nat.reduceBEq, Bool.or_false, Bool.or_true, Bool.true_or, Bool.false_or, if_true, if_false, Bool.false_eq_true]; rfl) ?_
      refine awp_cond rfl (fun c2 => ?_) (fun c2 => ?_)
      · have d2 := c2; try simp at d2
        refine awp_exit ?_
        refine awp_reg_end fun K hK => ?_
        simp [go_sem, c0, d0, c1, d1, c2, d2]
        try simp (disch := omega) only [wrapI]
        repeat refine ⟨by omega, ?_⟩
        refine hK _ ?_; clear hK K
        refine ⟨i + 1, back_of' (by simp) (.refl _) (by (simp [go_sem, wrap_succ (i := i) (by omega), c0, d0, c1, d1, c2, d2] <;> omega)), ⟨by omega, by rw [hx, if_neg (by simpa using d2)]⟩, by omega⟩
      · have d2 := c2; try simp at d2
        rw [if_pos (by simpa using d2)] at hx
        refine awp_skip ?_
        refine awp_seq ?_
        refine awp_reg_seq fun K hK => ?_
        simp [go_sem, c0, d0, c1, d1, c2, d2]
        repeat refine ⟨by omega, ?_⟩
        refine hK _ ?_; clear hK K
        refine awp_forget [2, 8, 9, 39] (by simp only [restr, List.contains_cons, List.contains_nil, Nat.reduceBEq, Bool.or_false, Bool.or_true, Bool.true_or, Bool.false_or, if_true, if_false, Bool.false_eq_true]; rfl) ?_
        refine awp_cond rfl (fun c3 => ?_) (fun c3 => ?_)
        · have d3 := c3; try simp at d3
          have hz : endR n g id d = ((0, g), 2) := by unfold endR; rw [if_neg (by simp [d0]), hx, if_neg (by omega), if_pos (by simpa using d3)]
          refine awp_reg_seq fun K hK => ?_
          simp [go_sem, c0, d0, c1, d1, c2, d2, c3, d3]
          repeat refine ⟨by omega, ?_⟩
          refine hK _ ?_; clear hK K
          refine awp_ret ?_
          rw [hz]; simp [go_sem, Try.results23]
        · have d3 := c3; try simp at d3
          have hz : endR n g id d = ((n, fun q => if q = i then { g q with In := ⟨(g q).In.From, d⟩ } else g q), 0) := by unfold endR; rw [if_neg (by simp [d0]), hx, if_neg (by omega), if_neg (by simp; omega)]; simp
          refine awp_skip ?_
          refine awp_reg_seq fun K hK => ?_
          simp [go_sem, c0, d0, c1, d1, c2, d2, c3, d3]
          repeat refine ⟨by omega, ?_⟩
          refine hK _ ?_; clear hK K
          refine awp_reg_seq fun K hK => ?_
          simp [go_sem, c0, d0, c1, d1, c2, d2, c3, d3]
          repeat refine ⟨by omega, ?_⟩
          refine hK _ ?_; clear hK K
          refine awp_freeze (σ.length) (by simp [go_sem]; exact ⟨rfl, rfl, rfl⟩) (by simp [go_sem]; rfl) (by simp [go_sem, hwf.frz, hwf.frz0]; rfl) ?_
          refine awp_ret ?_
          rw [hz]; simp [go_sem, Try.results23]
          intro i hi; split <;> simp_all
    · have d1 := c1; try simp at d1
      rw [drop_all d1, idxFrom] at hx
      have hz : endR n g id d = ((0, g), 7) := by unfold endR; rw [if_neg (by simp [d0]), hx, if_pos (by omega)]
      refine awp_exit ?_
      refine awp_reg_seq fun K hK => ?_
      simp [go_sem, c0, d0, c1, d1]
      repeat refine ⟨by omega, ?_⟩
      refine hK _ ?_; clear hK K
      refine awp_ret ?_
      rw [hz]; simp [go_sem, Try.results23]

theorem Rule.ext_iff' {a b : Rule} : a = b ↔ (((((a.ID = b.ID ∧ a.Class = b.Class) ∧ a.Years = b.Years) ∧ a.YearEnd = b.YearEnd) ∧ a.In.From = b.In.From) ∧ a.In.Until = b.In.Until) := by
  obtain ⟨a1, a2, a3, a4, ⟨a5, a6⟩⟩ := a
  obtain ⟨b1, b2, b3, b4, ⟨b5, b6⟩⟩ := b
  simp [and_assoc]
theorem Span.ext_iff' {a b : Span} : a = b ↔ a.From = b.From ∧ a.Until = b.Until := by
  obtain ⟨a5, a6⟩ := a
  obtain ⟨b5, b6⟩ := b
  simp
theorem lst_ext {α : Type} {n : Nat} {f g : Nat → α} : lst n f = lst n g ↔ ∀ i, i < n → f i = g i := by
  constructor
  · intro h i hi
    have := congrArg (fun l => l[i]?) h
    simpa [lst_get hi] using this
  · intro h; unfold lst; exact List.map_congr_left fun i hi => h i (by simpa using hi)
theorem ref31_Same_cs (σ : List Blk) (c : Option Nat) (n : Nat) (g : Nat → Rule) (c' : Option Nat) (n' : Nat) (g' : Nat → Rule) (dd : Decidable (lst n g = lst n' g')) (hn : n < 1000000000) : CSF Try.prog 24 [.d (SL c 6 Rule.enc n g), .d (SL c' 6 Rule.enc n' g')] σ (.d (B (decide (lst n g = lst n' g')))) := by
  refine CSF.of_body T.en24 Try.func24 rfl (by simp [Try.ntmps24]) (by simp [go_sem]) fun hwf => ?_
  refine awp_reg_seq fun K hK => ?_
  simp [go_sem, Try.ntmps24]
  repeat refine ⟨by omega, ?_⟩
  refine hK _ ?_; clear hK K
  refine awp_seq ?_
  refine awp_reg_seq fun K hK => ?_
  simp [go_sem]
  repeat refine ⟨by omega, ?_⟩
  refine hK _ ?_; clear hK K
  refine awp_forget [0, 1, 10] (by simp only [restr, List.contains_cons, List.contains_nil, Nat.reduceBEq, Bool.or_false, Bool.or_true, Bool.true_or, Bool.false_or, if_true, if_false, Bool.false_eq_true]; rfl) ?_
  refine awp_cond rfl (fun c0 => ?_) (fun c0 => ?_)
  · have d0 := c0; try simp at d0
    have hz : ¬ lst n g = lst n' g' := fun h => d0 (by have := congrArg List.length h; simp only [lst_length] at this; omega)
    refine awp_reg_seq fun K hK => ?_
    simp [go_sem, c0, d0]
    repeat refine ⟨by omega, ?_⟩
    refine hK _ ?_; clear hK K
    refine awp_ret ?_
    simp [go_sem, Try.results24, hz]
  · have d0 := c0; try simp at d0
    obtain rfl : n = n' := by omega
    refine awp_skip ?_
    refine awp_seq ?_
    refine awp_reg_seq fun K hK => ?_
    simp [go_sem, c0, d0]
    repeat refine ⟨by omega, ?_⟩
    refine hK _ ?_; clear hK K
    refine awp_block ?_
    refine awp_forget [0, 1, 12, 13] (by simp [go_sem, restr]; rfl) ?_
    refine awp_loopU (α := Nat) (fun i => [(13, .d (I i))]) (fun i => _) (fun i => i ≤ n ∧ ∀ q, q < i → g q = g' q) (fun i => n - i) 0 (by simp [go_sem]) rfl (by simp) ?_
    rintro i ⟨hi, hx⟩
    refine awp_reg_seq fun K hK => ?_
    simp [go_sem, c0, d0]
    repeat refine ⟨by omega, ?_⟩
    refine hK _ ?_; clear hK K
    refine awp_seq ?_
    refine awp_forget [0, 1, 12, 13, 14] (by simp only [restr, List.contains_cons, List.contains_nil, Nat.reduceBEq, Bool.or_false, Bool.or_true, Bool.true_or, Bool.false_or, if_true, if_false, Bool.false_eq_true]; rfl) ?_
    refine awp_cond rfl (fun c1 => ?_) (fun c1 => ?_)
    · have d1 := c1; try simp at d1
      refine awp_skip ?_
      refine awp_seq ?_
      refine awp_block ?_
      refine awp_reg_seq fun K hK => ?_
      simp [go_sem, c0, d0, c1, d1]
      repeat refine ⟨by omega, ?_⟩
      refine hK _ ?_; clear hK K
      refine awp_draw_seq 9 T.mixed (by kernel_rfl) fun K hK => ?_
      simp [go_sem, c0, d0, c1, d1]
      repeat refine ⟨by omega, ?_⟩
      refine hK _ ?_; clear hK K
      refine awp_forget [0, 1, 12, 13, 24] (by simp only [restr, List.contains_cons, List.contains_nil, Nat.reduceBEq, Bool.or_false, Bool.or_true, Bool.true_or, Bool.false_or, if_true, if_false, Bool.false_eq_true]; rfl) ?_
      refine awp_cond rfl (fun c2 => ?_) (fun c2 => ?_)
      · have d2 := c2; try simp at d2
        have hne : g i ≠ g' i := by intro h; rw [h] at c2; simp at c2
        have hz : ¬ lst n g = lst n g' := fun h => hne (lst_ext.1 h i d1)
        refine awp_reg_seq fun K hK => ?_
        simp [go_sem, c0, d0, c1, d1, c2, d2]
        repeat refine ⟨by omega, ?_⟩
        refine hK _ ?_; clear hK K
        refine awp_ret ?_
        simp [go_sem, Try.results24, hz]
      · have d2 := c2; try simp at d2
        have he : g i = g' i := by rw [Rule.ext_iff']; simpa [and_assoc] using d2
        refine awp_skip ?_
        refine awp_reg_end fun K hK => ?_
        simp [go_sem, c0, d0, c1, d1, c2, d2]
        try simp (disch := omega) only [wrapI]
        repeat refine ⟨by omega, ?_⟩
        refine hK _ ?_; clear hK K
        refine ⟨i + 1, back_of' (by simp) (.refl _) (by (simp [go_sem, wrap_succ (i := i) (by omega), c0, d0, c1, d1, c2, d2] <;> omega)), ⟨by omega, fun q hq => by by_cases e : q = i; (rw [e]; exact he); exact hx q (by omega)⟩, by omega⟩
    · have d1 := c1; try simp at d1
      have hz : lst n g = lst n g' := lst_ext.2 fun q hq => hx q (by omega)
      refine awp_exit ?_
      refine awp_reg_seq fun K hK => ?_
      simp [go_sem, c0, d0, c1, d1]
      repeat refine ⟨by omega, ?_⟩
      refine hK _ ?_; clear hK K
      refine awp_ret ?_
      simp [go_sem, Try.results24, hz]

theorem ref31_SameSpans_cs (σ : List Blk) (c : Option Nat) (n : Nat) (g : Nat → Span) (c' : Option Nat) (n' : Nat) (g' : Nat → Span) (dd : Decidable (lst n g = lst n' g')) (hn : n < 1000000000) : CSF Try.prog 29 [.d (SL c 2 Span.enc n g), .d (SL c' 2 Span.enc n' g')] σ (.d (B (decide (lst n g = lst n' g')))) := by
  refine CSF.of_body T.en29 Try.func29 rfl (by simp [Try.ntmps29]) (by simp [go_sem]) fun hwf => ?_
  refine awp_reg_seq fun K hK => ?_
  simp [go_sem, Try.ntmps29]
  repeat refine ⟨by omega, ?_⟩
  refine hK _ ?_; clear hK K
  refine awp_seq ?_
  refine awp_reg_seq fun K hK => ?_
  simp [go_sem]
  repeat refine ⟨by omega, ?_⟩
  refine hK _ ?_; clear hK K
  refine awp_forget [0, 1, 10] (by simp only [restr, List.contains_cons, List.contains_nil, Nat.reduceBEq, Bool.or_false, Bool.or_true, Bool.true_or, Bool.false_or, if_true, if_false, Bool.false_eq_true]; rfl) ?_
  refine awp_cond rfl (fun c0 => ?_) (fun c0 => ?_)
  · have d0 := c0; try simp at d0
    have hz : ¬ lst n g = lst n' g' := fun h => d0 (by have := congrArg List.length h; simp only [lst_length] at this; omega)
    refine awp_reg_seq fun K hK => ?_
    simp [go_sem, c0, d0]
    repeat refine ⟨by omega, ?_⟩
    refine hK _ ?_; clear hK K
    refine awp_ret ?_
    simp [go_sem, Try.results29, hz]
  · have d0 := c0; try simp at d0
    obtain rfl : n = n' := by omega
    refine awp_skip ?_
    refine awp_seq ?_
    refine awp_reg_seq fun K hK => ?_
    simp [go_sem, c0, d0]
    repeat refine ⟨by omega, ?_⟩
    refine hK _ ?_; clear hK K
    refine awp_block ?_
    refine awp_forget [0, 1, 12, 13] (by simp [go_sem, restr]; rfl) ?_
    refine awp_loopU (α := Nat) (fun i => [(13, .d (I i))]) (fun i => _) (fun i => i ≤ n ∧ ∀ q, q < i → g q = g' q) (fun i => n - i) 0 (by simp [go_sem]) rfl (by simp) ?_
    rintro i ⟨hi, hx⟩
    refine awp_reg_seq fun K hK => ?_
    simp [go_sem, c0, d0]
    repeat refine ⟨by omega, ?_⟩
    refine hK _ ?_; clear hK K
    refine awp_seq ?_
    refine awp_forget [0, 1, 12, 13, 14] (by simp only [restr, List.contains_cons, List.contains_nil, Nat.reduceBEq, Bool.or_false, Bool.or_true, Bool.true_or, Bool.false_or, if_true, if_false, Bool.false_eq_true]; rfl) ?_
    refine awp_cond rfl (fun c1 => ?_) (fun c1 => ?_)
    · have d1 := c1; try simp at d1
      refine awp_skip ?_
      refine awp_seq ?_
      refine awp_block ?_
      refine awp_reg_seq fun K hK => ?_
      simp [go_sem, c0, d0, c1, d1]
      repeat refine ⟨by omega, ?_⟩
      refine hK _ ?_; clear hK K
      refine awp_draw_seq 9 T.mixed (by kernel_rfl) fun K hK => ?_
      simp [go_sem, c0, d0, c1, d1]
      repeat refine ⟨by omega, ?_⟩
      refine hK _ ?_; clear hK K
      refine awp_forget [0, 1, 12, 13, 24] (by simp only [restr, List.contains_cons, List.contains_nil, Nat.reduceBEq, Bool.or_false, Bool.or_true, Bool.true_or, Bool.false_or, if_true, if_false, Bool.false_eq_true]; rfl) ?_
      refine awp_cond rfl (fun c2 => ?_) (fun c2 => ?_)
      · have d2 := c2; try simp at d2
        have hne : g i ≠ g' i := by intro h; rw [h] at c2; simp at c2
        have hz : ¬ lst n g = lst n g' := fun h => hne (lst_ext.1 h i d1)
        refine awp_reg_seq fun K hK => ?_
        simp [go_sem, c0, d0, c1, d1, c2, d2]
        repeat refine ⟨by omega, ?_⟩
        refine hK _ ?_; clear hK K
        refine awp_ret ?_
        simp [go_sem, Try.results29, hz]
      · have d2 := c2; try simp at d2
        have he : g i = g' i := by rw [Span.ext_iff']; simpa [and_assoc] using d2
        refine awp_skip ?_
        refine awp_reg_end fun K hK => ?_
        simp [go_sem, c0, d0, c1, d1, c2, d2]
        try simp (disch := omega) only [wrapI]
        repeat refine ⟨by omega, ?_⟩
        refine hK _ ?_; clear hK K
        refine ⟨i + 1, back_of' (by simp) (.refl _) (by (simp [go_sem, wrap_succ (i := i) (by omega), c0, d0, c1, d1, c2, d2] <;> omega)), ⟨by omega, fun q hq => by by_cases e : q = i; (rw [e]; exact he); exact hx q (by omega)⟩, by omega⟩
    · have d1 := c1; try simp at d1
      have hz : lst n g = lst n g' := lst_ext.2 fun q hq => hx q (by omega)
      refine awp_exit ?_
      refine awp_reg_seq fun K hK => ?_
      simp [go_sem, c0, d0, c1, d1]
      repeat refine ⟨by omega, ?_⟩
      refine hK _ ?_; clear hK K
      refine awp_ret ?_
      simp [go_sem, Try.results29, hz]

def nextC (k f : Int) (b : Rule × Bool) (r : Rule) : Bool := ((r.Class == k) && decide (f ≤ r.In.From)) && (!b.2 || decide (r.In.From < b.1.In.From))
def nextF (g : Nat → Rule) (k f : Int) : Nat → Rule × Bool
  | 0 => (Rule.zero, false)
  | i + 1 => if nextC k f (nextF g k f i) (g i) = true then (g i, true) else nextF g k f i
theorem nextF_zero (g : Nat → Rule) (k f : Int) : nextF g k f 0 = (Rule.zero, false) := rfl
theorem ref31_next_cs (σ : List Blk) (c : Option Nat) (n : Nat) (g : Nat → Rule) (k f : Int) (hn : n < 1000000000) : CSF Try.prog 45 [.d (SL c 6 Rule.enc n g), .d (I k), .d (I f)] σ (.tup [.agg ((nextF g k f n).1.enc.map .d), .d (B (nextF g k f n).2)]) := by
  refine CSF.of_body T.en45 Try.func45 rfl (by simp [Try.ntmps45]) (by simp [go_sem]) fun hwf => ?_
  refine awp_reg_seq fun K hK => ?_
  simp [go_sem, Try.ntmps45, nextF_zero, Rule.zero]
  repeat refine ⟨by omega, ?_⟩
  refine hK _ ?_; clear hK K
  refine awp_reg_seq fun K hK => ?_
  simp [go_sem, nextF_zero, Rule.zero]
  repeat refine ⟨by omega, ?_⟩
  refine hK _ ?_; clear hK K
  refine awp_seq ?_
  refine awp_reg_seq fun K hK => ?_
  simp [go_sem, nextF_zero, Rule.zero]
  repeat refine ⟨by omega, ?_⟩
  refine hK _ ?_; clear hK K
  refine awp_block ?_
  refine awp_forget [1, 2, 6, 8, 9, 13, 14, 15] (by simp [go_sem, restr]; rfl) ?_
  refine awp_loopU (α := Nat) (fun i => [(9, .d (B (nextF g k f i).2)), (15, .d (I i))]) (fun i => σ ++ [.var (Rule.zero.enc.map .d), .var ((nextF g k f i).1.enc.map .d)]) (fun i => i ≤ n) (fun i => n - i) 0 (by simp [go_sem, nextF_zero, Rule.zero]) rfl (by simp) ?_
  rintro i hi
  refine awp_reg_seq fun K hK => ?_
  simp [go_sem, nextF_zero, Rule.zero]
  repeat refine ⟨by omega, ?_⟩
  refine hK _ ?_; clear hK K
  refine awp_seq ?_
  refine awp_forget [1, 2, 6, 8, 9, 13, 14, 15, 16] (by simp only [restr, List.contains_cons, List.contains_nil, Nat.reduceBEq, Bool.or_false, Bool.or_true, Bool.true_or, Bool.false_or, if_true, if_false, Bool.false_eq_true]; rfl) ?_
  refine awp_cond rfl (fun c0 => ?_) (fun c0 => ?_)
  · have d0 := c0; try simp at d0
    refine awp_skip ?_
    refine awp_seq ?_
    refine awp_block ?_
    refine awp_reg_seq fun K hK => ?_
    simp [go_sem, nextF_zero, Rule.zero, c0, d0]
    repeat refine ⟨by omega, ?_⟩
    refine hK _ ?_; clear hK K
    refine awp_reg_seq fun K hK => ?_
    simp [go_sem, nextF_zero, Rule.zero, c0, d0]
    repeat refine ⟨by omega, ?_⟩
    refine hK _ ?_; clear hK K
    refine awp_forget [1, 2, 6, 8, 9, 11, 13, 14, 15, 42] (by simp only [restr, List.contains_cons, List.contains_nil, Nat.reduceBEq, Bool.or_false, Bool.or_true, Bool.true_or, Bool.false_or, if_true, if_false, Bool.false_eq_true]; rfl) ?_
    refine awp_cond rfl (fun c1 => ?_) (fun c1 => ?_)
    · have d1 := c1; try simp at d1
      have hz : nextF g k f (i + 1) = (g i, true) := by rw [nextF, if_pos (show nextC k f (nextF g k f i) (g i) = true from c1)]
      refine awp_reg_end fun K hK => ?_
      simp [go_sem, nextF_zero, Rule.zero, c0, d0, c1, d1, hz]
      repeat refine ⟨by omega, ?_⟩
      refine hK _ ?_; clear hK K
      refine awp_reg_end fun K hK => ?_
      simp [go_sem, nextF_zero, Rule.zero, c0, d0, c1, d1, hz]
      try simp (disch := omega) only [wrapI]
      repeat refine ⟨by omega, ?_⟩
      refine hK _ ?_; clear hK K
      refine ⟨i + 1, back_of' (by simp [go_sem, wrap_succ (i := i) (by omega), nextF_zero, Rule.zero, c0, d0, c1, d1, hz]) ((leaves_app (by simp [go_sem]))) (by (simp [go_sem, wrap_succ (i := i) (by omega), nextF_zero, Rule.zero, c0, d0, c1, d1, hz] <;> omega)), by omega, by omega⟩
    · have d1 := c1; try simp at d1
      have hz : nextF g k f (i + 1) = nextF g k f i := by rw [nextF, if_neg (by rw [show nextC k f (nextF g k f i) (g i) = false from c1]; simp)]
      refine awp_skip ?_
      refine awp_reg_end fun K hK => ?_
      simp [go_sem, nextF_zero, Rule.zero, c0, d0, c1, d1, hz]
      try simp (disch := omega) only [wrapI]
      repeat refine ⟨by omega, ?_⟩
      refine hK _ ?_; clear hK K
      refine ⟨i + 1, back_of' (by simp [go_sem, wrap_succ (i := i) (by omega), nextF_zero, Rule.zero, c0, d0, c1, d1, hz]) ((leaves_app (by simp [go_sem]))) (by (simp [go_sem, wrap_succ (i := i) (by omega), nextF_zero, Rule.zero, c0, d0, c1, d1, hz] <;> omega)), by omega, by omega⟩
  · have d0 := c0; try simp at d0
    obtain rfl : i = n := by omega
    refine awp_exit ?_
    refine awp_reg_seq fun K hK => ?_
    simp [go_sem, nextF_zero, Rule.zero, c0, d0]
    repeat refine ⟨by omega, ?_⟩
    refine hK _ ?_; clear hK K
    refine awp_ret ?_
    simp [go_sem, Try.results45, nextF_zero, Rule.zero, c0, d0] <;> omega

end Go.Proofs.Ytplpklikapkloaa
