/- Contracts: the laws on closures, written by a program along law31b.spec. -/
import Derived.Test.YtplpklikapkloaaBp
namespace Go.Proofs.Ytplpklikapkloaa
open Go.Abs Go.Arch
set_option linter.unusedVariables false
set_option linter.unusedSimpArgs false
set_option maxRecDepth 100000
set_option maxHeartbeats 1000000

theorem endR_len (n : Nat) (g : Nat → Rule) (i d : Int) : (endR n g i d).1.1 ≤ n := by
  unfold endR
  repeat' split
  all_goals simp

theorem law31_ClosureUntil_cs (σ : List Blk) (r : Rule) (m : Dating) : CSF Try.prog 4 [.agg (r.enc.map .d), .agg (m.enc.map .d)] σ (.d (B true)) := by
  refine CSF.of_body T.en4 Try.func4 rfl (by simp [Try.ntmps4]) (by simp [go_sem]) fun hwf => ?_
  refine awp_reg_seq fun K hK => ?_
  simp [go_sem, Try.ntmps4]
  repeat refine ⟨by omega, ?_⟩
  refine hK _ ?_; clear hK K
  refine awp_seq ?_
  refine awp_reg_seq fun K hK => ?_
  simp [go_sem]
  repeat refine ⟨by omega, ?_⟩
  refine CSk.mk (law31_awake_cs _ ) ?_
  simp [go_sem]
  repeat refine ⟨by omega, ?_⟩
  refine hK _ ?_; clear hK K
  refine awp_forget [2, 3, 10] (by simp only [restr, List.contains_cons, List.contains_nil, Nat.reduceBEq, Bool.or_false, Bool.or_true, Bool.true_or, Bool.false_or, if_true, if_false, Bool.false_eq_true]; rfl) ?_
  refine awp_cond rfl (fun c0 => ?_) (fun c0 => ?_)
  · have d0 := c0; try simp at d0
  · have d0 := c0; try simp at d0
    refine awp_skip ?_
    refine awp_reg_seq fun K hK => ?_
    simp [go_sem, c0, d0]
    repeat refine ⟨by omega, ?_⟩
    refine CSk.mk (closure_Until_cs _ r m) ?_
    simp [go_sem, c0, d0]
    repeat refine ⟨by omega, ?_⟩
    refine hK _ ?_; clear hK K
    refine awp_reg_seq fun K hK => ?_
    simp [go_sem, c0, d0]
    repeat refine ⟨by omega, ?_⟩
    refine CSk.mk (ref31_Until_cs _ r m) ?_
    simp [go_sem, c0, d0]
    repeat refine ⟨by omega, ?_⟩
    refine hK _ ?_; clear hK K
    refine awp_reg_seq fun K hK => ?_
    simp [go_sem, c0, d0]
    repeat refine ⟨by omega, ?_⟩
    refine hK _ ?_; clear hK K
    refine awp_ret ?_
    simp [go_sem, Try.results4, c0, d0] <;> omega

theorem law31_ClosureChecks_cs (σ : List Blk) (c : Option Nat) (n : Nat) (g : Nat → Rule) (k d : Int) : CSF Try.prog 3 [.d (SL c 6 Rule.enc n g), .d (I k), .d (I d)] σ (.d (B true)) := by
  refine CSF.of_body T.en3 Try.func3 rfl (by simp [Try.ntmps3]) (by simp [go_sem]) fun hwf => ?_
  refine awp_reg_seq fun K hK => ?_
  simp [go_sem, Try.ntmps3]
  repeat refine ⟨by omega, ?_⟩
  refine hK _ ?_; clear hK K
  refine awp_seq ?_
  refine awp_reg_seq fun K hK => ?_
  simp [go_sem]
  repeat refine ⟨by omega, ?_⟩
  refine CSk.mk (law31_awake_cs _ ) ?_
  simp [go_sem]
  repeat refine ⟨by omega, ?_⟩
  refine hK _ ?_; clear hK K
  refine awp_forget [0, 1, 2, 12] (by simp only [restr, List.contains_cons, List.contains_nil, Nat.reduceBEq, Bool.or_false, Bool.or_true, Bool.true_or, Bool.false_or, if_true, if_false, Bool.false_eq_true]; rfl) ?_
  refine awp_cond rfl (fun c0 => ?_) (fun c0 => ?_)
  · have d0 := c0; try simp at d0
  · have d0 := c0; try simp at d0
    refine awp_skip ?_
    refine awp_seq ?_
    refine awp_reg_seq fun K hK => ?_
    simp [go_sem, c0, d0]
    repeat refine ⟨by omega, ?_⟩
    refine CSk.mk (ref31_Few_cs _ _ _ _) ?_
    simp [go_sem, c0, d0]
    repeat refine ⟨by omega, ?_⟩
    refine hK _ ?_; clear hK K
    refine awp_forget [0, 1, 2, 20] (by simp only [restr, List.contains_cons, List.contains_nil, Nat.reduceBEq, Bool.or_false, Bool.or_true, Bool.true_or, Bool.false_or, if_true, if_false, Bool.false_eq_true]; rfl) ?_
    refine awp_cond rfl (fun c1 => ?_) (fun c1 => ?_)
    · have d1 := c1; try simp at d1
      refine awp_reg_seq fun K hK => ?_
      simp [go_sem, c0, d0, c1, d1]
      repeat refine ⟨by omega, ?_⟩
      refine hK _ ?_; clear hK K
      refine awp_ret ?_
      simp [go_sem, Try.results3, c0, d0, c1, d1] <;> omega
    · have d1 := c1; try simp at d1
      refine awp_skip ?_
      refine awp_reg_seq fun K hK => ?_
      simp [go_sem, c0, d0, c1, d1]
      repeat refine ⟨by omega, ?_⟩
      refine CSk.mk (cloneRule_cs _ c n g (by omega)) ?_
      simp [go_sem, c0, d0, c1, d1]
      repeat refine ⟨by omega, ?_⟩
      refine CSk.mk (closure_InForce_cs _ none n g k d (by omega)) ?_
      simp [go_sem, c0, d0, c1, d1]
      repeat refine ⟨by omega, ?_⟩
      refine hK _ ?_; clear hK K
      refine awp_reg_seq fun K hK => ?_
      simp [go_sem, c0, d0, c1, d1]
      repeat refine ⟨by omega, ?_⟩
      refine CSk.mk (ref31_InForce_cs _ c n g k d (by omega)) ?_
      simp [go_sem, c0, d0, c1, d1]
      repeat refine ⟨by omega, ?_⟩
      refine hK _ ?_; clear hK K
      refine awp_reg_seq fun K hK => ?_
      simp [go_sem, c0, d0, c1, d1]
      repeat refine ⟨by omega, ?_⟩
      refine CSk.mk (cloneRule_cs _ c n g (by omega)) ?_
      simp [go_sem, c0, d0, c1, d1]
      repeat refine ⟨by omega, ?_⟩
      refine CSk.mk (closure_Check_cs _ none n g (by omega)) ?_
      simp [go_sem, c0, d0, c1, d1]
      repeat refine ⟨by omega, ?_⟩
      refine CSk.mk (ref31_Check_cs _ c n g (by omega)) ?_
      simp [go_sem, c0, d0, c1, d1]
      repeat refine ⟨by omega, ?_⟩
      refine hK _ ?_; clear hK K
      refine awp_ret ?_
      simp [go_sem, Try.results3, c0, d0, c1, d1] <;> omega

theorem law31_ClosureGrounds_cs (σ : List Blk) (c : Option Nat) (n : Nat) (g : Nat → Rule) (m : Dating) (x0 x1 x2 x3 : Int) : CSF Try.prog 5 [.d (SL c 6 Rule.enc n g), .agg (m.enc.map .d), .agg [.d (I x0), .d (I x1), .d (I x2), .d (I x3)]] σ (.d (B true)) := by
  refine CSF.of_body T.en5 Try.func5 rfl (by simp [Try.ntmps5]) (by simp [go_sem]) fun hwf => ?_
  refine awp_reg_seq fun K hK => ?_
  simp [go_sem, Try.ntmps5]
  repeat refine ⟨by omega, ?_⟩
  refine hK _ ?_; clear hK K
  refine awp_seq ?_
  refine awp_reg_seq fun K hK => ?_
  simp [go_sem]
  repeat refine ⟨by omega, ?_⟩
  refine CSk.mk (law31_awake_cs _ ) ?_
  simp [go_sem]
  repeat refine ⟨by omega, ?_⟩
  refine hK _ ?_; clear hK K
  refine awp_forget [0, 4, 5, 16] (by simp only [restr, List.contains_cons, List.contains_nil, Nat.reduceBEq, Bool.or_false, Bool.or_true, Bool.true_or, Bool.false_or, if_true, if_false, Bool.false_eq_true]; rfl) ?_
  refine awp_cond rfl (fun c0 => ?_) (fun c0 => ?_)
  · have d0 := c0; try simp at d0
  · have d0 := c0; try simp at d0
    refine awp_skip ?_
    refine awp_seq ?_
    refine awp_reg_seq fun K hK => ?_
    simp [go_sem, c0, d0]
    repeat refine ⟨by omega, ?_⟩
    refine CSk.mk (ref31_Few_cs _ _ _ _) ?_
    simp [go_sem, c0, d0]
    repeat refine ⟨by omega, ?_⟩
    refine hK _ ?_; clear hK K
    refine awp_forget [0, 4, 5, 19] (by simp only [restr, List.contains_cons, List.contains_nil, Nat.reduceBEq, Bool.or_false, Bool.or_true, Bool.true_or, Bool.false_or, if_true, if_false, Bool.false_eq_true]; rfl) ?_
    refine awp_cond rfl (fun c1 => ?_) (fun c1 => ?_)
    · have d1 := c1; try simp at d1
      refine awp_reg_seq fun K hK => ?_
      simp [go_sem, c0, d0, c1, d1]
      repeat refine ⟨by omega, ?_⟩
      refine hK _ ?_; clear hK K
      refine awp_ret ?_
      simp [go_sem, Try.results5, c0, d0, c1, d1] <;> omega
    · have d1 := c1; try simp at d1
      refine awp_skip ?_
      apply awp_own_seq 13 11 12 T.mixed (by kernel_rfl)
      · intro τ K hK
        simp [go_sem, c0, d0, c1, d1]
        repeat refine ⟨by omega, ?_⟩
        refine CSg.mk (cloneRule_cs _ c n g (by omega)) ?_
        simp [go_sem, c0, d0, c1, d1]
        repeat refine ⟨by omega, ?_⟩
        refine CSg.mk (closure_Closed_cs _ none n g x0 m x1 (by omega)) ?_
        simp [go_sem, c0, d0, c1, d1]
        repeat refine ⟨by omega, ?_⟩
        exact hK _ _
      intro K hK
      simp [go_sem, c0, d0, c1, d1]
      repeat refine ⟨by omega, ?_⟩
      refine hK _ ?_; clear hK K
      refine awp_reg_seq fun K hK => ?_
      simp [go_sem, c0, d0, c1, d1]
      repeat refine ⟨by omega, ?_⟩
      refine CSk.mk (ref31_Closed_cs _ c n g x0 m x1 (by omega)) ?_
      simp [go_sem, c0, d0, c1, d1]
      repeat refine ⟨by omega, ?_⟩
      refine hK _ ?_; clear hK K
      refine awp_draw_seq 11 T.mixed (by kernel_rfl) fun K hK => ?_
      simp [go_sem, c0, d0, c1, d1]
      repeat refine ⟨by omega, ?_⟩
      refine CSg.mk (cloneRule_cs _ c n g (by omega)) ?_
      simp [go_sem, c0, d0, c1, d1]
      repeat refine ⟨by omega, ?_⟩
      refine CSg.mk (closure_End_cs _ none n g x2 x3 (by omega)) ?_
      simp [go_sem, c0, d0, c1, d1]
      repeat refine ⟨by omega, ?_⟩
      refine hK _ ?_; clear hK K
      refine awp_reg_seq fun K hK => ?_
      simp [go_sem, c0, d0, c1, d1]
      repeat refine ⟨by omega, ?_⟩
      refine CSk.mk (ref31_End_cs _ c n g x2 x3 (by omega)) ?_
      simp [go_sem, c0, d0, c1, d1]
      repeat refine ⟨by omega, ?_⟩
      refine hK _ ?_; clear hK K
      refine awp_reg_seq fun K hK => ?_
      simp [go_sem, c0, d0, c1, d1]
      repeat refine ⟨by omega, ?_⟩
      refine CSm.mk (ref31_Same_cs _ none _ _ none _ _ (.isTrue rfl) (by have := endR_len n g x2 x3; omega)) ?_
      simp [go_sem, c0, d0, c1, d1]
      repeat refine ⟨by omega, ?_⟩
      refine hK _ ?_; clear hK K
      refine awp_ret ?_
      simp [go_sem, Try.results5, c0, d0, c1, d1] <;> omega

theorem law31_ClosureSpans_cs (σ : List Blk) (c : Option Nat) (n : Nat) (g : Nat → Rule) (m : Dating) (x0 x1 : Int) : CSF Try.prog 9 [.d (SL c 6 Rule.enc n g), .agg (m.enc.map .d), .agg [.d (I x0), .d (I x1)]] σ (.d (B true)) := by
  refine CSF.of_body T.en9 Try.func9 rfl (by simp [Try.ntmps9]) (by simp [go_sem]) fun hwf => ?_
  refine awp_reg_seq fun K hK => ?_
  simp [go_sem, Try.ntmps9]
  repeat refine ⟨by omega, ?_⟩
  refine hK _ ?_; clear hK K
  refine awp_seq ?_
  refine awp_reg_seq fun K hK => ?_
  simp [go_sem]
  repeat refine ⟨by omega, ?_⟩
  refine CSk.mk (law31_awake_cs _ ) ?_
  simp [go_sem]
  repeat refine ⟨by omega, ?_⟩
  refine hK _ ?_; clear hK K
  refine awp_forget [0, 4, 5, 16] (by simp only [restr, List.contains_cons, List.contains_nil, Nat.reduceBEq, Bool.or_false, Bool.or_true, Bool.true_or, Bool.false_or, if_true, if_false, Bool.false_eq_true]; rfl) ?_
  refine awp_cond rfl (fun c0 => ?_) (fun c0 => ?_)
  · have d0 := c0; try simp at d0
  · have d0 := c0; try simp at d0
    refine awp_skip ?_
    refine awp_seq ?_
    refine awp_reg_seq fun K hK => ?_
    simp [go_sem, c0, d0]
    repeat refine ⟨by omega, ?_⟩
    refine CSk.mk (ref31_Few_cs _ _ _ _) ?_
    simp [go_sem, c0, d0]
    repeat refine ⟨by omega, ?_⟩
    refine hK _ ?_; clear hK K
    refine awp_forget [0, 4, 5, 19] (by simp only [restr, List.contains_cons, List.contains_nil, Nat.reduceBEq, Bool.or_false, Bool.or_true, Bool.true_or, Bool.false_or, if_true, if_false, Bool.false_eq_true]; rfl) ?_
    refine awp_cond rfl (fun c1 => ?_) (fun c1 => ?_)
    · have d1 := c1; try simp at d1
      refine awp_reg_seq fun K hK => ?_
      simp [go_sem, c0, d0, c1, d1]
      repeat refine ⟨by omega, ?_⟩
      refine hK _ ?_; clear hK K
      refine awp_ret ?_
      simp [go_sem, Try.results9, c0, d0, c1, d1] <;> omega
    · have d1 := c1; try simp at d1
      refine awp_skip ?_
      refine awp_draw_seq 10 T.mixed (by kernel_rfl) fun K hK => ?_
      simp [go_sem, c0, d0, c1, d1]
      repeat refine ⟨by omega, ?_⟩
      refine CSg.mk (cloneRule_cs _ c n g (by omega)) ?_
      simp [go_sem, c0, d0, c1, d1]
      repeat refine ⟨by omega, ?_⟩
      refine CSg.mk (closure_Spans_cs _ none n g x0 m (by omega)) ?_
      simp [go_sem, c0, d0, c1, d1]
      repeat refine ⟨by omega, ?_⟩
      refine hK _ ?_; clear hK K
      refine awp_reg_seq fun K hK => ?_
      simp [go_sem, c0, d0, c1, d1]
      repeat refine ⟨by omega, ?_⟩
      refine CSk.mk (ref31_Spans_cs _ c n g x0 m (by omega)) ?_
      simp [go_sem, c0, d0, c1, d1]
      repeat refine ⟨by omega, ?_⟩
      refine hK _ ?_; clear hK K
      refine awp_draw_seq 12 T.mixed (by kernel_rfl) fun K hK => ?_
      simp [go_sem, c0, d0, c1, d1]
      repeat refine ⟨by omega, ?_⟩
      refine CSg.mk (cloneRule_cs _ c n g (by omega)) ?_
      simp [go_sem, c0, d0, c1, d1]
      repeat refine ⟨by omega, ?_⟩
      refine CSg.mk (closure_Opens_cs _ none n g x0 m x1 (by omega)) ?_
      simp [go_sem, c0, d0, c1, d1]
      repeat refine ⟨by omega, ?_⟩
      refine hK _ ?_; clear hK K
      refine awp_reg_seq fun K hK => ?_
      simp [go_sem, c0, d0, c1, d1]
      repeat refine ⟨by omega, ?_⟩
      refine CSk.mk (ref31_Opens_cs _ c n g x0 m x1 (by omega)) ?_
      simp [go_sem, c0, d0, c1, d1]
      repeat refine ⟨by omega, ?_⟩
      refine hK _ ?_; clear hK K
      refine awp_reg_seq fun K hK => ?_
      simp [go_sem, c0, d0, c1, d1]
      repeat refine ⟨by omega, ?_⟩
      refine CSk.mk (ref31_SameSpans_cs _ none _ _ none _ _ (.isTrue rfl) (by have := refSpansR_len n g x0 m; omega)) ?_
      simp [go_sem, c0, d0, c1, d1]
      repeat refine ⟨by omega, ?_⟩
      refine hK _ ?_; clear hK K
      refine awp_ret ?_
      simp [go_sem, Try.results9, c0, d0, c1, d1] <;> omega

end Go.Proofs.Ytplpklikapkloaa
