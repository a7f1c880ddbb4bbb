/- Contracts: the laws on closures, written by a program along law31d.spec. -/
import Derived.Test.YtplpklikapkloaaBp
import Derived.Test.YtplpklikapkloaaBt
namespace Go.Proofs.Ytplpklikapkloaa
open Go.Abs Go.Arch
set_option linter.unusedVariables false
set_option linter.unusedSimpArgs false
set_option maxRecDepth 100000
set_option maxHeartbeats 1000000

theorem end_ne {n : Nat} {g : Nat → Rule} {id d : Int} (h : (endR n g id d).2 ≠ 0) : (endR n g id d).1.1 = 0 := by
  unfold endR at h ⊢
  split
  · rfl
  · split
    · rfl
    · split
      · rfl
      · rename_i h1 h2 h3; rw [if_neg h1, if_neg h2, if_neg h3] at h; simp at h


theorem law31_ClosureEnds_cs (σ : List Blk) (c : Option Nat) (n : Nat) (g : Nat → Rule) (m : Dating) (x0 x1 x2 x3 : Int) : CSF Try.prog 8 [.d (SL c 6 Rule.enc n g), .agg (m.enc.map .d), .agg [.d (I x0), .d (I x1), .d (I x2), .d (I x3)]] σ (.d (B true)) := by
  refine CSF.of_body T.en8 Try.func8 rfl (by simp [Try.ntmps8]) (by simp [go_sem]) fun hwf => ?_
  refine awp_reg_seq fun K hK => ?_
  simp [go_sem, Try.ntmps8]
  repeat refine ⟨by omega, ?_⟩
  refine hK _ ?_; clear hK K
  refine awp_seq ?_
  refine awp_reg_seq fun K hK => ?_
  simp [go_sem]
  repeat refine ⟨by omega, ?_⟩
  refine CSk.mk (law31_awake_cs _ ) ?_
  simp [go_sem]
  repeat refine ⟨by omega, ?_⟩
  refine hK _ ?_; clear hK K
  refine awp_forget [0, 4, 5, 14] (by simp only [restr, List.contains_cons, List.contains_nil, Nat.reduceBEq, Bool.or_false, Bool.or_true, Bool.true_or, Bool.false_or, if_true, if_false, Bool.false_eq_true]; rfl) ?_
  refine awp_cond rfl (fun c0 => ?_) (fun c0 => ?_)
  · have d0 := c0; try simp at d0
  · have d0 := c0; try simp at d0
    refine awp_skip ?_
    refine awp_seq ?_
    refine awp_reg_seq fun K hK => ?_
    simp [go_sem, c0, d0]
    repeat refine ⟨by omega, ?_⟩
    refine CSk.mk (ref31_Few_cs _ _ _ _) ?_
    simp [go_sem, c0, d0]
    repeat refine ⟨by omega, ?_⟩
    refine hK _ ?_; clear hK K
    refine awp_forget [0, 4, 5, 17] (by simp only [restr, List.contains_cons, List.contains_nil, Nat.reduceBEq, Bool.or_false, Bool.or_true, Bool.true_or, Bool.false_or, if_true, if_false, Bool.false_eq_true]; rfl) ?_
    refine awp_cond rfl (fun c1 => ?_) (fun c1 => ?_)
    · have d1 := c1; try simp at d1
      refine awp_reg_seq fun K hK => ?_
      simp [go_sem, c0, d0, c1, d1]
      repeat refine ⟨by omega, ?_⟩
      refine hK _ ?_; clear hK K
      refine awp_ret ?_
      simp [go_sem, Try.results8, c0, d0, c1, d1] <;> omega
    · have d1 := c1; try simp at d1
      refine awp_skip ?_
      refine awp_draw_seq 11 T.mixed (by kernel_rfl) fun K hK => ?_
      simp [go_sem, c0, d0, c1, d1]
      repeat refine ⟨by omega, ?_⟩
      refine CSg.mk (cloneRule_cs _ c n g (by omega)) ?_
      simp [go_sem, c0, d0, c1, d1]
      repeat refine ⟨by omega, ?_⟩
      refine CSg.mk (closure_End_cs _ none n g x0 x1 (by omega)) ?_
      simp [go_sem, c0, d0, c1, d1]
      repeat refine ⟨by omega, ?_⟩
      refine hK _ ?_; clear hK K
      refine awp_seq ?_
      refine awp_reg_seq fun K hK => ?_
      simp [go_sem, c0, d0, c1, d1]
      repeat refine ⟨by omega, ?_⟩
      refine hK _ ?_; clear hK K
      refine awp_forget [0, 4, 5, 7, 29] (by simp only [restr, List.contains_cons, List.contains_nil, Nat.reduceBEq, Bool.or_false, Bool.or_true, Bool.true_or, Bool.false_or, if_true, if_false, Bool.false_eq_true]; rfl) ?_
      refine awp_cond rfl (fun c2 => ?_) (fun c2 => ?_)
      · have d2 := c2; try simp at d2
        have hz := end_ne d2
        refine awp_reg_seq fun K hK => ?_
        simp [go_sem, c0, d0, c1, d1, c2, d2, hz]
        repeat refine ⟨by omega, ?_⟩
        refine hK _ ?_; clear hK K
        refine awp_ret ?_
        simp [go_sem, Try.results8, hz]
      · have d2 := c2; try simp at d2
        obtain ⟨j, hj, h0, h1, h2, hz⟩ := end_ok d2
        rw [hz]
        obtain ⟨k1, k2, k3⟩ := end_laws hj h0 h1 h2 x2 m x3
        simp only [show (fun q => if q = j then { g q with In := ⟨(g q).In.From, x1⟩ } else g q) = endG g j x1 from rfl]
        clear hz
        refine awp_skip ?_
        apply awp_own_seq 13 11 12 T.mixed (by kernel_rfl)
        · intro τ K hK
          simp [go_sem, c0, d0, c1, d1, c2, d2]
          repeat refine ⟨by omega, ?_⟩
          refine CSg.mk (cloneRule_cs _ c n g (by omega)) ?_
          simp [go_sem, c0, d0, c1, d1, c2, d2]
          repeat refine ⟨by omega, ?_⟩
          refine CSg.mk (closure_Closed_cs _ none n g x2 m x3 (by omega)) ?_
          simp [go_sem, c0, d0, c1, d1, c2, d2]
          repeat refine ⟨by omega, ?_⟩
          exact hK _ _
        intro K hK
        simp [go_sem, c0, d0, c1, d1, c2, d2]
        repeat refine ⟨by omega, ?_⟩
        refine hK _ ?_; clear hK K
        apply awp_own_seq 13 11 12 T.mixed (by kernel_rfl)
        · intro τ K hK
          simp [go_sem, c0, d0, c1, d1, c2, d2]
          repeat refine ⟨by omega, ?_⟩
          refine CSg.mk (cloneRule_cs _ none n (endG g j x1) (by omega)) ?_
          simp [go_sem, c0, d0, c1, d1, c2, d2]
          repeat refine ⟨by omega, ?_⟩
          refine CSg.mk (closure_Closed_cs _ none n (endG g j x1) x2 m x3 (by omega)) ?_
          simp [go_sem, c0, d0, c1, d1, c2, d2]
          repeat refine ⟨by omega, ?_⟩
          exact hK _ _
        intro K hK
        simp [go_sem, c0, d0, c1, d1, c2, d2]
        repeat refine ⟨by omega, ?_⟩
        refine hK _ ?_; clear hK K
        refine awp_seq ?_
        refine awp_reg_seq fun K hK => ?_
        simp [go_sem, c0, d0, c1, d1, c2, d2]
        repeat refine ⟨by omega, ?_⟩
        refine CSk.mk (cloneRule_cs _ none n (endG g j x1) (by omega)) ?_
        simp [go_sem, c0, d0, c1, d1, c2, d2]
        repeat refine ⟨by omega, ?_⟩
        refine CSk.mk (closure_Check_cs _ none n (endG g j x1) (by omega)) ?_
        simp [go_sem, c0, d0, c1, d1, c2, d2]
        repeat refine ⟨by omega, ?_⟩
        refine hK _ ?_; clear hK K
        refine awp_forget [5, 9, 10, 11, 12, 65] (by simp only [restr, List.contains_cons, List.contains_nil, Nat.reduceBEq, Bool.or_false, Bool.or_true, Bool.true_or, Bool.false_or, if_true, if_false, Bool.false_eq_true]; rfl) ?_
        refine awp_cond rfl (fun c3 => ?_) (fun c3 => ?_)
        · have d3 := c3; try simp at d3
          refine awp_reg_seq fun K hK => ?_
          simp [go_sem, c0, d0, c1, d1, c2, d2, c3, d3]
          repeat refine ⟨by omega, ?_⟩
          refine hK _ ?_; clear hK K
          refine awp_ret ?_
          exfalso
          rcases d3 with h | ⟨h, h'⟩
          · exact h k1
          · rw [k2 h] at h'; cases h'
        · have d3 := c3; try simp at d3
          refine awp_skip ?_
          refine awp_reg_seq fun K hK => ?_
          simp [go_sem, c0, d0, c1, d1, c2, d2, c3, d3]
          repeat refine ⟨by omega, ?_⟩
          refine hK _ ?_; clear hK K
          refine awp_ret ?_
          by_cases hx : x1 ≤ x3
          · simp [go_sem, Try.results8, hx]
          · simp [go_sem, Try.results8, k3 (by omega)]

end Go.Proofs.Ytplpklikapkloaa
