/- Contracts: the laws on closures, written by a program along law31f.spec. -/
import Derived.Test.YtplpklikapkloaaBp
import Derived.Test.YtplpklikapkloaaBt
namespace Go.Proofs.Ytplpklikapkloaa
open Go.Abs Go.Arch
set_option linter.unusedVariables false
set_option linter.unusedSimpArgs false
set_option maxRecDepth 100000
set_option maxHeartbeats 1000000

def moreI (g : Nat → Rule) (y : Int) (i : Nat) : Nat → Rule := fun q => if q < i then moreG g y q else g q
theorem moreI_at (g : Nat → Rule) (y : Int) (i : Nat) : moreI g y i i = g i := by simp [moreI]
theorem moreI_zero (g : Nat → Rule) (y : Int) (q : Nat) : moreI g y 0 q = g q := by simp [moreI]
theorem moreI_all (g : Nat → Rule) (y : Int) {n q : Nat} (h : q < n) : moreI g y n q = moreG g y q := by simp [moreI, h]
theorem moreI_succ (g : Nat → Rule) (y : Int) (i q : Nat) : moreI g y (i + 1) q = if q = i then moreG g y q else moreI g y i q := by
  unfold moreI
  by_cases h : q = i
  · rw [if_pos h, if_pos (by omega)]
  · rw [if_neg h]
    by_cases h2 : q < i
    · rw [if_pos h2, if_pos (by omega)]
    · rw [if_neg h2, if_neg (by omega)]


theorem law31_ClosureSafe_cs (σ : List Blk) (c : Option Nat) (n : Nat) (g : Nat → Rule) (m : Dating) (x0 x1 x2 x3 : Int) : CSF Try.prog 7 [.d (SL c 6 Rule.enc n g), .agg (m.enc.map .d), .agg [.d (I x0), .d (I x1), .d (I x2), .d (I x3)]] σ (.d (B true)) := by
  refine CSF.of_body T.en7 Try.func7 rfl (by simp [Try.ntmps7]) (by simp [go_sem]) fun hwf => ?_
  refine awp_reg_seq fun K hK => ?_
  simp [go_sem, Try.ntmps7]
  repeat refine ⟨by omega, ?_⟩
  refine hK _ ?_; clear hK K
  refine awp_seq ?_
  refine awp_reg_seq fun K hK => ?_
  simp [go_sem]
  repeat refine ⟨by omega, ?_⟩
  refine CSk.mk (law31_awake_cs _ ) ?_
  simp [go_sem]
  repeat refine ⟨by omega, ?_⟩
  refine hK _ ?_; clear hK K
  refine awp_forget [0, 4, 5, 18] (by simp only [restr, List.contains_cons, List.contains_nil, Nat.reduceBEq, Bool.or_false, Bool.or_true, Bool.true_or, Bool.false_or, if_true, if_false, Bool.false_eq_true]; rfl) ?_
  refine awp_cond rfl (fun c0 => ?_) (fun c0 => ?_)
  · have d0 := c0; try simp at d0
  · have d0 := c0; try simp at d0
    refine awp_skip ?_
    refine awp_draw_seq 11 T.mixed (by kernel_rfl) fun K hK => ?_
    simp [go_sem, c0, d0]
    repeat refine ⟨by omega, ?_⟩
    refine hK _ ?_; clear hK K
    refine awp_seq ?_
    refine awp_reg_seq fun K hK => ?_
    simp [go_sem, c0, d0]
    repeat refine ⟨by omega, ?_⟩
    refine CSk.mk (ref31_Few_cs _ _ _ _) ?_
    simp [go_sem, c0, d0]
    repeat refine ⟨by omega, ?_⟩
    refine hK _ ?_; clear hK K
    refine awp_forget [0, 4, 7, 8, 9, 10, 45] (by simp only [restr, List.contains_cons, List.contains_nil, Nat.reduceBEq, Bool.or_false, Bool.or_true, Bool.true_or, Bool.false_or, if_true, if_false, Bool.false_eq_true]; rfl) ?_
    refine awp_cond rfl (fun c1 => ?_) (fun c1 => ?_)
    · have d1 := c1; try simp at d1
      refine awp_reg_seq fun K hK => ?_
      simp [go_sem, c0, d0, c1, d1]
      repeat refine ⟨by omega, ?_⟩
      refine hK _ ?_; clear hK K
      refine awp_ret ?_
      simp [go_sem, Try.results7, c0, d0, c1, d1] <;> omega
    · have d1 := c1; try simp at d1
      refine awp_skip ?_
      refine awp_seq ?_
      apply awp_own_seq 11 9 10 T.mixed (by kernel_rfl)
      · intro τ K hK
        simp [go_sem, c0, d0, c1, d1]
        repeat refine ⟨by omega, ?_⟩
        refine CSg.mk (cloneRule_cs _ c n g (by omega)) ?_
        simp [go_sem, c0, d0, c1, d1]
        repeat refine ⟨by omega, ?_⟩
        refine CSg.mk (closure_Closed_cs _ none n g x0 m x1 (by omega)) ?_
        simp [go_sem, c0, d0, c1, d1]
        repeat refine ⟨by omega, ?_⟩
        exact hK _ _
      intro K hK
      simp [go_sem, c0, d0, c1, d1]
      repeat refine ⟨by omega, ?_⟩
      refine hK _ ?_; clear hK K
      refine awp_reg_seq fun K hK => ?_
      simp [go_sem, c0, d0, c1, d1]
      repeat refine ⟨by omega, ?_⟩
      refine hK _ ?_; clear hK K
      refine awp_forget [0, 4, 7, 8, 9, 10, 56] (by simp only [restr, List.contains_cons, List.contains_nil, Nat.reduceBEq, Bool.or_false, Bool.or_true, Bool.true_or, Bool.false_or, if_true, if_false, Bool.false_eq_true]; rfl) ?_
      refine awp_cond rfl (fun c2 => ?_) (fun c2 => ?_)
      · have d2 := c2; try simp at d2
        refine awp_reg_seq fun K hK => ?_
        simp [go_sem, c0, d0, c1, d1, c2, d2]
        repeat refine ⟨by omega, ?_⟩
        refine hK _ ?_; clear hK K
        refine awp_ret ?_
        simp [go_sem, Try.results7, c0, d0, c1, d1, c2, d2] <;> omega
      · have d2 := c2; try simp at d2
        have hsafe := safe_law (later := x2) (years := x3) (by omega) (by omega) (by omega) (by omega) d2
        obtain ⟨h0, hm, -⟩ := closed_of d2
        have hok := datChk_0.1 hm
        unfold datOk at hok
        simp at hok
        have hf := fun q (hq : q < n) => formed_iff.1 ((check_zero h0).2 q hq).1
        refine awp_skip ?_
        refine awp_reg_seq fun K hK => ?_
        simp [go_sem, c0, d0, c1, d1, c2, d2]
        try simp (disch := omega) only [wrapI]
        repeat refine ⟨by omega, ?_⟩
        refine hK _ ?_; clear hK K
        refine awp_reg_seq fun K hK => ?_
        simp [go_sem, c0, d0, c1, d1, c2, d2]
        repeat refine ⟨by omega, ?_⟩
        refine CSk.gen (cloneRuleM_cs _ c n g (by omega)) ?_; rintro r σ' X ⟨rfl, rfl, rfl⟩
        simp [go_sem, c0, d0, c1, d1, c2, d2]
        repeat refine ⟨by omega, ?_⟩
        refine hK _ ?_; clear hK K
        refine awp_seq ?_
        refine awp_rows (σ.length + 3) (fun q => Rule.enc (moreI g x3 0 q)) (by simp [go_sem]; first | exact ⟨rfl, rfl, rfl⟩ | exact ⟨rfl, rfl⟩ | rfl) (by intro q hq; rw [moreI_zero]; rfl) (by simp [go_sem]; rfl) ?_
        refine awp_reg_seq fun K hK => ?_
        simp [go_sem, c0, d0, c1, d1, c2, d2]
        repeat refine ⟨by omega, ?_⟩
        refine hK _ ?_; clear hK K
        refine awp_block ?_
        refine awp_forget [4, 7, 8, 10, 13, 66, 67] (by simp [go_sem, restr]; rfl) ?_
        refine awp_loopU (α := Nat) (fun i => [(67, .d (I i))]) (fun i => σ ++ [.var [.d (I m.First), .d (I (min (m.Last + x2) 1048575))], .var [.d (I x0), .d (I x1), .d (I x2), .d (I x3)], .var [.d (I (closedR n g x0 m x1).1.Kind), .d (I (closedR n g x0 m x1).1.Source), .d (I (closedR n g x0 m x1).1.Unit), .d (I (closedR n g x0 m x1).1.Until)], .arr 6 n (fun q => Rule.enc (moreI g x3 i q))]) (fun i => i ≤ n) (fun i => n - i) 0 (by simp [go_sem]) rfl (by simp) ?_
        rintro i hi
        refine awp_reg_seq fun K hK => ?_
        simp [go_sem, c0, d0, c1, d1, c2, d2]
        repeat refine ⟨by omega, ?_⟩
        refine hK _ ?_; clear hK K
        refine awp_seq ?_
        refine awp_forget [4, 7, 8, 10, 13, 66, 67, 68] (by simp only [restr, List.contains_cons, List.contains_nil, Nat.reduceBEq, Bool.or_false, Bool.or_true, Bool.true_or, Bool.false_or, if_true, if_false, Bool.false_eq_true]; rfl) ?_
        refine awp_cond rfl (fun c3 => ?_) (fun c3 => ?_)
        · have d3 := c3; try simp at d3
          have hfi := hf i (by omega)
          have hat := moreI_at g x3 i
          have hwr : IntKind.i64.wrap ((g i).Years + x3) = (g i).Years + x3 := wrapI (by omega) (by omega)
          refine awp_skip ?_
          refine awp_seq ?_
          refine awp_block ?_
          refine awp_reg_seq fun K hK => ?_
          simp [go_sem, c0, d0, c1, d1, c2, d2, c3, d3, hat, hwr]
          repeat refine ⟨by omega, ?_⟩
          refine hK _ ?_; clear hK K
          refine awp_reg_end fun K hK => ?_
          simp [go_sem, c0, d0, c1, d1, c2, d2, c3, d3, hat, hwr]
          try simp (disch := omega) only [wrapI]
          repeat refine ⟨by omega, ?_⟩
          refine hK _ ?_; clear hK K
          refine awp_rows (σ.length + 3) (fun q => Rule.enc (moreI g x3 (i + 1) q)) (by simp [go_sem]; first | exact ⟨rfl, rfl, rfl⟩ | exact ⟨rfl, rfl⟩ | rfl) (by intro q hq; rw [moreI_succ]; by_cases hqi : q = i <;> simp [hqi, moreG, Rule.enc]) (by simp [go_sem]; rfl) ?_
          refine awp_reg_end fun K hK => ?_
          simp [go_sem, c0, d0, c1, d1, c2, d2, c3, d3, hat, hwr]
          try simp (disch := omega) only [wrapI]
          repeat refine ⟨by omega, ?_⟩
          refine hK _ ?_; clear hK K
          refine ⟨i + 1, back_of' (by simp [go_sem, wrap_succ (i := i) (by omega), c0, d0, c1, d1, c2, d2, c3, d3, hat, hwr]) ((leaves_app (by simp [go_sem]))) (by (simp [go_sem, wrap_succ (i := i) (by omega), c0, d0, c1, d1, c2, d2, c3, d3, hat, hwr] <;> omega)), by omega, by first | omega | (dsimp only; omega)⟩
        · have d3 := c3; try simp at d3
          have he : i = n := by omega
          subst he
          refine awp_exit ?_
          refine awp_rows (σ.length + 3) (fun q => Rule.enc (moreG g x3 q)) (by simp [go_sem]; first | exact ⟨rfl, rfl, rfl⟩ | exact ⟨rfl, rfl⟩ | rfl) (by intro q hq; rw [← moreI_all g x3 hq]; rfl) (by simp [go_sem]; rfl) ?_
          refine awp_freeze (σ.length + 3) (by simp [go_sem]; first | exact ⟨rfl, rfl, rfl⟩ | exact ⟨rfl, rfl⟩ | rfl) (by simp [go_sem]; rfl) (by simp [go_sem, hwf.frz, hwf.frz0]; rfl) ?_
          refine awp_reg_seq fun K hK => ?_
          simp [go_sem, c0, d0, c1, d1, c2, d2, c3, d3, hsafe]
          repeat refine ⟨by omega, ?_⟩
          refine CSk.mk (closure_Closed_cs _ none _ (moreG g x3) x0 ⟨m.First, min (m.Last + x2) 1048575⟩ x1 (by omega)) ?_
          simp [go_sem, c0, d0, c1, d1, c2, d2, c3, d3, hsafe]
          repeat refine ⟨by omega, ?_⟩
          refine hK _ ?_; clear hK K
          refine awp_reg_seq fun K hK => ?_
          simp [go_sem, c0, d0, c1, d1, c2, d2, c3, d3, hsafe]
          repeat refine ⟨by omega, ?_⟩
          refine hK _ ?_; clear hK K
          refine awp_ret ?_
          simp [go_sem, Try.results7, c0, d0, c1, d1, c2, d2, c3, d3, hsafe] <;> omega

end Go.Proofs.Ytplpklikapkloaa
