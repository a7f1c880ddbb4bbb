/- Contracts: the laws on closures, written by a program along law31c.spec. -/
import Derived.Test.YtplpklikapkloaaBp
import Derived.Test.YtplpklikapkloaaBt
namespace Go.Proofs.Ytplpklikapkloaa
open Go.Abs Go.Arch
set_option linter.unusedVariables false
set_option linter.unusedSimpArgs false
set_option maxRecDepth 100000
set_option maxHeartbeats 1000000

theorem refSpansR_zero {n : Nat} {g : Nat → Rule} {k : Int} {m : Dating} (h : (refSpansR n g k m).2 = 0) : refSpansR n g k m = (refSpans n g k m, 0) ∧ check n g = 0 ∧ datChk m = 0 := by
  rw [refSpansR_asked] at h ⊢
  by_cases ha : askedR n g k m 0 ≠ 0
  · rw [if_pos ha] at h; exact absurd h ha
  · rw [if_neg ha]
    have := asked_zero (Classical.not_not.1 ha)
    exact ⟨rfl, this.1, this.2.1⟩
theorem refSpansR_ne {n : Nat} {g : Nat → Rule} {k : Int} {m : Dating} (h : (refSpansR n g k m).2 ≠ 0) : (refSpansR n g k m).1 = [] := by
  rw [refSpansR_asked] at h ⊢
  by_cases ha : askedR n g k m 0 ≠ 0
  · rw [if_pos ha]
  · rw [if_neg ha] at h; simp at h
theorem refSpans_len (n : Nat) (g : Nat → Rule) (k : Int) (m : Dating) : (refSpans n g k m).length < 2000000 := by
  have hlen := refLoop_len n g k m 1048577 (nextF g k 0 n) []
  simp only [List.length_nil] at hlen
  unfold refSpans; omega
def inW (W : List Span) (i : Nat) (d : Int) : Bool := (W.take i).any fun s => decide (s.From ≤ d) && decide (d < s.Until)
theorem inW_zero (W : List Span) (d : Int) : inW W 0 d = false := by simp [inW]
theorem inW_succ (W : List Span) (d : Int) {i : Nat} (h : i < W.length) : inW W (i + 1) d = (inW W i d || (decide ((nth W i).From ≤ d) && decide (d < (nth W i).Until))) := by
  unfold inW
  rw [List.take_succ_eq_append_getElem h, nth_eq h, List.any_append, List.any_cons, List.any_nil, Bool.or_false]
theorem inW_all (W : List Span) (d : Int) : inW W W.length d = true ↔ inS W d := by
  unfold inW inS; rw [List.take_length]; simp
theorem good_nth {W : List Span} (h : GoodSpans W) {i : Nat} (hi : i < W.length) : 0 ≤ (nth W i).From ∧ (nth W i).From < (nth W i).Until ∧ (nth W i).Until ≤ 1048576 ∧ (0 < i → (nth W (i - 1)).Until < (nth W i).From) := by
  have h1 := h.each (nth W i) (by rw [nth_eq hi]; exact List.getElem_mem hi)
  refine ⟨h1.1, h1.2.1, h1.2.2, fun hp => ?_⟩
  have := List.pairwise_iff_getElem.1 h.apart (i - 1) i (by omega) hi (by omega)
  rw [nth_eq hi, nth_eq (show i - 1 < W.length by omega)]; exact this
theorem closed_until {n : Nat} {g : Nat → Rule} {k : Int} {m : Dating} {d : Int} (h : (closedR n g k m d).2 = true) : d < (closedR n g k m d).1.Until ∧ (closedR n g k m d).1.Kind = 1 := by
  obtain ⟨_, _, i, _, _, h3, h4⟩ := closed_of h
  rw [h4]; exact ⟨h3, rfl⟩


theorem law31_ClosureDays_cs (σ : List Blk) (c : Option Nat) (n : Nat) (g : Nat → Rule) (m : Dating) (x0 x1 : Int) : CSF Try.prog 6 [.d (SL c 6 Rule.enc n g), .agg (m.enc.map .d), .agg [.d (I x0), .d (I x1)]] σ (.d (B true)) := by
  refine CSF.of_body T.en6 Try.func6 rfl (by simp [Try.ntmps6]) (by simp [go_sem]) fun hwf => ?_
  refine awp_reg_seq fun K hK => ?_
  simp [go_sem, Try.ntmps6]
  repeat refine ⟨by omega, ?_⟩
  refine hK _ ?_; clear hK K
  refine awp_seq ?_
  refine awp_reg_seq fun K hK => ?_
  simp [go_sem]
  repeat refine ⟨by omega, ?_⟩
  refine CSk.mk (law31_awake_cs _ ) ?_
  simp [go_sem]
  repeat refine ⟨by omega, ?_⟩
  refine hK _ ?_; clear hK K
  refine awp_forget [0, 4, 5, 15] (by simp only [restr, List.contains_cons, List.contains_nil, Nat.reduceBEq, Bool.or_false, Bool.or_true, Bool.true_or, Bool.false_or, if_true, if_false, Bool.false_eq_true]; rfl) ?_
  refine awp_cond rfl (fun c0 => ?_) (fun c0 => ?_)
  · have d0 := c0; try simp at d0
  · have d0 := c0; try simp at d0
    refine awp_skip ?_
    refine awp_seq ?_
    refine awp_reg_seq fun K hK => ?_
    simp [go_sem, c0, d0]
    repeat refine ⟨by omega, ?_⟩
    refine CSk.mk (ref31_Few_cs _ _ _ _) ?_
    simp [go_sem, c0, d0]
    repeat refine ⟨by omega, ?_⟩
    refine hK _ ?_; clear hK K
    refine awp_forget [0, 4, 5, 18] (by simp only [restr, List.contains_cons, List.contains_nil, Nat.reduceBEq, Bool.or_false, Bool.or_true, Bool.true_or, Bool.false_or, if_true, if_false, Bool.false_eq_true]; rfl) ?_
    refine awp_cond rfl (fun c1 => ?_) (fun c1 => ?_)
    · have d1 := c1; try simp at d1
      refine awp_reg_seq fun K hK => ?_
      simp [go_sem, c0, d0, c1, d1]
      repeat refine ⟨by omega, ?_⟩
      refine hK _ ?_; clear hK K
      refine awp_ret ?_
      simp [go_sem, Try.results6, c0, d0, c1, d1] <;> omega
    · have d1 := c1; try simp at d1
      refine awp_skip ?_
      refine awp_draw_seq 10 T.mixed (by kernel_rfl) fun K hK => ?_
      simp [go_sem, c0, d0, c1, d1]
      repeat refine ⟨by omega, ?_⟩
      refine CSg.mk (cloneRule_cs _ c n g (by omega)) ?_
      simp [go_sem, c0, d0, c1, d1]
      repeat refine ⟨by omega, ?_⟩
      refine CSg.mk (closure_Spans_cs _ none n g x0 m (by omega)) ?_
      simp [go_sem, c0, d0, c1, d1]
      repeat refine ⟨by omega, ?_⟩
      refine hK _ ?_; clear hK K
      refine awp_seq ?_
      refine awp_reg_seq fun K hK => ?_
      simp [go_sem, c0, d0, c1, d1]
      repeat refine ⟨by omega, ?_⟩
      refine hK _ ?_; clear hK K
      refine awp_forget [0, 4, 5, 7, 29] (by simp only [restr, List.contains_cons, List.contains_nil, Nat.reduceBEq, Bool.or_false, Bool.or_true, Bool.true_or, Bool.false_or, if_true, if_false, Bool.false_eq_true]; rfl) ?_
      refine awp_cond rfl (fun c2 => ?_) (fun c2 => ?_)
      · have d2 := c2; try simp at d2
        have hz := refSpansR_ne d2
        refine awp_reg_seq fun K hK => ?_
        simp [go_sem, c0, d0, c1, d1, c2, d2, hz]
        repeat refine ⟨by omega, ?_⟩
        refine hK _ ?_; clear hK K
        refine awp_ret ?_
        simp [go_sem, Try.results6, hz]
      · have d2 := c2; try simp at d2
        obtain ⟨hz, h0, hm⟩ := refSpansR_zero d2
        rw [hz]
        have hG := (refSpans_good h0 x0 m).1
        have hc := closed_iff (k := x0) (d := x1) h0 hm
        have hl := refSpans_len n g x0 m
        clear hz
        generalize refSpans n g x0 m = W at *
        refine awp_skip ?_
        refine awp_reg_seq fun K hK => ?_
        simp [go_sem, c0, d0, c1, d1, c2, d2]
        repeat refine ⟨by omega, ?_⟩
        refine hK _ ?_; clear hK K
        refine awp_seq ?_
        refine awp_reg_seq fun K hK => ?_
        simp [go_sem, c0, d0, c1, d1, c2, d2]
        repeat refine ⟨by omega, ?_⟩
        refine hK _ ?_; clear hK K
        refine awp_block ?_
        refine awp_forget [0, 4, 5, 7, 9, 33, 34, 35] (by simp [go_sem, restr]; rfl) ?_
        refine awp_loopU (α := Nat) (fun i => [(9, .d (B (inW W i x1))), (35, .d (I i))]) (fun i => _) (fun i => i ≤ W.length) (fun i => W.length - i) 0 (by simp [go_sem, inW_zero]) rfl (by simp) ?_
        rintro i hi
        refine awp_reg_seq fun K hK => ?_
        simp [go_sem, c0, d0, c1, d1, c2, d2]
        repeat refine ⟨by omega, ?_⟩
        refine hK _ ?_; clear hK K
        refine awp_seq ?_
        refine awp_forget [0, 4, 5, 7, 9, 33, 34, 35, 36] (by simp only [restr, List.contains_cons, List.contains_nil, Nat.reduceBEq, Bool.or_false, Bool.or_true, Bool.true_or, Bool.false_or, if_true, if_false, Bool.false_eq_true]; rfl) ?_
        refine awp_cond rfl (fun c3 => ?_) (fun c3 => ?_)
        · have d3 := c3; try simp at d3
          have hs := inW_succ W x1 (i := i) (by omega)
          refine awp_skip ?_
          refine awp_seq ?_
          refine awp_block ?_
          refine awp_reg_seq fun K hK => ?_
          simp [go_sem, c0, d0, c1, d1, c2, d2, c3, d3, hs]
          repeat refine ⟨by omega, ?_⟩
          refine hK _ ?_; clear hK K
          refine awp_seq ?_
          refine awp_draw_seq 30 T.mixed (by kernel_rfl) fun K hK => ?_
          simp [go_sem, c0, d0, c1, d1, c2, d2, c3, d3, hs]
          try simp (disch := omega) only [wrapI]
          repeat refine ⟨by omega, ?_⟩
          refine hK _ ?_; clear hK K
          refine awp_forget [0, 4, 5, 7, 9, 11, 33, 34, 35, 69] (by simp only [restr, List.contains_cons, List.contains_nil, Nat.reduceBEq, Bool.or_false, Bool.or_true, Bool.true_or, Bool.false_or, if_true, if_false, Bool.false_eq_true]; rfl) ?_
          refine awp_cond rfl (fun c4 => ?_) (fun c4 => ?_)
          · have d4 := c4; try simp at d4
            refine awp_reg_seq fun K hK => ?_
            simp [go_sem, c0, d0, c1, d1, c2, d2, c3, d3, hs, c4, d4]
            repeat refine ⟨by omega, ?_⟩
            refine hK _ ?_; clear hK K
            refine awp_ret ?_
            exfalso
            have hg := good_nth hG (i := i) (by omega)
            rcases d4 with ((h | h) | h) | ⟨h, h'⟩
            · omega
            · omega
            · omega
            · have := hg.2.2.2 h; omega
          · have d4 := c4; try simp at d4
            refine awp_skip ?_
            refine awp_reg_end fun K hK => ?_
            simp [go_sem, c0, d0, c1, d1, c2, d2, c3, d3, hs, c4, d4]
            repeat refine ⟨by omega, ?_⟩
            refine hK _ ?_; clear hK K
            refine awp_reg_end fun K hK => ?_
            simp [go_sem, c0, d0, c1, d1, c2, d2, c3, d3, hs, c4, d4]
            try simp (disch := omega) only [wrapI]
            repeat refine ⟨by omega, ?_⟩
            refine hK _ ?_; clear hK K
            refine ⟨i + 1, back_of' (by simp) (.refl _) (by (simp [go_sem, wrap_succ (i := i) (by omega), c0, d0, c1, d1, c2, d2, c3, d3, hs, c4, d4] <;> omega)), by omega, by first | omega | (dsimp only; omega)⟩
        · have d3 := c3; try simp at d3
          have he : i = W.length := by omega
          subst he
          have hb : inW W W.length x1 = (closedR n g x0 m x1).2 := Bool.eq_iff_iff.2 ((inW_all W x1).trans hc.symm)
          refine awp_exit ?_
          apply awp_own_seq 13 11 12 T.mixed (by kernel_rfl)
          · intro τ K hK
            simp [go_sem, c0, d0, c1, d1, c2, d2, c3, d3, hb]
            repeat refine ⟨by omega, ?_⟩
            refine CSg.mk (cloneRule_cs _ c n g (by omega)) ?_
            simp [go_sem, c0, d0, c1, d1, c2, d2, c3, d3, hb]
            repeat refine ⟨by omega, ?_⟩
            refine CSg.mk (closure_Closed_cs _ none n g x0 m x1 (by omega)) ?_
            simp [go_sem, c0, d0, c1, d1, c2, d2, c3, d3, hb]
            repeat refine ⟨by omega, ?_⟩
            exact hK _ _
          intro K hK
          simp [go_sem, c0, d0, c1, d1, c2, d2, c3, d3, hb]
          repeat refine ⟨by omega, ?_⟩
          refine hK _ ?_; clear hK K
          refine awp_reg_seq fun K hK => ?_
          simp [go_sem, c0, d0, c1, d1, c2, d2, c3, d3, hb]
          repeat refine ⟨by omega, ?_⟩
          refine hK _ ?_; clear hK K
          refine awp_ret ?_
          have hk := closed_until (n := n) (g := g) (k := x0) (m := m) (d := x1)
          cases hb2 : (closedR n g x0 m x1).2
          · simp [go_sem, Try.results6, hb2]
          · simp [go_sem, Try.results6, hb2, hk hb2]

end Go.Proofs.Ytplpklikapkloaa
