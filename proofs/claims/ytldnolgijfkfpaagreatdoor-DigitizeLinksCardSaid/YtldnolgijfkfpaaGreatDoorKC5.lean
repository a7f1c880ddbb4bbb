/- Contracts and lemmas (Co), joined out of smaller texts by a program; no conditions. -/
import Derived.Test.YtldnolgijfkfpaaGreatDoorKC4
/-! Co -/
namespace Go.Proofs.YtldnolgijfkfpaaGreatDoor
open Go.Abs
set_option linter.unusedVariables false
set_option linter.unusedSimpArgs false
set_option maxRecDepth 100000
set_option maxHeartbeats 1000000
theorem ways_out {n bad s a : Int} (h : (n < 1 ∨ 60 < n) ∨ bad < 0 ∨ n < bad ∨ s < 1 ∨ n < s ∨ a < 0 ∨ s < a) : waysP n bad s a = ((0, 0), 2) := by
  unfold waysP
  rw [if_pos]
  cases hb : (inB n 1 60 && inB bad 0 n && inB s 1 n && inB a 0 s) with
  | false => rfl
  | true => simp only [inB, Bool.and_eq_true, decide_eq_true_eq] at hb; omega
theorem ways_in {m b t q : Nat} (h1 : 1 ≤ m + b) (h2 : m + b ≤ 60) (h3 : 1 ≤ t) (h4 : t ≤ m + b) (h5 : q ≤ t) : waysP ((m + b : Nat) : Int) b t q = ((((sumW m b t (q + 1) : Nat) : Int), ((bc (m + b) t : Nat) : Int)), 0) := by
  unfold waysP
  rw [if_neg]
  · rw [show (((m + b : Nat) : Int) - (b : Int)) = (m : Int) by omega]; simp only [Int.toNat_natCast]
  · simp only [inB]
    intro hf
    have : (decide ((1 : Int) ≤ ((m + b : Nat) : Int)) && decide (((m + b : Nat) : Int) ≤ 60) && (decide ((0 : Int) ≤ (b : Int)) && decide ((b : Int) ≤ ((m + b : Nat) : Int))) && (decide ((1 : Int) ≤ (t : Int)) && decide ((t : Int) ≤ ((m + b : Nat) : Int))) && (decide ((0 : Int) ≤ (q : Int)) && decide ((q : Int) ≤ (t : Int)))) = true := by
      simp only [Bool.and_eq_true, decide_eq_true_eq]; omega
    rw [this] at hf; cases hf
theorem ways_ok {n bad s a : Int} (h : (waysP n bad s a).2 = 0) : ∃ m b t q : Nat, n = ((m + b : Nat) : Int) ∧ bad = b ∧ s = t ∧ a = q ∧ 1 ≤ m + b ∧ m + b ≤ 60 ∧ 1 ≤ t ∧ t ≤ m + b ∧ q ≤ t := by
  by_cases hc : (n < 1 ∨ 60 < n) ∨ bad < 0 ∨ n < bad ∨ s < 1 ∨ n < s ∨ a < 0 ∨ s < a
  · rw [ways_out hc] at h; cases h
  · exact ⟨(n - bad).toNat, bad.toNat, s.toNat, a.toNat, by omega, by omega, by omega, by omega, by omega, by omega, by omega, by omega, by omega⟩
theorem ways_err {n bad s a : Int} (h : (waysP n bad s a).2 ≠ 0) : waysP n bad s a = ((0, 0), 2) := by
  by_cases hc : (n < 1 ∨ 60 < n) ∨ bad < 0 ∨ n < bad ∨ s < 1 ∨ n < s ∨ a < 0 ∨ s < a
  · exact ways_out hc
  · exfalso; apply h
    have := ways_in (m := (n - bad).toNat) (b := bad.toNat) (t := s.toNat) (q := a.toNat) (by omega) (by omega) (by omega) (by omega) (by omega)
    rw [show (((n - bad).toNat + bad.toNat : Nat) : Int) = n by omega, show ((bad.toNat : Nat) : Int) = bad by omega, show ((s.toNat : Nat) : Int) = s by omega, show ((a.toNat : Nat) : Int) = a by omega] at this
    rw [this]
theorem odds {n bad s a : Int} (h : (waysP n bad s a).2 = 0) :
    (0 ≤ (waysP n bad s a).1.1 ∧ (waysP n bad s a).1.1 ≤ (waysP n bad s a).1.2 ∧ 1 ≤ (waysP n bad s a).1.2) ∧
    ((waysP n (bad + 1) s a).2 = 0 → (waysP n (bad + 1) s a).1.1 ≤ (waysP n bad s a).1.1 ∧ (waysP n (bad + 1) s a).1.2 = (waysP n bad s a).1.2) ∧
    ((waysP n bad s (a + 1)).2 = 0 → (waysP n bad s a).1.1 ≤ (waysP n bad s (a + 1)).1.1) ∧
    waysP n bad s s = (((waysP n bad s a).1.2, (waysP n bad s a).1.2), 0) ∧
    (a < bad ∨ (waysP n bad s a).1.1 = (waysP n bad s a).1.2) ∧ IntKind.i64.wrap (bad + 1) = bad + 1 ∧ IntKind.i64.wrap (a + 1) = a + 1 := by
  obtain ⟨m, b, t, q, rfl, rfl, rfl, rfl, h1, h2, h3, h4, h5⟩ := ways_ok h
  rw [ways_in h1 h2 h3 h4 h5]
  have hle := sumW_le t b m q h5
  have hpos := bc_pos h4
  refine ⟨⟨?_, ?_, ?_⟩, ?_, ?_, ?_, ?_, wrapI (by omega) (by omega), wrapI (by omega) (by omega)⟩
  · dsimp only; omega
  · dsimp only; omega
  · dsimp only; omega
  · intro hk
    obtain ⟨m', b', t', q', e1, e2, e3, e4, g1, g2, g3, g4, g5⟩ := ways_ok hk
    obtain rfl : t' = t := by omega
    obtain rfl : q' = q := by omega
    obtain rfl : b' = b + 1 := by omega
    obtain rfl : m = m' + 1 := by omega
    rw [show ((m' + 1 + b : Nat) : Int) = ((m' + (b + 1) : Nat) : Int) by omega, show ((b : Int) + 1) = ((b + 1 : Nat) : Int) by omega, ways_in g1 g2 g3 g4 g5]
    have := sumW_mono m' b t' q' g5
    dsimp only
    exact ⟨by omega, by rw [show m' + 1 + b = m' + (b + 1) by omega]⟩
  · intro hk
    obtain ⟨m', b', t', q', e1, e2, e3, e4, g1, g2, g3, g4, g5⟩ := ways_ok hk
    obtain rfl : t' = t := by omega
    obtain rfl : q' = q + 1 := by omega
    obtain rfl : b' = b := by omega
    obtain rfl : m' = m := by omega
    rw [show ((q : Int) + 1) = ((q + 1 : Nat) : Int) by omega, ways_in g1 g2 g3 g4 g5]
    have := sumW_up m' b' t' (c := q + 1) (d := q + 1 + 1) (by omega)
    dsimp only; omega
  · rw [ways_in h1 h2 h3 h4 (Nat.le_refl _), sumW_all]
  · by_cases hab : (q : Int) < b
    · exact .inl hab
    · right
      dsimp only
      rw [← sumW_all t b m, sumW_few m b t (c := q + 1) (d := t + 1) (by omega) (by omega)]
theorem ref44_Ways_cs (σ : List Blk) (n bad s a : Int) : CSF Tryz.prog 21 [.d (I n), .d (I bad), .d (I s), .d (I a)] σ (.tup [.d (I (waysP n bad s a).1.1), .d (I (waysP n bad s a).1.2), .d (I (waysP n bad s a).2)]) := by
  refine CSF.of_body T.en21 Tryz.func21 rfl (by simp [Tryz.ntmps21]) (by simp [go_sem]) fun hwf => ?_
  refine awp_reg_seq fun K hK => ?_
  simp [go_sem, Tryz.ntmps21]
  repeat refine ⟨by omega, ?_⟩
  refine hK _ ?_; clear hK K
  refine awp_seq ?_
  refine awp_reg_seq fun K hK => ?_
  simp [go_sem]
  repeat refine ⟨by omega, ?_⟩
  refine hK _ ?_; clear hK K
  refine awp_forget [0, 1, 2, 3, 45] (by simp only [restr, List.contains_cons, List.contains_nil, Nat.reduceBEq, Bool.or_false, Bool.or_true, Bool.true_or, Bool.false_or, if_true, if_false, Bool.false_eq_true]; rfl) ?_
  refine awp_cond rfl (fun c0 => ?_) (fun c0 => ?_)
  · have d0 := c0; try simp at d0
    have hz : waysP n bad s a = ((0, 0), 2) := ways_out (by omega)
    refine awp_reg_seq fun K hK => ?_
    simp [go_sem, c0, d0]
    repeat refine ⟨by omega, ?_⟩
    refine hK _ ?_; clear hK K
    refine awp_ret ?_
    rw [hz]; simp [go_sem, Tryz.results21]
  · have d0 := c0; try simp at d0
    have hb : (1 ≤ n ∧ n ≤ 60) ∧ (0 ≤ bad ∧ bad ≤ n) ∧ (1 ≤ s ∧ s ≤ n) ∧ 0 ≤ a ∧ a ≤ s := by omega
    clear c0 d0
    have c0 : True := trivial
    have d0 : True := trivial
    obtain ⟨m, hm⟩ : ∃ m : Nat, n - bad = m := ⟨(n - bad).toNat, by omega⟩
    obtain ⟨b, rfl⟩ : ∃ b : Nat, bad = b := ⟨bad.toNat, by omega⟩
    obtain ⟨t, rfl⟩ : ∃ t : Nat, s = t := ⟨s.toNat, by omega⟩
    obtain ⟨q, rfl⟩ : ∃ q : Nat, a = q := ⟨a.toNat, by omega⟩
    obtain rfl : n = ((m + b : Nat) : Int) := by omega
    have hz := ways_in (m := m) (b := b) (t := t) (q := q) (by omega) (by omega) (by omega) (by omega) (by omega)
    refine awp_skip ?_
    refine awp_reg_seq fun K hK => ?_
    simp [go_sem, c0, d0]
    repeat refine ⟨by omega, ?_⟩
    refine hK _ ?_; clear hK K
    refine awp_seq ?_
    refine awp_reg_seq fun K hK => ?_
    simp [go_sem, c0, d0]
    repeat refine ⟨by omega, ?_⟩
    refine hK _ ?_; clear hK K
    refine awp_block ?_
    refine awp_forget [0, 1, 2, 3, 11, 12] (by simp [go_sem, restr]; rfl) ?_
    refine awp_loopU (α := Nat) (fun c => [(12, .d (I c)), (11, .d (I ((sumW m b t c : Nat) : Int)))]) (fun c => _) (fun c => c ≤ q + 1) (fun c => q + 1 - c) 0 (by simp [go_sem, sumW]) (rfl) (by simp) ?_
    rintro c hc
    refine awp_seq ?_
    refine awp_reg_seq fun K hK => ?_
    simp [go_sem, c0, d0]
    repeat refine ⟨by omega, ?_⟩
    refine hK _ ?_; clear hK K
    refine awp_forget [0, 1, 2, 3, 11, 12, 48] (by simp only [restr, List.contains_cons, List.contains_nil, Nat.reduceBEq, Bool.or_false, Bool.or_true, Bool.true_or, Bool.false_or, if_true, if_false, Bool.false_eq_true]; rfl) ?_
    refine awp_cond rfl (fun c1 => ?_) (fun c1 => ?_)
    · have d1 := c1; try simp at d1
      have hc5 : c < q + 1 := by omega
      have hle1 := sumW_le t b m c (by omega)
      have hle2 := bc_60 (n := m + b) (by omega) t
      have hsu : sumW m b t (c + 1) = sumW m b t c + bc b c * bc m (t - c) := rfl
      have hmb : IntKind.i64.wrap ((m : Int) + (b : Int) - (b : Int)) = (m : Int) := by rw [wrapI (by omega) (by omega)]; omega
      have htc : IntKind.i64.wrap ((t : Int) - (c : Int)) = ((t - c : Nat) : Int) := by rw [wrapI (by omega) (by omega)]; omega
      have hp1 : IntKind.i64.wrap (((bc b c : Nat) : Int) * ((bc m (t - c) : Nat) : Int)) = ((bc b c * bc m (t - c) : Nat) : Int) := by
        rw [← Int.natCast_mul]; exact wrapI (by omega) (by omega)
      have hp2 : IntKind.i64.wrap (((sumW m b t c : Nat) : Int) + ((bc b c * bc m (t - c) : Nat) : Int)) = ((sumW m b t (c + 1) : Nat) : Int) := by
        rw [← Int.natCast_add, ← hsu]; exact wrapI (by omega) (by omega)
      have hch1 := chP_nat (n := b) (k := c)
      have hch2 := chP_nat (n := m) (k := t - c)
      refine awp_skip ?_
      refine awp_seq ?_
      refine awp_block ?_
      refine awp_reg_end fun K hK => ?_
      simp [go_sem, c0, d0, c1, d1, hc5, hmb, htc, hp1, hp2, hch1, hch2]
      try simp (disch := omega) only [wrapI]
      repeat refine ⟨by omega, ?_⟩
      refine CSk.mk (ref44_choose_cs _ b (c : Int) (by omega)) ?_
      simp [go_sem, c0, d0, c1, d1, hc5, hmb, htc, hp1, hp2, hch1, hch2]
      try simp (disch := omega) only [wrapI]
      repeat refine ⟨by omega, ?_⟩
      refine CSk.mk (ref44_choose_cs _ m ((t - c : Nat) : Int) (by omega)) ?_
      simp [go_sem, c0, d0, c1, d1, hc5, hmb, htc, hp1, hp2, hch1, hch2]
      try simp (disch := omega) only [wrapI]
      repeat refine ⟨by omega, ?_⟩
      refine hK _ ?_; clear hK K
      refine awp_reg_end fun K hK => ?_
      simp [go_sem, c0, d0, c1, d1, hc5, hmb, htc, hp1, hp2, hch1, hch2]
      try simp (disch := omega) only [wrapI]
      repeat refine ⟨by omega, ?_⟩
      refine hK _ ?_; clear hK K
      refine ⟨c + 1, back_of' (by simp) (.refl _) (by (simp [go_sem, wrap_succ (i := c) (by omega), c0, d0, c1, d1, hc5, hmb, htc, hp1, hp2, hch1, hch2] <;> omega)), by omega, by first | omega | (dsimp only; omega)⟩
    · have d1 := c1; try simp at d1
      obtain rfl : c = q + 1 := by omega
      have hch3 := chP_nat (n := m + b) (k := t)
      refine awp_exit ?_
      refine awp_reg_seq fun K hK => ?_
      simp [go_sem, c0, d0, c1, d1, hch3]
      repeat refine ⟨by omega, ?_⟩
      refine CSk.mk (ref44_choose_cs _ (m + b) (t : Int) (by omega)) ?_
      simp [go_sem, c0, d0, c1, d1, hch3]
      repeat refine ⟨by omega, ?_⟩
      refine hK _ ?_; clear hK K
      refine awp_ret ?_
      rw [hz]; simp [go_sem, Tryz.results21]
theorem law44_DigitizeWays_cs (σ : List Blk) (n bad s a : Int) (hσ : σ[0]? = some (.tab 0 powV)) : CSF Tryz.prog 4 [.d (I n), .d (I bad), .agg [.d (I s), .d (I a)]] σ (.d (B true)) := by
  refine CSF.of_body T.en4 Tryz.func4 rfl (by simp [Tryz.ntmps4]) (by simp [go_sem]) fun hwf => ?_
  refine awp_reg_seq fun K hK => ?_
  simp [go_sem, Tryz.ntmps4]
  repeat refine ⟨by omega, ?_⟩
  refine hK _ ?_; clear hK K
  refine awp_seq ?_
  refine awp_reg_seq fun K hK => ?_
  simp [go_sem]
  repeat refine ⟨by omega, ?_⟩
  refine CSk.mk (law44_awake_cs _ (loc_app hσ)) ?_
  simp [go_sem]
  repeat refine ⟨by omega, ?_⟩
  refine hK _ ?_; clear hK K
  refine awp_forget [0, 1, 5, 14] (by simp only [restr, List.contains_cons, List.contains_nil, Nat.reduceBEq, Bool.or_false, Bool.or_true, Bool.true_or, Bool.false_or, if_true, if_false, Bool.false_eq_true]; rfl) ?_
  refine awp_cond rfl (fun c0 => ?_) (fun c0 => ?_)
  · have d0 := c0; try simp at d0
  · have d0 := c0; try simp at d0
    refine awp_skip ?_
    refine awp_reg_seq fun K hK => ?_
    simp [go_sem, c0, d0]
    repeat refine ⟨by omega, ?_⟩
    refine CSk.mk (digitize_Ways_cs _ n bad s a) ?_
    simp [go_sem, c0, d0]
    repeat refine ⟨by omega, ?_⟩
    refine hK _ ?_; clear hK K
    refine awp_reg_seq fun K hK => ?_
    simp [go_sem, c0, d0]
    repeat refine ⟨by omega, ?_⟩
    refine CSk.mk (ref44_Ways_cs _ n bad s a) ?_
    simp [go_sem, c0, d0]
    repeat refine ⟨by omega, ?_⟩
    refine hK _ ?_; clear hK K
    refine awp_reg_seq fun K hK => ?_
    simp [go_sem, c0, d0]
    repeat refine ⟨by omega, ?_⟩
    refine hK _ ?_; clear hK K
    refine awp_ret ?_
    simp [go_sem, Tryz.results4, c0, d0] <;> omega
theorem law44_DigitizeOdds_cs (σ : List Blk) (n bad s a : Int) (hσ : σ[0]? = some (.tab 0 powV)) : CSF Tryz.prog 6 [.d (I n), .d (I bad), .agg [.d (I s), .d (I a)]] σ (.d (B true)) := by
  refine CSF.of_body T.en6 Tryz.func6 rfl (by simp [Tryz.ntmps6]) (by simp [go_sem]) fun hwf => ?_
  refine awp_reg_seq fun K hK => ?_
  simp [go_sem, Tryz.ntmps6]
  repeat refine ⟨by omega, ?_⟩
  refine hK _ ?_; clear hK K
  refine awp_seq ?_
  refine awp_reg_seq fun K hK => ?_
  simp [go_sem]
  repeat refine ⟨by omega, ?_⟩
  refine CSk.mk (law44_awake_cs _ (loc_app hσ)) ?_
  simp [go_sem]
  repeat refine ⟨by omega, ?_⟩
  refine hK _ ?_; clear hK K
  refine awp_forget [0, 1, 5, 22] (by simp only [restr, List.contains_cons, List.contains_nil, Nat.reduceBEq, Bool.or_false, Bool.or_true, Bool.true_or, Bool.false_or, if_true, if_false, Bool.false_eq_true]; rfl) ?_
  refine awp_cond rfl (fun c0 => ?_) (fun c0 => ?_)
  · have d0 := c0; try simp at d0
  · have d0 := c0; try simp at d0
    refine awp_skip ?_
    refine awp_draw_seq 5 T.mixed (by kernel_rfl) fun K hK => ?_
    simp [go_sem, c0, d0]
    repeat refine ⟨by omega, ?_⟩
    refine hK _ ?_; clear hK K
    refine awp_reg_seq fun K hK => ?_
    simp [go_sem, c0, d0]
    repeat refine ⟨by omega, ?_⟩
    refine CSk.mk (digitize_Ways_cs _ n bad s a) ?_
    simp [go_sem, c0, d0]
    repeat refine ⟨by omega, ?_⟩
    refine hK _ ?_; clear hK K
    refine awp_seq ?_
    refine awp_reg_seq fun K hK => ?_
    simp [go_sem, c0, d0]
    repeat refine ⟨by omega, ?_⟩
    refine hK _ ?_; clear hK K
    refine awp_forget [0, 1, 7, 8, 9, 10, 37] (by simp only [restr, List.contains_cons, List.contains_nil, Nat.reduceBEq, Bool.or_false, Bool.or_true, Bool.true_or, Bool.false_or, if_true, if_false, Bool.false_eq_true]; rfl) ?_
    refine awp_cond rfl (fun c1 => ?_) (fun c1 => ?_)
    · have d1 := c1; try simp at d1
      have hz := ways_err d1
      refine awp_reg_seq fun K hK => ?_
      simp [go_sem, c0, d0, c1, d1, hz]
      repeat refine ⟨by omega, ?_⟩
      refine hK _ ?_; clear hK K
      refine awp_ret ?_
      simp [go_sem, Tryz.results6, c0, d0, c1, d1, hz] <;> omega
    · have d1 := c1; try simp at d1
      have hok : (waysP n bad s a).2 = 0 := by simpa using d1
      obtain ⟨⟨o1, o2, o3⟩, o4, o5, o6, o7, o8, o9⟩ := odds hok
      refine awp_skip ?_
      refine awp_reg_seq fun K hK => ?_
      simp [go_sem, c0, d0, c1, d1, o8, o9]
      try simp (disch := omega) only [wrapI]
      repeat refine ⟨by omega, ?_⟩
      refine CSk.mk (digitize_Ways_cs _ n (bad + 1) s a) ?_
      simp [go_sem, c0, d0, c1, d1, o8, o9]
      try simp (disch := omega) only [wrapI]
      repeat refine ⟨by omega, ?_⟩
      refine hK _ ?_; clear hK K
      refine awp_reg_seq fun K hK => ?_
      simp [go_sem, c0, d0, c1, d1, o8, o9]
      try simp (disch := omega) only [wrapI]
      repeat refine ⟨by omega, ?_⟩
      refine CSk.mk (digitize_Ways_cs _ n bad s (a + 1)) ?_
      simp [go_sem, c0, d0, c1, d1, o8, o9]
      try simp (disch := omega) only [wrapI]
      repeat refine ⟨by omega, ?_⟩
      refine hK _ ?_; clear hK K
      refine awp_seq ?_
      refine awp_reg_seq fun K hK => ?_
      simp [go_sem, c0, d0, c1, d1, o8, o9]
      repeat refine ⟨by omega, ?_⟩
      refine hK _ ?_; clear hK K
      refine awp_forget [0, 1, 7, 8, 9, 10, 97] (by simp only [restr, List.contains_cons, List.contains_nil, Nat.reduceBEq, Bool.or_false, Bool.or_true, Bool.true_or, Bool.false_or, if_true, if_false, Bool.false_eq_true]; rfl) ?_
      refine awp_cond rfl (fun c2 => ?_) (fun c2 => ?_)
      · have d2 := c2; try simp at d2
        exfalso
        omega
      · have d2 := c2; try simp at d2
        refine awp_skip ?_
        refine awp_reg_seq fun K hK => ?_
        simp [go_sem, c0, d0, c1, d1, o8, o9, c2, d2, o6]
        repeat refine ⟨by omega, ?_⟩
        refine CSk.mk (digitize_Ways_cs _ n bad s s) ?_
        simp [go_sem, c0, d0, c1, d1, o8, o9, c2, d2, o6]
        repeat refine ⟨by omega, ?_⟩
        refine hK _ ?_; clear hK K
        refine awp_reg_seq fun K hK => ?_
        simp [go_sem, c0, d0, c1, d1, o8, o9, c2, d2, o6]
        repeat refine ⟨by omega, ?_⟩
        refine hK _ ?_; clear hK K
        refine awp_ret ?_
        simp [go_sem, Tryz.results6, c0, d0, c1, d1, o8, o9, c2, d2, o6] <;> omega
end Go.Proofs.YtldnolgijfkfpaaGreatDoor
