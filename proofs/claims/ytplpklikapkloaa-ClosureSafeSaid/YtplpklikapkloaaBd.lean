/- Contracts of the reference's calendar, written by a program along ref02.spec. -/
import Derived.Test.YtplpklikapkloaaBc
namespace Go.Proofs.Ytplpklikapkloaa
open Go.Abs Go.Arch
set_option linter.unusedVariables false
set_option linter.unusedSimpArgs false
set_option maxRecDepth 100000
set_option maxHeartbeats 400000

theorem guess2_le {d : Int} (h : isDay d) : 1600 ≤ 1600 + d / 366 ∧ beg (1600 + d / 366) ≤ d := by
  obtain ⟨h1, h2⟩ := h
  have hc : d / 366 = 0 ∨ d / 366 = 1 ∨ d / 366 = 2 ∨ 3 ≤ d / 366 := by omega
  unfold beg
  rcases hc with h | h | h | h <;> omega
theorem lenM_same {y y' m : Int} (h : m ≠ 2) : lenM y m = lenM y' m := by unfold lenM; rw [if_neg h, if_neg h]
theorem lenM_two {y : Int} : lenM y 2 = if leapY y = true then 29 else 28 := by unfold lenM; rw [if_pos rfl]
theorem years_feb {d n : Int} (h : isDay d) : min (dayD d) (lenM (yearOf d + n) (monD d)) = if (monD d = 2 ∧ dayD d = 29) ∧ leapY (yearOf d + n) = false then 28 else dayD d := by
  have hs := date_spec h.1 h.2
  by_cases hm : monD d = 2
  · rw [hm, lenM_two]
    rw [hm, lenM_two] at hs
    cases hl : leapY (yearOf d + n) with
    | true => rw [if_pos rfl, if_neg (by simp)]; split at hs <;> omega
    | false =>
      rw [if_neg (by simp)]
      by_cases h29 : dayD d = 29
      · rw [if_pos ⟨⟨rfl, h29⟩, rfl⟩]; omega
      · rw [if_neg (by simp [h29])]; split at hs <;> omega
  · rw [lenM_same (y' := yearOf d) hm, if_neg (by simp [hm])]; omega
theorem years_ref {d n : Int} (h : isDay d) (h0 : 0 ≤ n) (h1 : n ≤ 200) {k : Int} (hk : k = if (monD d = 2 ∧ dayD d = 29) ∧ leapY (yearOf d + n) = false then 28 else dayD d) : yearsF d n = if (ofF (yearOf d + n) (monD d) k).2 = 0 then (ofF (yearOf d + n) (monD d) k).1 else 1048575 := by
  have hs := date_spec h.1 h.2
  have hr := yearOf_range h.1 h.2
  rw [← years_feb h] at hk
  subst hk
  by_cases hy : 4470 < yearOf d + n
  · have hp := lenM_pos (yearOf d + n) (monD d)
    have e1 : ofF (yearOf d + n) (monD d) (min (dayD d) (lenM (yearOf d + n) (monD d))) = (0, 2) := by
      unfold ofF; rw [if_pos]; rw [lenF_out (by omega)]; omega
    rw [e1]; unfold yearsF; simp [hy]
  · have hl : lenF (yearOf d + n) (monD d) = lenM (yearOf d + n) (monD d) := lenF_in (by omega)
    have ho := years_of h h0 (by omega)
    rw [hl] at ho
    rw [ho]; unfold yearsF; rw [if_neg hy]
    dsimp only
    split <;> simp
theorem yearEnd_ref {d : Int} (h : isDay d) : yearEndF d = if (ofF (yearOf d) 12 31).2 = 0 then (ofF (yearOf d) 12 31).1 else 1048575 := by
  have hr := yearOf_range h.1 h.2
  have hl : lenF (yearOf d) 12 = 31 := by rw [lenF_in (by omega)]; simp [lenM]
  rw [ofF_rng (by rw [hl]; omega)]
  have hc := cum_succ (y := yearOf d) (m := 12) (by omega) (by omega)
  have h13 := beg_cum (yearOf d)
  have hl2 : lenM (yearOf d) 12 = 31 := by simp [lenM]
  simp only [Int.reduceAdd] at hc
  unfold yearEndF ofD
  split <;> simp <;> omega


theorem ref02_leap_cs (σ : List Blk) (y : Int) (hy : 0 ≤ y) : CSF Try.prog 53 [.d (I y)] σ (.d (B (leapY y))) := by
  refine CSF.of_body T.en53 Try.func53 rfl (by simp [Try.ntmps53]) (by simp [go_sem]) fun hwf => ?_
  refine awp_reg_seq fun K hK => ?_
  simp [go_sem, Try.ntmps53]
  repeat refine ⟨by omega, ?_⟩
  refine hK _ ?_; clear hK K
  refine awp_reg_seq fun K hK => ?_
  simp [go_sem]
  try simp (disch := omega) only [tmodI]
  repeat refine ⟨by omega, ?_⟩
  refine hK _ ?_; clear hK K
  refine awp_ret ?_
  simp [go_sem, Try.results53, leap_or, Int.tmod_eq_emod_of_nonneg hy] <;> omega

theorem ref02_Good_cs (σ : List Blk) (d : Int) : CSF Try.prog 51 [.d (I d)] σ (.d (B (decide (isDay d)))) := by
  refine CSF.of_body T.en51 Try.func51 rfl (by simp [Try.ntmps51]) (by simp [go_sem]) fun hwf => ?_
  refine awp_reg_seq fun K hK => ?_
  simp [go_sem, Try.ntmps51]
  repeat refine ⟨by omega, ?_⟩
  refine hK _ ?_; clear hK K
  refine awp_reg_seq fun K hK => ?_
  simp [go_sem]
  repeat refine ⟨by omega, ?_⟩
  refine hK _ ?_; clear hK K
  refine awp_ret ?_
  simp [go_sem, Try.results51, isDay_dec] <;> omega

theorem ref02_before_cs (σ : List Blk) (y : Int) (h1 : 1600 ≤ y) (h2 : y ≤ 4700) : CSF Try.prog 60 [.d (I y)] σ (.d (I (beg y))) := by
  refine CSF.of_body T.en60 Try.func60 rfl (by simp [Try.ntmps60]) (by simp [go_sem]) fun hwf => ?_
  refine awp_reg_seq fun K hK => ?_
  simp [go_sem, Try.ntmps60]
  repeat refine ⟨by omega, ?_⟩
  refine hK _ ?_; clear hK K
  refine awp_reg_seq fun K hK => ?_
  simp [go_sem]
  try simp (disch := omega) only [wrapI]
  repeat refine ⟨by omega, ?_⟩
  refine hK _ ?_; clear hK K
  refine awp_seq ?_
  refine awp_reg_seq fun K hK => ?_
  simp [go_sem]
  repeat refine ⟨by omega, ?_⟩
  refine hK _ ?_; clear hK K
  refine awp_forget [3, 7] (by simp only [restr, List.contains_cons, List.contains_nil, Nat.reduceBEq, Bool.or_false, Bool.or_true, Bool.true_or, Bool.false_or, if_true, if_false, Bool.false_eq_true]; rfl) ?_
  refine awp_cond rfl (fun c0 => ?_) (fun c0 => ?_)
  · have d0 := c0; try simp at d0
    obtain rfl : y = 1600 := by omega
    refine awp_reg_seq fun K hK => ?_
    simp [go_sem, c0, d0]
    repeat refine ⟨by omega, ?_⟩
    refine hK _ ?_; clear hK K
    refine awp_ret ?_
    rw [beg_1600]; simp [go_sem, Try.results60]
  · have d0 := c0; try simp at d0
    refine awp_skip ?_
    refine awp_reg_seq fun K hK => ?_
    simp [go_sem, c0, d0]
    try simp (disch := omega) only [tdivI, wrapI]
    repeat refine ⟨by omega, ?_⟩
    refine hK _ ?_; clear hK K
    refine awp_ret ?_
    simp [go_sem, Try.results60]; rw [← before_eq (y := y) (by omega)]

theorem ref02_Length_cs (σ : List Blk) (y m : Int) : CSF Try.prog 61 [.d (I y), .d (I m)] σ (.d (I (lenF y m))) := by
  refine CSF.of_body T.en61 Try.func61 rfl (by simp [Try.ntmps61]) (by simp [go_sem]) fun hwf => ?_
  refine awp_reg_seq fun K hK => ?_
  simp [go_sem, Try.ntmps61]
  repeat refine ⟨by omega, ?_⟩
  refine hK _ ?_; clear hK K
  refine awp_seq ?_
  refine awp_reg_seq fun K hK => ?_
  simp [go_sem]
  repeat refine ⟨by omega, ?_⟩
  refine hK _ ?_; clear hK K
  refine awp_forget [0, 1, 18] (by simp only [restr, List.contains_cons, List.contains_nil, Nat.reduceBEq, Bool.or_false, Bool.or_true, Bool.true_or, Bool.false_or, if_true, if_false, Bool.false_eq_true]; rfl) ?_
  refine awp_cond rfl (fun c0 => ?_) (fun c0 => ?_)
  · have d0 := c0; try simp at d0
    refine awp_reg_seq fun K hK => ?_
    simp [go_sem, c0, d0]
    repeat refine ⟨by omega, ?_⟩
    refine hK _ ?_; clear hK K
    refine awp_ret ?_
    rw [lenF_out d0]; simp [go_sem, Try.results61]
  · have d0 := c0; try simp at d0
    refine awp_skip ?_
    refine awp_seq ?_
    refine awp_reg_seq fun K hK => ?_
    simp [go_sem, c0, d0]
    repeat refine ⟨by omega, ?_⟩
    refine CSm.mk (ref02_leap_cs _ y (by omega)) ?_
    simp [go_sem, c0, d0]
    repeat refine ⟨by omega, ?_⟩
    refine hK _ ?_; clear hK K
    refine awp_forget [1, 24] (by simp only [restr, List.contains_cons, List.contains_nil, Nat.reduceBEq, Bool.or_false, Bool.or_true, Bool.true_or, Bool.false_or, if_true, if_false, Bool.false_eq_true]; rfl) ?_
    refine awp_cond rfl (fun c1 => ?_) (fun c1 => ?_)
    · have d1 := c1; try simp at d1
      obtain ⟨rfl, d1⟩ := d1
      refine awp_reg_seq fun K hK => ?_
      simp [go_sem, c0, d0, c1, d1]
      repeat refine ⟨by omega, ?_⟩
      refine hK _ ?_; clear hK K
      refine awp_ret ?_
      rw [lenF_in (by omega), lenM_feb d1]; simp [go_sem, Try.results61]
    · have d1 := c1; try simp at d1
      refine awp_skip ?_
      refine awp_reg_seq fun K hK => ?_
      simp [go_sem, c0, d0, c1, d1]
      try simp (disch := omega) only [wrapI]
      have hL := lenM_arr (y := y) (m := m) (by omega) (by omega) d1
      simp [go_sem] at hL
      simp [go_sem, hL]
      repeat refine ⟨by omega, ?_⟩
      refine hK _ ?_; clear hK K
      refine awp_ret ?_
      rw [lenF_in (by omega)]; simp [go_sem, Try.results61]

theorem ref02_Of_cs (σ : List Blk) (y m k : Int) : CSF Try.prog 54 [.d (I y), .d (I m), .d (I k)] σ (.tup [.d (I (ofF y m k).1), .d (I (ofF y m k).2)]) := by
  refine CSF.of_body T.en54 Try.func54 rfl (by simp [Try.ntmps54]) (by simp [go_sem]) fun hwf => ?_
  refine awp_reg_seq fun K hK => ?_
  simp [go_sem, Try.ntmps54, cum_one]
  repeat refine ⟨by omega, ?_⟩
  refine hK _ ?_; clear hK K
  refine awp_seq ?_
  refine awp_reg_seq fun K hK => ?_
  simp [go_sem, cum_one]
  repeat refine ⟨by omega, ?_⟩
  refine CSm.mk (ref02_Length_cs _ _ _) ?_
  simp [go_sem, cum_one]
  repeat refine ⟨by omega, ?_⟩
  refine hK _ ?_; clear hK K
  refine awp_forget [0, 1, 2, 18] (by simp only [restr, List.contains_cons, List.contains_nil, Nat.reduceBEq, Bool.or_false, Bool.or_true, Bool.true_or, Bool.false_or, if_true, if_false, Bool.false_eq_true]; rfl) ?_
  refine awp_cond rfl (fun c0 => ?_) (fun c0 => ?_)
  · have d0 := c0; try simp at d0
    refine awp_reg_seq fun K hK => ?_
    simp [go_sem, cum_one, c0, d0]
    repeat refine ⟨by omega, ?_⟩
    refine hK _ ?_; clear hK K
    refine awp_ret ?_
    have hz : ofF y m k = (0, 2) := by unfold ofF; rw [if_pos (by omega)]
    rw [hz]; simp [go_sem, Try.results54]
  · have d0 := c0; try simp at d0
    obtain ⟨hy, hm1, hm2, hl⟩ := lenF_ne d0.1 d0.2
    have hb := beg_bd hy.1 (by omega)
    have hlm := lenM_le y m
    refine awp_skip ?_
    refine awp_reg_seq fun K hK => ?_
    simp [go_sem, cum_one, c0, d0]
    try simp (disch := omega) only [wrapI]
    repeat refine ⟨by omega, ?_⟩
    refine CSk.mk (ref02_before_cs _ y (by omega) (by omega)) ?_
    simp [go_sem, cum_one, c0, d0]
    try simp (disch := omega) only [wrapI]
    repeat refine ⟨by omega, ?_⟩
    refine hK _ ?_; clear hK K
    refine awp_seq ?_
    refine awp_reg_seq fun K hK => ?_
    simp [go_sem, cum_one, c0, d0]
    repeat refine ⟨by omega, ?_⟩
    refine hK _ ?_; clear hK K
    refine awp_block ?_
    refine awp_forget [0, 1, 8, 9] (by simp [go_sem, restr]; rfl) ?_
    refine awp_loopU (α := Nat) (fun q => [(8, .d (I (beg y + k - 1 + cum y (q + 1)))), (9, .d (I ((q + 1 : Nat) : Int)))]) (fun q => _) (fun q => (q : Int) + 1 ≤ m) (fun q => 12 - q) 0 (by simp [go_sem, cum_one]) rfl (by omega) ?_
    rintro q hq
    have hcb := cum_bd y (m := q + 1) (by omega) (by omega)
    refine awp_seq ?_
    refine awp_reg_seq fun K hK => ?_
    simp [go_sem, cum_one, c0, d0]
    repeat refine ⟨by omega, ?_⟩
    refine hK _ ?_; clear hK K
    refine awp_forget [0, 1, 8, 9, 26] (by simp only [restr, List.contains_cons, List.contains_nil, Nat.reduceBEq, Bool.or_false, Bool.or_true, Bool.true_or, Bool.false_or, if_true, if_false, Bool.false_eq_true]; rfl) ?_
    refine awp_cond rfl (fun c1 => ?_) (fun c1 => ?_)
    · have d1 := c1; try simp at d1
      have hlq : lenF y (q + 1) = lenM y (q + 1) := lenF_in (by omega)
      have hcs := cum_succ (y := y) (m := (q : Int) + 1) (by omega) (by omega)
      have hlb := lenM_le y (q + 1)
      have hlp := lenM_pos y (q + 1)
      refine awp_skip ?_
      refine awp_seq ?_
      refine awp_block ?_
      refine awp_reg_end fun K hK => ?_
      simp [go_sem, cum_one, c0, d0, c1, d1]
      try simp (disch := omega) only [wrapI]
      repeat refine ⟨by omega, ?_⟩
      refine CSk.mk (ref02_Length_cs _ _ _) ?_
      simp [go_sem, cum_one, c0, d0, c1, d1]
      try simp (disch := omega) only [wrapI]
      repeat refine ⟨by omega, ?_⟩
      refine hK _ ?_; clear hK K
      refine awp_reg_end fun K hK => ?_
      simp [go_sem, cum_one, c0, d0, c1, d1]
      try simp (disch := omega) only [wrapI]
      repeat refine ⟨by omega, ?_⟩
      refine hK _ ?_; clear hK K
      refine ⟨q + 1, back_of' (by simp) (.refl _) (by (simp [go_sem, cum_one, c0, d0, c1, d1] <;> omega)), by omega, by omega⟩
    · have d1 := c1; try simp at d1
      obtain rfl : m = q + 1 := by omega
      have ho : ofD y (q + 1) k = beg y + k - 1 + cum y (q + 1) := by unfold ofD; omega
      refine awp_exit ?_
      refine awp_seq ?_
      refine awp_reg_seq fun K hK => ?_
      simp [go_sem, cum_one, c0, d0, c1, d1]
      repeat refine ⟨by omega, ?_⟩
      refine hK _ ?_; clear hK K
      refine awp_forget [8, 35] (by simp only [restr, List.contains_cons, List.contains_nil, Nat.reduceBEq, Bool.or_false, Bool.or_true, Bool.true_or, Bool.false_or, if_true, if_false, Bool.false_eq_true]; rfl) ?_
      refine awp_cond rfl (fun c2 => ?_) (fun c2 => ?_)
      · have d2 := c2; try simp at d2
        refine awp_reg_seq fun K hK => ?_
        simp [go_sem, cum_one, c0, d0, c1, d1, c2, d2]
        repeat refine ⟨by omega, ?_⟩
        refine hK _ ?_; clear hK K
        refine awp_ret ?_
        rw [ofF_rng d0, ho, if_pos (by omega)]; simp [go_sem, Try.results54]
      · have d2 := c2; try simp at d2
        refine awp_skip ?_
        refine awp_reg_seq fun K hK => ?_
        simp [go_sem, cum_one, c0, d0, c1, d1, c2, d2]
        repeat refine ⟨by omega, ?_⟩
        refine hK _ ?_; clear hK K
        refine awp_ret ?_
        rw [ofF_rng d0, ho, if_neg (by omega)]; simp [go_sem, Try.results54]

theorem ref02_Date_cs (σ : List Blk) (d : Int) : CSF Try.prog 52 [.d (I d)] σ (.tup [.d (I (dateF d).1), .d (I (dateF d).2.1), .d (I (dateF d).2.2.1), .d (I (dateF d).2.2.2)]) := by
  refine CSF.of_body T.en52 Try.func52 rfl (by simp [Try.ntmps52]) (by simp [go_sem]) fun hwf => ?_
  refine awp_reg_seq fun K hK => ?_
  simp [go_sem, Try.ntmps52, cum_one]
  repeat refine ⟨by omega, ?_⟩
  refine hK _ ?_; clear hK K
  refine awp_seq ?_
  refine awp_reg_seq fun K hK => ?_
  simp [go_sem, cum_one]
  repeat refine ⟨by omega, ?_⟩
  refine CSk.mk (ref02_Good_cs _ _) ?_
  simp [go_sem, cum_one]
  repeat refine ⟨by omega, ?_⟩
  refine hK _ ?_; clear hK K
  refine awp_forget [0, 10] (by simp only [restr, List.contains_cons, List.contains_nil, Nat.reduceBEq, Bool.or_false, Bool.or_true, Bool.true_or, Bool.false_or, if_true, if_false, Bool.false_eq_true]; rfl) ?_
  refine awp_cond rfl (fun c0 => ?_) (fun c0 => ?_)
  · have d0 := c0; try simp at d0
    refine awp_reg_seq fun K hK => ?_
    simp [go_sem, cum_one, c0, d0]
    repeat refine ⟨by omega, ?_⟩
    refine hK _ ?_; clear hK K
    refine awp_ret ?_
    have hz : dateF d = (0, 0, 0, 2) := by unfold dateF; rw [if_neg d0]
    rw [hz]; simp [go_sem, Try.results52]
  · have d0 := c0; try simp at d0
    have hd : isDay d := d0
    have hgu := guess2_le hd
    have hgt := year_top hd hgu.2
    refine awp_skip ?_
    refine awp_reg_seq fun K hK => ?_
    simp [go_sem, cum_one, c0, d0]
    try simp (disch := omega) only [tdivI, wrapI]
    repeat refine ⟨by omega, ?_⟩
    refine hK _ ?_; clear hK K
    refine awp_seq ?_
    refine awp_block ?_
    refine awp_forget [0, 6] (by simp [go_sem, restr]; rfl) ?_
    refine awp_loopU (α := Int) (fun y => [(6, .d (I y))]) (fun y => _) (fun y => 1600 ≤ y ∧ beg y ≤ d) (fun y => (4471 - y).toNat) (1600 + d / 366) (by simp [go_sem, cum_one]) rfl (hgu) ?_
    rintro y ⟨hy1, hy2⟩
    have hy3 := year_top hd hy2
    refine awp_seq ?_
    refine awp_reg_seq fun K hK => ?_
    simp [go_sem, cum_one, c0, d0]
    try simp (disch := omega) only [wrapI]
    repeat refine ⟨by omega, ?_⟩
    refine CSk.mk (ref02_before_cs _ (y + 1) (by omega) (by omega)) ?_
    simp [go_sem, cum_one, c0, d0]
    try simp (disch := omega) only [wrapI]
    repeat refine ⟨by omega, ?_⟩
    refine hK _ ?_; clear hK K
    refine awp_forget [0, 6, 18] (by simp only [restr, List.contains_cons, List.contains_nil, Nat.reduceBEq, Bool.or_false, Bool.or_true, Bool.true_or, Bool.false_or, if_true, if_false, Bool.false_eq_true]; rfl) ?_
    refine awp_cond rfl (fun c1 => ?_) (fun c1 => ?_)
    · have d1 := c1; try simp at d1
      have hy4 := year_top hd d1
      refine awp_skip ?_
      refine awp_block ?_
      refine awp_reg_end fun K hK => ?_
      simp [go_sem, cum_one, c0, d0, c1, d1]
      try simp (disch := omega) only [wrapI]
      repeat refine ⟨by omega, ?_⟩
      refine hK _ ?_; clear hK K
      refine ⟨y + 1, back_of' (by simp) (.refl _) (by (simp [go_sem, cum_one, c0, d0, c1, d1] <;> omega)), ⟨by omega, d1⟩, by omega⟩
    · have d1 := c1; try simp at d1
      obtain rfl : yearOf d = y := yearOf_eq hd.1 hd.2 hy2 (by omega)
      have hbb := beg_bd hy1 (by omega)
      have hdi := hd
      unfold isDay at hdi
      refine awp_exit ?_
      refine awp_reg_seq fun K hK => ?_
      simp [go_sem, cum_one, c0, d0, c1, d1]
      try simp (disch := omega) only [wrapI]
      repeat refine ⟨by omega, ?_⟩
      refine CSk.mk (ref02_before_cs _ (yearOf d) (by omega) (by omega)) ?_
      simp [go_sem, cum_one, c0, d0, c1, d1]
      try simp (disch := omega) only [wrapI]
      repeat refine ⟨by omega, ?_⟩
      refine hK _ ?_; clear hK K
      refine awp_reg_seq fun K hK => ?_
      simp [go_sem, cum_one, c0, d0, c1, d1]
      repeat refine ⟨by omega, ?_⟩
      refine hK _ ?_; clear hK K
      refine awp_seq ?_
      refine awp_block ?_
      refine awp_forget [0, 6, 7] (by simp [go_sem, restr]; rfl) ?_
      refine awp_loopU (α := Int) (fun m => [(0, .d (I (d - beg (yearOf d) - cum (yearOf d) m))), (7, .d (I m))]) (fun m => _) (fun m => 1 ≤ m ∧ m ≤ 12 ∧ cum (yearOf d) m ≤ d - beg (yearOf d)) (fun m => (12 - m).toNat) 1 (by simp [go_sem, cum_one]) rfl (⟨by omega, by omega, by rw [cum_one]; omega⟩) ?_
      rintro m ⟨hm1, hm2, hm3⟩
      have hlf : lenF (yearOf d) m = lenM (yearOf d) m := lenF_in (by omega)
      have hcs := cum_succ (y := yearOf d) hm1 hm2
      have hlb := lenM_le (yearOf d) m
      have hlp := lenM_pos (yearOf d) m
      have hcb := cum_bd (yearOf d) hm1 (by omega)
      refine awp_seq ?_
      refine awp_reg_seq fun K hK => ?_
      simp [go_sem, cum_one, c0, d0, c1, d1]
      repeat refine ⟨by omega, ?_⟩
      refine CSk.mk (ref02_Length_cs _ _ _) ?_
      simp [go_sem, cum_one, c0, d0, c1, d1]
      repeat refine ⟨by omega, ?_⟩
      refine hK _ ?_; clear hK K
      refine awp_forget [0, 6, 7, 29] (by simp only [restr, List.contains_cons, List.contains_nil, Nat.reduceBEq, Bool.or_false, Bool.or_true, Bool.true_or, Bool.false_or, if_true, if_false, Bool.false_eq_true]; rfl) ?_
      refine awp_cond rfl (fun c2 => ?_) (fun c2 => ?_)
      · have d2 := c2; try simp at d2
        have hm4 : m ≠ 12 := by
          rintro rfl
          have := (yearOf_spec hd.1 hd.2).2
          rw [beg_cum] at this
          simp only [Int.reduceAdd] at hcs
          omega
        refine awp_skip ?_
        refine awp_block ?_
        refine awp_reg_seq fun K hK => ?_
        simp [go_sem, cum_one, c0, d0, c1, d1, c2, d2]
        try simp (disch := omega) only [wrapI]
        repeat refine ⟨by omega, ?_⟩
        refine CSk.mk (ref02_Length_cs _ _ _) ?_
        simp [go_sem, cum_one, c0, d0, c1, d1, c2, d2]
        try simp (disch := omega) only [wrapI]
        repeat refine ⟨by omega, ?_⟩
        refine hK _ ?_; clear hK K
        refine awp_reg_end fun K hK => ?_
        simp [go_sem, cum_one, c0, d0, c1, d1, c2, d2]
        try simp (disch := omega) only [wrapI]
        repeat refine ⟨by omega, ?_⟩
        refine hK _ ?_; clear hK K
        refine ⟨m + 1, back_of' (by simp) (.refl _) (by (simp [go_sem, cum_one, c0, d0, c1, d1, c2, d2] <;> omega)), ⟨by omega, by omega, by omega⟩, by omega⟩
      · have d2 := c2; try simp at d2
        obtain rfl : monD d = m := by
          unfold monD
          have := (yearOf_spec hd.1 hd.2).2
          rw [beg_cum] at this
          have hs := monOf_spec (y := yearOf d) (r := d - beg (yearOf d)) (by omega) (by omega)
          exact month_unique hs.2.2.1 hs.2.2.2 hm3 (by omega)
        refine awp_exit ?_
        refine awp_reg_seq fun K hK => ?_
        simp [go_sem, cum_one, c0, d0, c1, d1, c2, d2]
        try simp (disch := omega) only [wrapI]
        repeat refine ⟨by omega, ?_⟩
        refine hK _ ?_; clear hK K
        refine awp_ret ?_
        have hz : dateF d = (yearOf d, monD d, dayD d, 0) := by unfold dateF; rw [if_pos hd]
        rw [hz]; simp [go_sem, Try.results52, dayD]

theorem ref02_Years_cs (σ : List Blk) (d n : Int) : CSF Try.prog 40 [.d (I d), .d (I n)] σ (.tup [.d (I (yearsR d n).1), .d (I (yearsR d n).2)]) := by
  refine CSF.of_body T.en40 Try.func40 rfl (by simp [Try.ntmps40]) (by simp [go_sem]) fun hwf => ?_
  refine awp_reg_seq fun K hK => ?_
  simp [go_sem, Try.ntmps40]
  repeat refine ⟨by omega, ?_⟩
  refine hK _ ?_; clear hK K
  refine awp_seq ?_
  refine awp_reg_seq fun K hK => ?_
  simp [go_sem]
  repeat refine ⟨by omega, ?_⟩
  refine CSk.mk (ref02_Good_cs _ _) ?_
  simp [go_sem]
  repeat refine ⟨by omega, ?_⟩
  refine hK _ ?_; clear hK K
  refine awp_forget [0, 1, 22] (by simp only [restr, List.contains_cons, List.contains_nil, Nat.reduceBEq, Bool.or_false, Bool.or_true, Bool.true_or, Bool.false_or, if_true, if_false, Bool.false_eq_true]; rfl) ?_
  refine awp_cond rfl (fun c0 => ?_) (fun c0 => ?_)
  · have d0 := c0; try simp at d0
    have hz : yearsR d n = (0, 2) := by
      unfold yearsR
      rw [if_neg]
      rintro ⟨h1, h2, h3⟩
      rcases d0 with (h | h) | h
      · exact h h1
      · omega
      · omega
    refine awp_reg_seq fun K hK => ?_
    simp [go_sem, c0, d0]
    repeat refine ⟨by omega, ?_⟩
    refine hK _ ?_; clear hK K
    refine awp_ret ?_
    rw [hz]; simp [go_sem, Try.results40]
  · have d0 := c0; try simp at d0
    have hd : isDay d := d0.1.1
    have hr := yearOf_range hd.1 hd.2
    have hz : yearsR d n = (yearsF d n, 0) := by unfold yearsR; rw [if_pos ⟨hd, by omega, by omega⟩]
    have hdf := dateF_ok hd
    refine awp_skip ?_
    refine awp_reg_seq fun K hK => ?_
    simp [go_sem, c0, d0, hdf]
    repeat refine ⟨by omega, ?_⟩
    refine CSk.mk (ref02_Date_cs _ _) ?_
    simp [go_sem, c0, d0, hdf]
    repeat refine ⟨by omega, ?_⟩
    refine hK _ ?_; clear hK K
    refine awp_reg_seq fun K hK => ?_
    simp [go_sem, c0, d0, hdf]
    try simp (disch := omega) only [wrapI]
    repeat refine ⟨by omega, ?_⟩
    refine hK _ ?_; clear hK K
    refine awp_seq ?_
    refine awp_reg_seq fun K hK => ?_
    simp [go_sem, c0, d0, hdf]
    repeat refine ⟨by omega, ?_⟩
    refine CSm.mk (ref02_leap_cs _ (yearOf d + n) (by omega)) ?_
    simp [go_sem, c0, d0, hdf]
    repeat refine ⟨by omega, ?_⟩
    refine hK _ ?_; clear hK K
    refine awp_forget [6, 7, 8, 43] (by simp only [restr, List.contains_cons, List.contains_nil, Nat.reduceBEq, Bool.or_false, Bool.or_true, Bool.true_or, Bool.false_or, if_true, if_false, Bool.false_eq_true]; rfl) ?_
    refine awp_cond rfl (fun c1 => ?_) (fun c1 => ?_)
    · have d1 := c1; try simp at d1
      have hy := years_ref hd (n := n) (by omega) (by omega) (k := 28) (by rw [if_pos d1])
      rw [d1.1.1] at hy
      refine awp_reg_end fun K hK => ?_
      simp [go_sem, c0, d0, hdf, c1, d1]
      repeat refine ⟨by omega, ?_⟩
      refine hK _ ?_; clear hK K
      refine awp_reg_seq fun K hK => ?_
      simp [go_sem, c0, d0, hdf, c1, d1]
      repeat refine ⟨by omega, ?_⟩
      refine CSk.mk (ref02_Of_cs _ _ _ _) ?_
      simp [go_sem, c0, d0, hdf, c1, d1]
      repeat refine ⟨by omega, ?_⟩
      refine hK _ ?_; clear hK K
      refine awp_seq ?_
      refine awp_reg_seq fun K hK => ?_
      simp [go_sem, c0, d0, hdf, c1, d1]
      repeat refine ⟨by omega, ?_⟩
      refine hK _ ?_; clear hK K
      refine awp_forget [10, 52] (by simp only [restr, List.contains_cons, List.contains_nil, Nat.reduceBEq, Bool.or_false, Bool.or_true, Bool.true_or, Bool.false_or, if_true, if_false, Bool.false_eq_true]; rfl) ?_
      refine awp_cond rfl (fun c2 => ?_) (fun c2 => ?_)
      · have d2 := c2; try simp at d2
        rw [if_neg d2] at hy
        refine awp_reg_seq fun K hK => ?_
        simp [go_sem, c0, d0, hdf, c1, d1, c2, d2]
        repeat refine ⟨by omega, ?_⟩
        refine hK _ ?_; clear hK K
        refine awp_ret ?_
        rw [hz, hy]; simp [go_sem, Try.results40]
      · have d2 := c2; try simp at d2
        rw [if_pos d2] at hy
        refine awp_skip ?_
        refine awp_reg_seq fun K hK => ?_
        simp [go_sem, c0, d0, hdf, c1, d1, c2, d2]
        repeat refine ⟨by omega, ?_⟩
        refine hK _ ?_; clear hK K
        refine awp_ret ?_
        rw [hz, hy]; simp [go_sem, Try.results40]
    · have d1 := c1; try simp at d1
      have hy := years_ref hd (n := n) (by omega) (by omega) (k := dayD d) (by rw [if_neg]; rintro ⟨⟨h1, h2⟩, h3⟩; exact absurd (d1 h1 h2) (by simp [h3]))
      refine awp_skip ?_
      refine awp_reg_seq fun K hK => ?_
      simp [go_sem, c0, d0, hdf, c1, d1]
      repeat refine ⟨by omega, ?_⟩
      refine CSk.mk (ref02_Of_cs _ _ _ _) ?_
      simp [go_sem, c0, d0, hdf, c1, d1]
      repeat refine ⟨by omega, ?_⟩
      refine hK _ ?_; clear hK K
      refine awp_seq ?_
      refine awp_reg_seq fun K hK => ?_
      simp [go_sem, c0, d0, hdf, c1, d1]
      repeat refine ⟨by omega, ?_⟩
      refine hK _ ?_; clear hK K
      refine awp_forget [10, 52] (by simp only [restr, List.contains_cons, List.contains_nil, Nat.reduceBEq, Bool.or_false, Bool.or_true, Bool.true_or, Bool.false_or, if_true, if_false, Bool.false_eq_true]; rfl) ?_
      refine awp_cond rfl (fun c3 => ?_) (fun c3 => ?_)
      · have d3 := c3; try simp at d3
        rw [if_neg d3] at hy
        refine awp_reg_seq fun K hK => ?_
        simp [go_sem, c0, d0, hdf, c1, d1, c3, d3]
        repeat refine ⟨by omega, ?_⟩
        refine hK _ ?_; clear hK K
        refine awp_ret ?_
        rw [hz, hy]; simp [go_sem, Try.results40]
      · have d3 := c3; try simp at d3
        rw [if_pos d3] at hy
        refine awp_skip ?_
        refine awp_reg_seq fun K hK => ?_
        simp [go_sem, c0, d0, hdf, c1, d1, c3, d3]
        repeat refine ⟨by omega, ?_⟩
        refine hK _ ?_; clear hK K
        refine awp_ret ?_
        rw [hz, hy]; simp [go_sem, Try.results40]

theorem ref02_YearEnd_cs (σ : List Blk) (d : Int) : CSF Try.prog 41 [.d (I d)] σ (.tup [.d (I (yearEndR d).1), .d (I (yearEndR d).2)]) := by
  refine CSF.of_body T.en41 Try.func41 rfl (by simp [Try.ntmps41]) (by simp [go_sem]) fun hwf => ?_
  refine awp_reg_seq fun K hK => ?_
  simp [go_sem, Try.ntmps41]
  repeat refine ⟨by omega, ?_⟩
  refine hK _ ?_; clear hK K
  refine awp_reg_seq fun K hK => ?_
  simp [go_sem]
  repeat refine ⟨by omega, ?_⟩
  refine CSk.mk (ref02_Date_cs _ _) ?_
  simp [go_sem]
  repeat refine ⟨by omega, ?_⟩
  refine hK _ ?_; clear hK K
  refine awp_seq ?_
  refine awp_reg_seq fun K hK => ?_
  simp [go_sem]
  repeat refine ⟨by omega, ?_⟩
  refine hK _ ?_; clear hK K
  refine awp_forget [4, 7, 18] (by simp only [restr, List.contains_cons, List.contains_nil, Nat.reduceBEq, Bool.or_false, Bool.or_true, Bool.true_or, Bool.false_or, if_true, if_false, Bool.false_eq_true]; rfl) ?_
  refine awp_cond rfl (fun c0 => ?_) (fun c0 => ?_)
  · have d0 := c0; try simp at d0
    have hn : ¬ isDay d := fun h => d0 (date_err.2 h)
    have hz : yearEndR d = (0, 2) := by unfold yearEndR; rw [if_neg hn]
    refine awp_reg_seq fun K hK => ?_
    simp [go_sem, c0, d0]
    repeat refine ⟨by omega, ?_⟩
    refine hK _ ?_; clear hK K
    refine awp_ret ?_
    rw [hz]; simp [go_sem, Try.results41, dateF_no hn]
  · have d0 := c0; try simp at d0
    have hd : isDay d := date_err.1 d0
    have hy := yearEnd_ref hd
    have hz : yearEndR d = (yearEndF d, 0) := by unfold yearEndR; rw [if_pos hd]
    simp only [dateF_ok hd] at c0 d0 ⊢
    refine awp_skip ?_
    refine awp_reg_seq fun K hK => ?_
    simp [go_sem, c0, d0]
    repeat refine ⟨by omega, ?_⟩
    refine CSk.mk (ref02_Of_cs _ _ _ _) ?_
    simp [go_sem, c0, d0]
    repeat refine ⟨by omega, ?_⟩
    refine hK _ ?_; clear hK K
    refine awp_seq ?_
    refine awp_reg_seq fun K hK => ?_
    simp [go_sem, c0, d0]
    repeat refine ⟨by omega, ?_⟩
    refine hK _ ?_; clear hK K
    refine awp_forget [8, 26] (by simp only [restr, List.contains_cons, List.contains_nil, Nat.reduceBEq, Bool.or_false, Bool.or_true, Bool.true_or, Bool.false_or, if_true, if_false, Bool.false_eq_true]; rfl) ?_
    refine awp_cond rfl (fun c1 => ?_) (fun c1 => ?_)
    · have d1 := c1; try simp at d1
      rw [if_neg d1] at hy
      refine awp_reg_seq fun K hK => ?_
      simp [go_sem, c0, d0, c1, d1]
      repeat refine ⟨by omega, ?_⟩
      refine hK _ ?_; clear hK K
      refine awp_ret ?_
      rw [hz, hy]; simp [go_sem, Try.results41]
    · have d1 := c1; try simp at d1
      rw [if_pos d1] at hy
      refine awp_skip ?_
      refine awp_reg_seq fun K hK => ?_
      simp [go_sem, c0, d0, c1, d1]
      repeat refine ⟨by omega, ?_⟩
      refine hK _ ?_; clear hK K
      refine awp_ret ?_
      rw [hz, hy]; simp [go_sem, Try.results41]

end Go.Proofs.Ytplpklikapkloaa
