/- Contracts of the calendar, written by a program along day.spec. -/
import Derived.Test.YtplpklikapkloaaBb
import Derived.Test.YtplpklikapkloaaPa
namespace Go.Proofs.Ytplpklikapkloaa
open Go.Abs Go.Arch
set_option linter.unusedVariables false
set_option linter.unusedSimpArgs false
set_option maxRecDepth 100000
set_option maxHeartbeats 400000

theorem lenF_out {y m : Int} (h : ((y < 1600 ∨ 4470 < y) ∨ m < 1) ∨ 12 < m) : lenF y m = 0 := by unfold lenF; rw [if_pos (by omega)]
theorem lenF_in {y m : Int} (h : ((1600 ≤ y ∧ y ≤ 4470) ∧ 1 ≤ m) ∧ m ≤ 12) : lenF y m = lenM y m := by unfold lenF; rw [if_neg (by omega)]
theorem lenM_arr {y m : Int} (h1 : 1 ≤ m) (h2 : m ≤ 12) (h : m = 2 → leapY y = false) : loaded false (((([31, 28, 31, 30, 31, 30, 31, 31, 30, 31, 30, 31] : List Int).map fun n => AV.d (I n)).drop ((m - 1).toNat * 1)).take 1) = .d (I (lenM y m)) := by
  have hc : m = 1 ∨ m = 2 ∨ m = 3 ∨ m = 4 ∨ m = 5 ∨ m = 6 ∨ m = 7 ∨ m = 8 ∨ m = 9 ∨ m = 10 ∨ m = 11 ∨ m = 12 := by omega
  rcases hc with rfl | rfl | rfl | rfl | rfl | rfl | rfl | rfl | rfl | rfl | rfl | rfl <;> first | rfl | (simp [h, lenM]; rfl)
theorem lenM_feb {y : Int} (h : leapY y = true) : lenM y 2 = 29 := by simp [lenM, h]


theorem day_leap_cs (σ : List Blk) (y : Int) (hy : 0 ≤ y) : CSF Try.prog 68 [.d (I y)] σ (.d (B (leapY y))) := by
  refine CSF.of_body T.en68 Try.func68 rfl (by simp [Try.ntmps68]) (by simp [go_sem]) fun hwf => ?_
  refine awp_reg_seq fun K hK => ?_
  simp [go_sem, Try.ntmps68]
  repeat refine ⟨by omega, ?_⟩
  refine hK _ ?_; clear hK K
  refine awp_reg_seq fun K hK => ?_
  simp [go_sem]
  try simp (disch := omega) only [tmodI]
  repeat refine ⟨by omega, ?_⟩
  refine hK _ ?_; clear hK K
  refine awp_ret ?_
  simp [go_sem, Try.results68, leapY, Int.tmod_eq_emod_of_nonneg hy] <;> omega

def isDay (d : Int) : Prop := 0 ≤ d ∧ d ≤ 1048575
instance (d : Int) : Decidable (isDay d) := inferInstanceAs (Decidable (_ ∧ _))
theorem isDay_dec (d : Int) : decide (isDay d) = (decide (0 ≤ d) && decide (d ≤ 1048575)) := by
  unfold isDay; exact Bool.decide_and ..
theorem day_is_cs (σ : List Blk) (d : Int) : CSF Try.prog 67 [.d (I d)] σ (.d (B (decide (isDay d)))) := by
  refine CSF.of_body T.en67 Try.func67 rfl (by simp [Try.ntmps67]) (by simp [go_sem]) fun hwf => ?_
  refine awp_reg_seq fun K hK => ?_
  simp [go_sem, Try.ntmps67]
  repeat refine ⟨by omega, ?_⟩
  refine hK _ ?_; clear hK K
  refine awp_reg_seq fun K hK => ?_
  simp [go_sem]
  repeat refine ⟨by omega, ?_⟩
  refine hK _ ?_; clear hK K
  refine awp_ret ?_
  simp [go_sem, Try.results67, isDay_dec] <;> omega

theorem day_begin_cs (σ : List Blk) (y : Int) (h1 : 1600 ≤ y) (h2 : y ≤ 4700) : CSF Try.prog 59 [.d (I y)] σ (.d (I (beg y))) := by
  refine CSF.of_body T.en59 Try.func59 rfl (by simp [Try.ntmps59]) (by simp [go_sem]) fun hwf => ?_
  refine awp_reg_seq fun K hK => ?_
  simp [go_sem, Try.ntmps59]
  repeat refine ⟨by omega, ?_⟩
  refine hK _ ?_; clear hK K
  refine awp_reg_seq fun K hK => ?_
  simp [go_sem]
  try simp (disch := omega) only [wrapI]
  repeat refine ⟨by omega, ?_⟩
  refine hK _ ?_; clear hK K
  refine awp_reg_seq fun K hK => ?_
  simp [go_sem]
  try simp (disch := omega) only [tdivI, wrapI]
  repeat refine ⟨by omega, ?_⟩
  refine hK _ ?_; clear hK K
  refine awp_ret ?_
  simp [go_sem, Try.results59, beg] <;> omega

theorem day_lengths_cs (σ : List Blk)  : CSF Try.prog 69 [] σ (.agg ([31, 28, 31, 30, 31, 30, 31, 31, 30, 31, 30, 31].map fun n => .d (I n))) := by
  refine CSF.of_body T.en69 Try.func69 rfl (by simp [Try.ntmps69]) (by simp [go_sem]) fun hwf => ?_
  refine awp_reg_seq fun K hK => ?_
  simp [go_sem, Try.ntmps69]
  repeat refine ⟨by omega, ?_⟩
  refine hK _ ?_; clear hK K
  refine awp_reg_seq fun K hK => ?_
  simp [go_sem]
  repeat refine ⟨by omega, ?_⟩
  refine hK _ ?_; clear hK K
  refine awp_ret ?_
  simp [go_sem, Try.results69] <;> omega

theorem day_Length_cs (σ : List Blk) (y m : Int) : CSF Try.prog 58 [.d (I y), .d (I m)] σ (.d (I (lenF y m))) := by
  refine CSF.of_body T.en58 Try.func58 rfl (by simp [Try.ntmps58]) (by simp [go_sem]) fun hwf => ?_
  refine awp_reg_seq fun K hK => ?_
  simp [go_sem, Try.ntmps58]
  repeat refine ⟨by omega, ?_⟩
  refine hK _ ?_; clear hK K
  refine awp_seq ?_
  refine awp_reg_seq fun K hK => ?_
  simp [go_sem]
  repeat refine ⟨by omega, ?_⟩
  refine hK _ ?_; clear hK K
  refine awp_forget [0, 1, 18] (by simp only [restr, List.contains_cons, List.contains_nil, Nat.reduceBEq, Bool.or_false, Bool.or_true, Bool.true_or, Bool.false_or, if_true, if_false, Bool.false_eq_true]; rfl) ?_
  refine awp_cond rfl (fun c0 => ?_) (fun c0 => ?_)
  · have d0 := c0; try simp at d0
    refine awp_reg_seq fun K hK => ?_
    simp [go_sem, c0, d0]
    repeat refine ⟨by omega, ?_⟩
    refine hK _ ?_; clear hK K
    refine awp_ret ?_
    rw [lenF_out d0]; simp [go_sem, Try.results58]
  · have d0 := c0; try simp at d0
    refine awp_skip ?_
    refine awp_seq ?_
    refine awp_reg_seq fun K hK => ?_
    simp [go_sem, c0, d0]
    repeat refine ⟨by omega, ?_⟩
    refine CSm.mk (day_leap_cs _ y (by omega)) ?_
    simp [go_sem, c0, d0]
    repeat refine ⟨by omega, ?_⟩
    refine hK _ ?_; clear hK K
    refine awp_forget [1, 24] (by simp only [restr, List.contains_cons, List.contains_nil, Nat.reduceBEq, Bool.or_false, Bool.or_true, Bool.true_or, Bool.false_or, if_true, if_false, Bool.false_eq_true]; rfl) ?_
    refine awp_cond rfl (fun c1 => ?_) (fun c1 => ?_)
    · have d1 := c1; try simp at d1
      obtain ⟨rfl, d1⟩ := d1
      refine awp_reg_seq fun K hK => ?_
      simp [go_sem, c0, d0, c1, d1]
      repeat refine ⟨by omega, ?_⟩
      refine hK _ ?_; clear hK K
      refine awp_ret ?_
      rw [lenF_in (by omega), lenM_feb d1]; simp [go_sem, Try.results58]
    · have d1 := c1; try simp at d1
      refine awp_skip ?_
      refine awp_reg_seq fun K hK => ?_
      simp [go_sem, c0, d0, c1, d1]
      try simp (disch := omega) only [wrapI]
      repeat refine ⟨by omega, ?_⟩
      refine CSk.mk (day_lengths_cs _ ) ?_
      simp [go_sem, c0, d0, c1, d1]
      try simp (disch := omega) only [wrapI]
      have hL := lenM_arr (y := y) (m := m) (by omega) (by omega) d1
      simp [go_sem] at hL
      simp [go_sem, hL]
      repeat refine ⟨by omega, ?_⟩
      refine hK _ ?_; clear hK K
      refine awp_ret ?_
      rw [lenF_in (by omega)]; simp [go_sem, Try.results58]

def ofF (y m k : Int) : Int × Int := if k < 1 ∨ lenF y m < k then (0, 2) else if 1048575 < ofD y m k then (0, 2) else (ofD y m k, 0)
theorem lenF_ne {y m k : Int} (h1 : 1 ≤ k) (h2 : k ≤ lenF y m) : (1600 ≤ y ∧ y ≤ 4470) ∧ 1 ≤ m ∧ m ≤ 12 ∧ lenF y m = lenM y m := by
  unfold lenF at h2 ⊢
  split at h2
  · omega
  · rename_i h; rw [if_neg h]; exact ⟨by omega, by omega, by omega, rfl⟩
theorem beg_bd {y : Int} (h1 : 1600 ≤ y) (h2 : y ≤ 4700) : 0 ≤ beg y ∧ beg y ≤ 2000000 := by unfold beg; omega
theorem cum_bd (y : Int) {m : Int} (h1 : 1 ≤ m) (h2 : m ≤ 13) : 0 ≤ cum y m ∧ cum y m ≤ 400 := by
  have h3 := cum_mono (y := y) h1
  have h4 := cum_mono (y := y) h2
  rw [cum_one] at h3; rw [cum_end] at h4
  split at h4 <;> omega
theorem ofF_rng {y m k : Int} (h : 1 ≤ k ∧ k ≤ lenF y m) : ofF y m k = if 1048575 < ofD y m k then (0, 2) else (ofD y m k, 0) := by unfold ofF; rw [if_neg (by omega)]
theorem day_Of_cs (σ : List Blk) (y m k : Int) : CSF Try.prog 57 [.d (I y), .d (I m), .d (I k)] σ (.tup [.d (I (ofF y m k).1), .d (I (ofF y m k).2)]) := by
  refine CSF.of_body T.en57 Try.func57 rfl (by simp [Try.ntmps57]) (by simp [go_sem]) fun hwf => ?_
  refine awp_reg_seq fun K hK => ?_
  simp [go_sem, Try.ntmps57, cum_one]
  repeat refine ⟨by omega, ?_⟩
  refine hK _ ?_; clear hK K
  refine awp_seq ?_
  refine awp_reg_seq fun K hK => ?_
  simp [go_sem, cum_one]
  repeat refine ⟨by omega, ?_⟩
  refine CSk.mk (day_Length_cs _ _ _) ?_
  simp [go_sem, cum_one]
  repeat refine ⟨by omega, ?_⟩
  refine hK _ ?_; clear hK K
  refine awp_reg_seq fun K hK => ?_
  simp [go_sem, cum_one]
  repeat refine ⟨by omega, ?_⟩
  refine hK _ ?_; clear hK K
  refine awp_forget [0, 1, 2, 20] (by simp only [restr, List.contains_cons, List.contains_nil, Nat.reduceBEq, Bool.or_false, Bool.or_true, Bool.true_or, Bool.false_or, if_true, if_false, Bool.false_eq_true]; rfl) ?_
  refine awp_cond rfl (fun c0 => ?_) (fun c0 => ?_)
  · have d0 := c0; try simp at d0
    refine awp_reg_seq fun K hK => ?_
    simp [go_sem, cum_one, c0, d0]
    repeat refine ⟨by omega, ?_⟩
    refine hK _ ?_; clear hK K
    refine awp_ret ?_
    have hz : ofF y m k = (0, 2) := by unfold ofF; rw [if_pos (by omega)]
    rw [hz]; simp [go_sem, Try.results57]
  · have d0 := c0; try simp at d0
    obtain ⟨hy, hm1, hm2, hl⟩ := lenF_ne d0.1 d0.2
    have hb := beg_bd hy.1 (by omega)
    have hlm := lenM_le y m
    refine awp_skip ?_
    refine awp_reg_seq fun K hK => ?_
    simp [go_sem, cum_one, c0, d0]
    try simp (disch := omega) only [wrapI]
    repeat refine ⟨by omega, ?_⟩
    refine CSk.mk (day_begin_cs _ y (by omega) (by omega)) ?_
    simp [go_sem, cum_one, c0, d0]
    try simp (disch := omega) only [wrapI]
    repeat refine ⟨by omega, ?_⟩
    refine hK _ ?_; clear hK K
    refine awp_seq ?_
    refine awp_reg_seq fun K hK => ?_
    simp [go_sem, cum_one, c0, d0]
    repeat refine ⟨by omega, ?_⟩
    refine hK _ ?_; clear hK K
    refine awp_block ?_
    refine awp_forget [0, 1, 9, 10] (by simp [go_sem, restr]; rfl) ?_
    refine awp_loopU (α := Nat) (fun q => [(9, .d (I (beg y + k - 1 + cum y (q + 1)))), (10, .d (I ((q + 1 : Nat) : Int)))]) (fun q => _) (fun q => (q : Int) + 1 ≤ m) (fun q => 12 - q) 0 (by simp [go_sem, cum_one]) rfl (by omega) ?_
    rintro q hq
    have hcb := cum_bd y (m := q + 1) (by omega) (by omega)
    refine awp_seq ?_
    refine awp_reg_seq fun K hK => ?_
    simp [go_sem, cum_one, c0, d0]
    repeat refine ⟨by omega, ?_⟩
    refine hK _ ?_; clear hK K
    refine awp_forget [0, 1, 9, 10, 28] (by simp only [restr, List.contains_cons, List.contains_nil, Nat.reduceBEq, Bool.or_false, Bool.or_true, Bool.true_or, Bool.false_or, if_true, if_false, Bool.false_eq_true]; rfl) ?_
    refine awp_cond rfl (fun c1 => ?_) (fun c1 => ?_)
    · have d1 := c1; try simp at d1
      have hlq : lenF y (q + 1) = lenM y (q + 1) := lenF_in (by omega)
      have hcs := cum_succ (y := y) (m := (q : Int) + 1) (by omega) (by omega)
      have hlb := lenM_le y (q + 1)
      have hlp := lenM_pos y (q + 1)
      refine awp_skip ?_
      refine awp_seq ?_
      refine awp_block ?_
      refine awp_reg_end fun K hK => ?_
      simp [go_sem, cum_one, c0, d0, c1, d1]
      try simp (disch := omega) only [wrapI]
      repeat refine ⟨by omega, ?_⟩
      refine CSk.mk (day_Length_cs _ _ _) ?_
      simp [go_sem, cum_one, c0, d0, c1, d1]
      try simp (disch := omega) only [wrapI]
      repeat refine ⟨by omega, ?_⟩
      refine hK _ ?_; clear hK K
      refine awp_reg_end fun K hK => ?_
      simp [go_sem, cum_one, c0, d0, c1, d1]
      try simp (disch := omega) only [wrapI]
      repeat refine ⟨by omega, ?_⟩
      refine hK _ ?_; clear hK K
      refine ⟨q + 1, back_of' (by simp) (.refl _) (by (simp [go_sem, cum_one, c0, d0, c1, d1] <;> omega)), by omega, by omega⟩
    · have d1 := c1; try simp at d1
      obtain rfl : m = q + 1 := by omega
      have ho : ofD y (q + 1) k = beg y + k - 1 + cum y (q + 1) := by unfold ofD; omega
      refine awp_exit ?_
      refine awp_seq ?_
      refine awp_reg_seq fun K hK => ?_
      simp [go_sem, cum_one, c0, d0, c1, d1]
      repeat refine ⟨by omega, ?_⟩
      refine hK _ ?_; clear hK K
      refine awp_forget [9, 37] (by simp only [restr, List.contains_cons, List.contains_nil, Nat.reduceBEq, Bool.or_false, Bool.or_true, Bool.true_or, Bool.false_or, if_true, if_false, Bool.false_eq_true]; rfl) ?_
      refine awp_cond rfl (fun c2 => ?_) (fun c2 => ?_)
      · have d2 := c2; try simp at d2
        refine awp_reg_seq fun K hK => ?_
        simp [go_sem, cum_one, c0, d0, c1, d1, c2, d2]
        repeat refine ⟨by omega, ?_⟩
        refine hK _ ?_; clear hK K
        refine awp_ret ?_
        rw [ofF_rng d0, ho, if_pos (by omega)]; simp [go_sem, Try.results57]
      · have d2 := c2; try simp at d2
        refine awp_skip ?_
        refine awp_reg_seq fun K hK => ?_
        simp [go_sem, cum_one, c0, d0, c1, d1, c2, d2]
        repeat refine ⟨by omega, ?_⟩
        refine hK _ ?_; clear hK K
        refine awp_ret ?_
        rw [ofF_rng d0, ho, if_neg (by omega)]; simp [go_sem, Try.results57]

def dateF (d : Int) : Int × Int × Int × Int := if isDay d then (yearOf d, monD d, dayD d, 0) else (0, 0, 0, 2)
theorem guess_le {d : Int} (h : isDay d) : 1600 ≤ 1600 + 400 * (d / 146097) + d % 146097 / 366 ∧ beg (1600 + 400 * (d / 146097) + d % 146097 / 366) ≤ d := by
  obtain ⟨h1, h2⟩ := h
  have hc : d % 146097 / 366 = 0 ∨ d % 146097 / 366 = 1 ∨ d % 146097 / 366 = 2 ∨ 3 ≤ d % 146097 / 366 := by omega
  unfold beg
  rcases hc with h | h | h | h <;> omega
theorem year_top {d y : Int} (h : isDay d) (hb : beg y ≤ d) : y ≤ 4470 := by
  apply Classical.byContradiction; intro hn
  have := beg_mono (a := 4471) (b := y) (by omega)
  rw [beg_4471] at this; unfold isDay at h; omega
theorem day_Date_cs (σ : List Blk) (d : Int) : CSF Try.prog 56 [.d (I d)] σ (.tup [.d (I (dateF d).1), .d (I (dateF d).2.1), .d (I (dateF d).2.2.1), .d (I (dateF d).2.2.2)]) := by
  refine CSF.of_body T.en56 Try.func56 rfl (by simp [Try.ntmps56]) (by simp [go_sem]) fun hwf => ?_
  refine awp_reg_seq fun K hK => ?_
  simp [go_sem, Try.ntmps56, cum_one]
  repeat refine ⟨by omega, ?_⟩
  refine hK _ ?_; clear hK K
  refine awp_seq ?_
  refine awp_reg_seq fun K hK => ?_
  simp [go_sem, cum_one]
  repeat refine ⟨by omega, ?_⟩
  refine CSk.mk (day_is_cs _ _) ?_
  simp [go_sem, cum_one]
  repeat refine ⟨by omega, ?_⟩
  refine hK _ ?_; clear hK K
  refine awp_forget [0, 8] (by simp only [restr, List.contains_cons, List.contains_nil, Nat.reduceBEq, Bool.or_false, Bool.or_true, Bool.true_or, Bool.false_or, if_true, if_false, Bool.false_eq_true]; rfl) ?_
  refine awp_cond rfl (fun c0 => ?_) (fun c0 => ?_)
  · have d0 := c0; try simp at d0
    refine awp_reg_seq fun K hK => ?_
    simp [go_sem, cum_one, c0, d0]
    repeat refine ⟨by omega, ?_⟩
    refine hK _ ?_; clear hK K
    refine awp_ret ?_
    have hz : dateF d = (0, 0, 0, 2) := by unfold dateF; rw [if_neg d0]
    rw [hz]; simp [go_sem, Try.results56]
  · have d0 := c0; try simp at d0
    have hd : isDay d := d0
    have hgu := guess_le hd
    have hgt := year_top hd hgu.2
    refine awp_skip ?_
    refine awp_reg_seq fun K hK => ?_
    simp [go_sem, cum_one, c0, d0]
    try simp (disch := omega) only [tdivI, tmodI, wrapI]
    repeat refine ⟨by omega, ?_⟩
    refine hK _ ?_; clear hK K
    refine awp_seq ?_
    refine awp_block ?_
    refine awp_forget [0, 2] (by simp [go_sem, restr]; rfl) ?_
    refine awp_loopU (α := Int) (fun y => [(2, .d (I y))]) (fun y => _) (fun y => 1600 ≤ y ∧ beg y ≤ d) (fun y => (4471 - y).toNat) (1600 + 400 * (d / 146097) + d % 146097 / 366) (by simp [go_sem, cum_one]) rfl (hgu) ?_
    rintro y ⟨hy1, hy2⟩
    have hy3 := year_top hd hy2
    refine awp_seq ?_
    refine awp_reg_seq fun K hK => ?_
    simp [go_sem, cum_one, c0, d0]
    try simp (disch := omega) only [wrapI]
    repeat refine ⟨by omega, ?_⟩
    refine CSk.mk (day_begin_cs _ (y + 1) (by omega) (by omega)) ?_
    simp [go_sem, cum_one, c0, d0]
    try simp (disch := omega) only [wrapI]
    repeat refine ⟨by omega, ?_⟩
    refine hK _ ?_; clear hK K
    refine awp_forget [0, 2, 21] (by simp only [restr, List.contains_cons, List.contains_nil, Nat.reduceBEq, Bool.or_false, Bool.or_true, Bool.true_or, Bool.false_or, if_true, if_false, Bool.false_eq_true]; rfl) ?_
    refine awp_cond rfl (fun c1 => ?_) (fun c1 => ?_)
    · have d1 := c1; try simp at d1
      have hy4 := year_top hd d1
      refine awp_skip ?_
      refine awp_block ?_
      refine awp_reg_end fun K hK => ?_
      simp [go_sem, cum_one, c0, d0, c1, d1]
      try simp (disch := omega) only [wrapI]
      repeat refine ⟨by omega, ?_⟩
      refine hK _ ?_; clear hK K
      refine ⟨y + 1, back_of' (by simp) (.refl _) (by (simp [go_sem, cum_one, c0, d0, c1, d1] <;> omega)), ⟨by omega, d1⟩, by omega⟩
    · have d1 := c1; try simp at d1
      obtain rfl : yearOf d = y := yearOf_eq hd.1 hd.2 hy2 (by omega)
      have hbb := beg_bd hy1 (by omega)
      have hdi := hd
      unfold isDay at hdi
      refine awp_exit ?_
      refine awp_reg_seq fun K hK => ?_
      simp [go_sem, cum_one, c0, d0, c1, d1]
      try simp (disch := omega) only [wrapI]
      repeat refine ⟨by omega, ?_⟩
      refine CSk.mk (day_begin_cs _ (yearOf d) (by omega) (by omega)) ?_
      simp [go_sem, cum_one, c0, d0, c1, d1]
      try simp (disch := omega) only [wrapI]
      repeat refine ⟨by omega, ?_⟩
      refine hK _ ?_; clear hK K
      refine awp_seq ?_
      refine awp_reg_seq fun K hK => ?_
      simp [go_sem, cum_one, c0, d0, c1, d1]
      repeat refine ⟨by omega, ?_⟩
      refine hK _ ?_; clear hK K
      refine awp_block ?_
      refine awp_forget [0, 2, 3] (by simp [go_sem, restr]; rfl) ?_
      refine awp_loopU (α := Int) (fun m => [(0, .d (I (d - beg (yearOf d) - cum (yearOf d) m))), (3, .d (I m))]) (fun m => _) (fun m => 1 ≤ m ∧ m ≤ 12 ∧ cum (yearOf d) m ≤ d - beg (yearOf d)) (fun m => (12 - m).toNat) 1 (by simp [go_sem, cum_one]) rfl (⟨by omega, by omega, by rw [cum_one]; omega⟩) ?_
      rintro m ⟨hm1, hm2, hm3⟩
      have hlf : lenF (yearOf d) m = lenM (yearOf d) m := lenF_in (by omega)
      have hcs := cum_succ (y := yearOf d) hm1 hm2
      have hlb := lenM_le (yearOf d) m
      have hlp := lenM_pos (yearOf d) m
      have hcb := cum_bd (yearOf d) hm1 (by omega)
      refine awp_seq ?_
      refine awp_reg_seq fun K hK => ?_
      simp [go_sem, cum_one, c0, d0, c1, d1]
      repeat refine ⟨by omega, ?_⟩
      refine CSk.mk (day_Length_cs _ _ _) ?_
      simp [go_sem, cum_one, c0, d0, c1, d1]
      repeat refine ⟨by omega, ?_⟩
      refine hK _ ?_; clear hK K
      refine awp_forget [0, 2, 3, 32] (by simp only [restr, List.contains_cons, List.contains_nil, Nat.reduceBEq, Bool.or_false, Bool.or_true, Bool.true_or, Bool.false_or, if_true, if_false, Bool.false_eq_true]; rfl) ?_
      refine awp_cond rfl (fun c2 => ?_) (fun c2 => ?_)
      · have d2 := c2; try simp at d2
        have hm4 : m ≠ 12 := by
          rintro rfl
          have := (yearOf_spec hd.1 hd.2).2
          rw [beg_cum] at this
          simp only [Int.reduceAdd] at hcs
          omega
        refine awp_skip ?_
        refine awp_seq ?_
        refine awp_block ?_
        refine awp_reg_end fun K hK => ?_
        simp [go_sem, cum_one, c0, d0, c1, d1, c2, d2]
        try simp (disch := omega) only [wrapI]
        repeat refine ⟨by omega, ?_⟩
        refine CSk.mk (day_Length_cs _ _ _) ?_
        simp [go_sem, cum_one, c0, d0, c1, d1, c2, d2]
        try simp (disch := omega) only [wrapI]
        repeat refine ⟨by omega, ?_⟩
        refine hK _ ?_; clear hK K
        refine awp_reg_end fun K hK => ?_
        simp [go_sem, cum_one, c0, d0, c1, d1, c2, d2]
        try simp (disch := omega) only [wrapI]
        repeat refine ⟨by omega, ?_⟩
        refine hK _ ?_; clear hK K
        refine ⟨m + 1, back_of' (by simp) (.refl _) (by (simp [go_sem, cum_one, c0, d0, c1, d1, c2, d2] <;> omega)), ⟨by omega, by omega, by omega⟩, by omega⟩
      · have d2 := c2; try simp at d2
        obtain rfl : monD d = m := by
          unfold monD
          have := (yearOf_spec hd.1 hd.2).2
          rw [beg_cum] at this
          have hs := monOf_spec (y := yearOf d) (r := d - beg (yearOf d)) (by omega) (by omega)
          exact month_unique hs.2.2.1 hs.2.2.2 hm3 (by omega)
        refine awp_exit ?_
        refine awp_reg_seq fun K hK => ?_
        simp [go_sem, cum_one, c0, d0, c1, d1, c2, d2]
        try simp (disch := omega) only [wrapI]
        repeat refine ⟨by omega, ?_⟩
        refine hK _ ?_; clear hK K
        refine awp_ret ?_
        have hz : dateF d = (yearOf d, monD d, dayD d, 0) := by unfold dateF; rw [if_pos hd]
        rw [hz]; simp [go_sem, Try.results56, dayD]

def yearsR (d n : Int) : Int × Int := if isDay d ∧ 0 ≤ n ∧ n ≤ 200 then (yearsF d n, 0) else (0, 2)
theorem dateF_no {d : Int} (h : ¬ isDay d) : dateF d = (0, 0, 0, 2) := by unfold dateF; rw [if_neg h]
theorem dateF_ok {d : Int} (h : isDay d) : dateF d = (yearOf d, monD d, dayD d, 0) := by unfold dateF; rw [if_pos h]
theorem date_err {d : Int} : (dateF d).2.2.2 = 0 ↔ isDay d := by
  by_cases h : isDay d
  · simp [dateF_ok h, h]
  · simp [dateF_no h, h]
theorem years_of {d n : Int} (h : isDay d) (h0 : 0 ≤ n) (hn : yearOf d + n ≤ 4470) : ofF (yearOf d + n) (monD d) (min (dayD d) (lenF (yearOf d + n) (monD d))) = if 1048575 < ofD (yearOf d + n) (monD d) (min (dayD d) (lenM (yearOf d + n) (monD d))) then (0, 2) else (ofD (yearOf d + n) (monD d) (min (dayD d) (lenM (yearOf d + n) (monD d))), 0) := by
  have hs := date_spec h.1 h.2
  have hr := yearOf_range h.1 h.2
  have hl : lenF (yearOf d + n) (monD d) = lenM (yearOf d + n) (monD d) := lenF_in (by omega)
  have hp := lenM_pos (yearOf d + n) (monD d)
  rw [hl, ofF_rng (by rw [hl]; omega)]
theorem day_Years_cs (σ : List Blk) (d n : Int) : CSF Try.prog 48 [.d (I d), .d (I n)] σ (.tup [.d (I (yearsR d n).1), .d (I (yearsR d n).2)]) := by
  refine CSF.of_body T.en48 Try.func48 rfl (by simp [Try.ntmps48]) (by simp [go_sem]) fun hwf => ?_
  refine awp_reg_seq fun K hK => ?_
  simp [go_sem, Try.ntmps48]
  repeat refine ⟨by omega, ?_⟩
  refine hK _ ?_; clear hK K
  refine awp_reg_seq fun K hK => ?_
  simp [go_sem]
  repeat refine ⟨by omega, ?_⟩
  refine CSk.mk (day_Date_cs _ _) ?_
  simp [go_sem]
  repeat refine ⟨by omega, ?_⟩
  refine hK _ ?_; clear hK K
  refine awp_seq ?_
  refine awp_reg_seq fun K hK => ?_
  simp [go_sem]
  repeat refine ⟨by omega, ?_⟩
  refine hK _ ?_; clear hK K
  refine awp_forget [1, 6, 7, 8, 27] (by simp only [restr, List.contains_cons, List.contains_nil, Nat.reduceBEq, Bool.or_false, Bool.or_true, Bool.true_or, Bool.false_or, if_true, if_false, Bool.false_eq_true]; rfl) ?_
  refine awp_cond rfl (fun c0 => ?_) (fun c0 => ?_)
  · have d0 := c0; try simp at d0
    have hz : yearsR d n = (0, 2) := by
      unfold yearsR
      rw [if_neg]
      rintro ⟨h1, h2, h3⟩
      rw [dateF_ok h1] at d0
      simp at d0; omega
    refine awp_reg_seq fun K hK => ?_
    simp [go_sem, c0, d0]
    repeat refine ⟨by omega, ?_⟩
    refine hK _ ?_; clear hK K
    refine awp_ret ?_
    rw [hz]; simp [go_sem, Try.results48]
  · have d0 := c0; try simp at d0
    have hd : isDay d := date_err.1 d0.1.1
    have hr := yearOf_range hd.1 hd.2
    have hz : yearsR d n = (yearsF d n, 0) := by unfold yearsR; rw [if_pos ⟨hd, by omega, by omega⟩]
    simp only [dateF_ok hd] at c0 d0 ⊢
    refine awp_skip ?_
    refine awp_reg_seq fun K hK => ?_
    simp [go_sem, c0, d0]
    try simp (disch := omega) only [wrapI]
    repeat refine ⟨by omega, ?_⟩
    refine hK _ ?_; clear hK K
    refine awp_seq ?_
    refine awp_reg_seq fun K hK => ?_
    simp [go_sem, c0, d0]
    repeat refine ⟨by omega, ?_⟩
    refine hK _ ?_; clear hK K
    refine awp_forget [6, 7, 8, 32] (by simp only [restr, List.contains_cons, List.contains_nil, Nat.reduceBEq, Bool.or_false, Bool.or_true, Bool.true_or, Bool.false_or, if_true, if_false, Bool.false_eq_true]; rfl) ?_
    refine awp_cond rfl (fun c1 => ?_) (fun c1 => ?_)
    · have d1 := c1; try simp at d1
      have hz2 : yearsF d n = 1048575 := by unfold yearsF; rw [if_pos (by omega)]
      refine awp_reg_seq fun K hK => ?_
      simp [go_sem, c0, d0, c1, d1]
      repeat refine ⟨by omega, ?_⟩
      refine hK _ ?_; clear hK K
      refine awp_ret ?_
      rw [hz, hz2]; simp [go_sem, Try.results48]
    · have d1 := c1; try simp at d1
      have ho := years_of hd (n := n) (by omega) (by omega)
      have hz2 : yearsF d n = if 1048575 < ofD (yearOf d + n) (monD d) (min (dayD d) (lenM (yearOf d + n) (monD d))) then 1048575 else ofD (yearOf d + n) (monD d) (min (dayD d) (lenM (yearOf d + n) (monD d))) := by unfold yearsF; rw [if_neg (by omega)]
      generalize ofD (yearOf d + n) (monD d) (min (dayD d) (lenM (yearOf d + n) (monD d))) = g at ho hz2
      refine awp_skip ?_
      refine awp_reg_seq fun K hK => ?_
      simp [go_sem, c0, d0, c1, d1]
      repeat refine ⟨by omega, ?_⟩
      refine CSk.mk (day_Length_cs _ _ _) ?_
      simp [go_sem, c0, d0, c1, d1]
      repeat refine ⟨by omega, ?_⟩
      refine CSk.mk (day_Of_cs _ _ _ _) ?_
      simp [go_sem, c0, d0, c1, d1]
      simp only [ho]
      repeat refine ⟨by omega, ?_⟩
      refine hK _ ?_; clear hK K
      refine awp_seq ?_
      refine awp_reg_seq fun K hK => ?_
      simp [go_sem, c0, d0, c1, d1]
      repeat refine ⟨by omega, ?_⟩
      refine hK _ ?_; clear hK K
      refine awp_forget [10, 45] (by simp only [restr, List.contains_cons, List.contains_nil, Nat.reduceBEq, Bool.or_false, Bool.or_true, Bool.true_or, Bool.false_or, if_true, if_false, Bool.false_eq_true]; rfl) ?_
      refine awp_cond rfl (fun c2 => ?_) (fun c2 => ?_)
      · have d2 := c2; try simp at d2
        have hz3 : yearsF d n = 1048575 := by rw [hz2]; split at d2 <;> simp_all
        refine awp_reg_seq fun K hK => ?_
        simp [go_sem, c0, d0, c1, d1, c2, d2]
        repeat refine ⟨by omega, ?_⟩
        refine hK _ ?_; clear hK K
        refine awp_ret ?_
        rw [hz, hz3]; simp [go_sem, Try.results48]
      · have d2 := c2; try simp at d2
        refine awp_skip ?_
        refine awp_reg_seq fun K hK => ?_
        simp [go_sem, c0, d0, c1, d1, c2, d2]
        repeat refine ⟨by omega, ?_⟩
        refine hK _ ?_; clear hK K
        refine awp_ret ?_
        by_cases h3 : 1048575 < g
        · simp [h3] at d2
        · rw [hz, hz2]; simp [go_sem, Try.results48, h3]

def yearEndR (d : Int) : Int × Int := if isDay d then (yearEndF d, 0) else (0, 2)
theorem day_YearEnd_cs (σ : List Blk) (d : Int) : CSF Try.prog 49 [.d (I d)] σ (.tup [.d (I (yearEndR d).1), .d (I (yearEndR d).2)]) := by
  refine CSF.of_body T.en49 Try.func49 rfl (by simp [Try.ntmps49]) (by simp [go_sem]) fun hwf => ?_
  refine awp_reg_seq fun K hK => ?_
  simp [go_sem, Try.ntmps49]
  repeat refine ⟨by omega, ?_⟩
  refine hK _ ?_; clear hK K
  refine awp_reg_seq fun K hK => ?_
  simp [go_sem]
  repeat refine ⟨by omega, ?_⟩
  refine CSk.mk (day_Date_cs _ _) ?_
  simp [go_sem]
  repeat refine ⟨by omega, ?_⟩
  refine hK _ ?_; clear hK K
  refine awp_seq ?_
  refine awp_reg_seq fun K hK => ?_
  simp [go_sem]
  repeat refine ⟨by omega, ?_⟩
  refine hK _ ?_; clear hK K
  refine awp_forget [4, 7, 16] (by simp only [restr, List.contains_cons, List.contains_nil, Nat.reduceBEq, Bool.or_false, Bool.or_true, Bool.true_or, Bool.false_or, if_true, if_false, Bool.false_eq_true]; rfl) ?_
  refine awp_cond rfl (fun c0 => ?_) (fun c0 => ?_)
  · have d0 := c0; try simp at d0
    have hn : ¬ isDay d := fun h => d0 (date_err.2 h)
    have hz : yearEndR d = (0, 2) := by unfold yearEndR; rw [if_neg hn]
    refine awp_reg_seq fun K hK => ?_
    simp [go_sem, c0, d0]
    repeat refine ⟨by omega, ?_⟩
    refine hK _ ?_; clear hK K
    refine awp_ret ?_
    rw [hz]; simp [go_sem, Try.results49, dateF_no hn]
  · have d0 := c0; try simp at d0
    have hd : isDay d := date_err.1 d0
    have hr := yearOf_range hd.1 hd.2
    have hb := beg_bd (y := yearOf d + 1) (by omega) (by omega)
    have hz : yearEndR d = (yearEndF d, 0) := by unfold yearEndR; rw [if_pos hd]
    simp only [dateF_ok hd] at c0 d0 ⊢
    refine awp_skip ?_
    refine awp_reg_seq fun K hK => ?_
    simp [go_sem, c0, d0]
    try simp (disch := omega) only [wrapI]
    repeat refine ⟨by omega, ?_⟩
    refine CSk.mk (day_begin_cs _ _ (by first | assumption | omega | simp_all) (by first | assumption | omega | simp_all)) ?_
    simp [go_sem, c0, d0]
    try simp (disch := omega) only [wrapI]
    repeat refine ⟨by omega, ?_⟩
    refine hK _ ?_; clear hK K
    refine awp_ret ?_
    rw [hz]; simp [go_sem, Try.results49, yearEndF]

end Go.Proofs.Ytplpklikapkloaa
