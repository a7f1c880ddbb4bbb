/- Plain: the calendar. -/
import Derived.WalkKit
namespace Go.Arch
set_option linter.unusedVariables false
set_option linter.unusedSimpArgs false

def leapY (y : Int) : Bool := (y % 4 == 0) && ((y % 100 != 0) || (y % 400 == 0))
def lenM (y m : Int) : Int := if m = 2 then (if leapY y = true then 29 else 28) else if m = 4 ∨ m = 6 ∨ m = 9 ∨ m = 11 then 30 else 31
def lenF (y m : Int) : Int := if y < 1600 ∨ 4470 < y ∨ m < 1 ∨ 12 < m then 0 else lenM y m
/-- days ahead of a year -/
def beg (y : Int) : Int := 365 * (y - 1600) + (y - 1600 + 3) / 4 - (y - 1600 + 99) / 100 + (y - 1600 + 399) / 400
/-- days of a year ahead of a month -/
def cum (y m : Int) : Int :=
  let l : Int := if leapY y = true then 1 else 0
  if m ≤ 1 then 0 else if m = 2 then 31 else if m = 3 then 59 + l else if m = 4 then 90 + l else if m = 5 then 120 + l else if m = 6 then 151 + l else if m = 7 then 181 + l
  else if m = 8 then 212 + l else if m = 9 then 243 + l else if m = 10 then 273 + l else if m = 11 then 304 + l else if m = 12 then 334 + l else 365 + l

theorem leap_or (y : Int) : leapY y = (((y % 4 == 0) && (y % 100 != 0)) || (y % 400 == 0)) := by
  unfold leapY
  by_cases h1 : y % 4 = 0
  · rw [h1]; rfl
  · have h2 : ¬ y % 400 = 0 := by omega
    rw [beq_false_of_ne h1, beq_false_of_ne h2]; rfl

theorem leap_iff (y : Int) : leapY y = true ↔ y % 4 = 0 ∧ (y % 100 ≠ 0 ∨ y % 400 = 0) := by simp [leapY]

theorem beg_succ (y : Int) : beg (y + 1) = beg y + 365 + (if leapY y = true then 1 else 0) := by
  unfold beg
  split
  · rename_i h
    rw [leap_iff] at h
    omega
  · rename_i h
    rw [leap_iff] at h
    have : ¬ y % 4 = 0 ∨ (y % 100 = 0 ∧ ¬ y % 400 = 0) := by
      by_cases h1 : y % 4 = 0
      · right; constructor
        · apply Classical.byContradiction; intro h2; exact h ⟨h1, .inl h2⟩
        · intro h2; exact h ⟨h1, .inr h2⟩
      · exact .inl h1
    omega

theorem beg_mono {a b : Int} (h : a ≤ b) : beg a ≤ beg b := by
  unfold beg; omega
theorem beg_strict {a b : Int} (h : a < b) : beg a + 365 ≤ beg b := by
  have h1 := beg_succ a
  have h2 := beg_mono (a := a + 1) (b := b) (by omega)
  split at h1 <;> omega

theorem before_eq {y : Int} (h : 1600 < y) : 365 * (y - 1600) + (y - 1600 - 1) / 4 + 1 - ((y - 1600 - 1) / 100 + 1) + (y - 1600 - 1) / 400 + 1 = beg y := by
  unfold beg; omega

theorem cum_succ {y m : Int} (h1 : 1 ≤ m) (h2 : m ≤ 12) : cum y (m + 1) = cum y m + lenM y m := by
  have : m = 1 ∨ m = 2 ∨ m = 3 ∨ m = 4 ∨ m = 5 ∨ m = 6 ∨ m = 7 ∨ m = 8 ∨ m = 9 ∨ m = 10 ∨ m = 11 ∨ m = 12 := by omega
  unfold cum lenM
  rcases this with rfl | rfl | rfl | rfl | rfl | rfl | rfl | rfl | rfl | rfl | rfl | rfl <;> by_cases hl : leapY y = true <;> simp [hl]

theorem lenM_pos (y m : Int) : 28 ≤ lenM y m := by
  unfold lenM; split
  · split <;> omega
  · split <;> omega
theorem lenM_le (y m : Int) : lenM y m ≤ 31 := by
  unfold lenM; split
  · split <;> omega
  · split <;> omega
theorem lenF_eq {y m : Int} (h1 : 1600 ≤ y) (h2 : y ≤ 4470) (h3 : 1 ≤ m) (h4 : m ≤ 12) : lenF y m = lenM y m := by
  unfold lenF; rw [if_neg (by omega)]
theorem cum_one (y : Int) : cum y 1 = 0 := by simp [cum]
theorem cum_end (y : Int) : cum y 13 = 365 + (if leapY y = true then 1 else 0) := by simp [cum]
theorem beg_cum (y : Int) : beg (y + 1) = beg y + cum y 13 := by rw [beg_succ, cum_end]; omega

/-- the year of a day: search upwards -/
def yearUp (d y : Int) : Nat → Int
  | 0 => y
  | n + 1 => if beg (y + 1) ≤ d then yearUp d (y + 1) n else y
def yearOf (d : Int) : Int := yearUp d 1600 3000

theorem yearUp_spec (d : Int) : ∀ (n : Nat) (y : Int), beg y ≤ d → d < beg (y + n + 1) → beg (yearUp d y n) ≤ d ∧ d < beg (yearUp d y n + 1)
  | 0, y, h1, h2 => ⟨h1, by simpa [yearUp] using h2⟩
  | n + 1, y, h1, h2 => by
    simp only [yearUp]
    split
    · rename_i h
      exact yearUp_spec d n (y + 1) h (by have e : y + 1 + (n : Int) + 1 = y + ((n + 1 : Nat) : Int) + 1 := by omega
                                          rw [e]; exact h2)
    · exact ⟨h1, by omega⟩

theorem beg_far : beg 4600 = 1095728 := by simp [beg]

theorem yearOf_spec {d : Int} (h1 : 0 ≤ d) (h2 : d ≤ 1048575) : beg (yearOf d) ≤ d ∧ d < beg (yearOf d + 1) := by
  have h3 : d < beg (1600 + (3000 : Nat) + 1) := by
    have := beg_mono (a := 4600) (b := 1600 + (3000 : Nat) + 1) (by decide)
    rw [beg_far] at this; omega
  exact yearUp_spec d 3000 1600 (by simpa [beg] using h1) h3

theorem year_unique {d a b : Int} (h1 : beg a ≤ d) (h2 : d < beg (a + 1)) (h3 : beg b ≤ d) (h4 : d < beg (b + 1)) : a = b := by
  rcases Int.lt_trichotomy a b with h | h | h
  · have := beg_mono (a := a + 1) (b := b) (by omega); omega
  · exact h
  · have := beg_mono (a := b + 1) (b := a) (by omega); omega

theorem yearOf_eq {d y : Int} (h1 : 0 ≤ d) (h2 : d ≤ 1048575) (h3 : beg y ≤ d) (h4 : d < beg (y + 1)) : yearOf d = y :=
  year_unique (yearOf_spec h1 h2).1 (yearOf_spec h1 h2).2 h3 h4

theorem beg_1600 : beg 1600 = 0 := by simp [beg]
theorem beg_4471 : beg 4471 = 1048612 := by simp [beg]
theorem beg_4470 : beg 4470 = 1048247 := by simp [beg]

theorem yearOf_range {d : Int} (h1 : 0 ≤ d) (h2 : d ≤ 1048575) : 1600 ≤ yearOf d ∧ yearOf d ≤ 4470 := by
  have h := yearOf_spec h1 h2
  constructor
  · apply Classical.byContradiction; intro hn
    have := beg_mono (a := yearOf d + 1) (b := 1600) (by omega)
    rw [beg_1600] at this; omega
  · apply Classical.byContradiction; intro hn
    have := beg_mono (a := 4471) (b := yearOf d) (by omega)
    rw [beg_4471] at this; omega

/-- the month of a day of a year -/
def monUp (y r m : Int) : Nat → Int
  | 0 => m
  | n + 1 => if cum y (m + 1) ≤ r then monUp y r (m + 1) n else m
def monOf (y r : Int) : Int := monUp y r 1 12

theorem monUp_spec (y r : Int) : ∀ (n : Nat) (m : Int), 1 ≤ m → m + n = 13 → cum y m ≤ r → r < cum y 13 → 1 ≤ monUp y r m n ∧ monUp y r m n ≤ 12 ∧ cum y (monUp y r m n) ≤ r ∧ r < cum y (monUp y r m n + 1)
  | 0, m, h0, h1, h2, h3 => by
    have : m = 13 := by omega
    subst this; omega
  | n + 1, m, h0, h1, h2, h3 => by
    simp only [monUp]
    split
    · rename_i h
      exact monUp_spec y r n (m + 1) (by omega) (by omega) h h3
    · exact ⟨h0, by omega, h2, by omega⟩

theorem monOf_spec {y r : Int} (h1 : 0 ≤ r) (h2 : r < cum y 13) : 1 ≤ monOf y r ∧ monOf y r ≤ 12 ∧ cum y (monOf y r) ≤ r ∧ r < cum y (monOf y r + 1) :=
  monUp_spec y r 12 1 (by omega) (by omega) (by rw [cum_one]; exact h1) h2

theorem cum_mono {y a b : Int} (h : a ≤ b) : cum y a ≤ cum y b := by
  unfold cum
  by_cases hl : leapY y = true <;> simp only [hl, if_true, if_false, Bool.false_eq_true] <;> (repeat' split) <;> omega

theorem month_unique {y r a b : Int} (h1 : cum y a ≤ r) (h2 : r < cum y (a + 1)) (h3 : cum y b ≤ r) (h4 : r < cum y (b + 1)) : a = b := by
  rcases Int.lt_trichotomy a b with h | h | h
  · have := cum_mono (y := y) (a := a + 1) (b := b) (by omega); omega
  · exact h
  · have := cum_mono (y := y) (a := b + 1) (b := a) (by omega); omega

def monD (d : Int) : Int := monOf (yearOf d) (d - beg (yearOf d))
def dayD (d : Int) : Int := d - beg (yearOf d) - cum (yearOf d) (monD d) + 1

theorem date_spec {d : Int} (h1 : 0 ≤ d) (h2 : d ≤ 1048575) : 1 ≤ monD d ∧ monD d ≤ 12 ∧ 1 ≤ dayD d ∧ dayD d ≤ lenM (yearOf d) (monD d) ∧ d = beg (yearOf d) + cum (yearOf d) (monD d) + dayD d - 1 := by
  have hy := yearOf_spec h1 h2
  rw [beg_cum] at hy
  have hm := monOf_spec (y := yearOf d) (r := d - beg (yearOf d)) (by omega) (by omega)
  have hc := cum_succ (y := yearOf d) hm.1 hm.2.1
  unfold dayD monD
  omega

/-- the day of a date, or the last day of all -/
def ofD (y m k : Int) : Int := beg y + cum y m + k - 1

def yearsF (d n : Int) : Int :=
  let y := yearOf d + n
  if 4470 < y then 1048575 else
    let t := ofD y (monD d) (min (dayD d) (lenM y (monD d)))
    if 1048575 < t then 1048575 else t

def yearEndF (d : Int) : Int := min (beg (yearOf d + 1) - 1) 1048575

end Go.Arch
