/- Plain laws: when a class is closed; what ends; what is later. -/
import Derived.Test.YtplpklikapkloaaBo
namespace Go.Proofs.Ytplpklikapkloaa
open Go.Abs Go.Arch
set_option linter.unusedVariables false
set_option linter.unusedSimpArgs false

theorem inB_iff {k d : Int} {r : Rule} : inB k d r = true ↔ r.Class = k ∧ r.In.From ≤ d ∧ d < r.In.Until := by
  unfold inB; simp; omega

/-- two rules of a class that are in force on one day are one -/
theorem inForce_one {n : Nat} {g : Nat → Rule} (h0 : check n g = 0) {k d : Int} {i j : Nat} (hi : i < n) (hj : j < n) (h1 : inB k d (g i) = true) (h2 : inB k d (g j) = true) : i = j := by
  rw [inB_iff] at h1 h2
  rcases Nat.lt_trichotomy i j with h | h | h
  · rcases not_clash h0 h hj (by omega) with h3 | h3 <;> omega
  · exact h
  · rcases not_clash h0 h hi (by omega) with h3 | h3 <;> omega

theorem inForce_at {n : Nat} {g : Nat → Rule} (h0 : check n g = 0) {k d : Int} {i : Nat} (hi : i < n) (h : inB k d (g i) = true) : inForceR n g k d = (g i, true) := by
  unfold inForceR inForceI
  rcases idx_spec (inB k d) (lst n g) 0 with ⟨h1, h2⟩ | ⟨q, h1, h2, x, h3, h4, h5⟩
  · have := h2 (g i) (by simp only [lst, List.mem_map, List.mem_range]; exact ⟨i, hi, rfl⟩)
    rw [h] at this; cases this
  · rw [lst_length] at h1
    rw [lst_get h1] at h3
    cases h3
    have := inForce_one h0 h1 hi h4 h
    subst this
    rw [h2, if_neg (by omega)]
    simp

theorem inForce_no {n : Nat} {g : Nat → Rule} {k d : Int} (h : (inForceR n g k d).2 = true) : ∃ i, i < n ∧ inB k d (g i) = true ∧ inForceR n g k d = (g i, true) ∧ check n g = 0 := by
  unfold inForceR at h ⊢
  split at h
  · simp at h
  · rename_i hc
    rw [if_neg hc]
    unfold inForceI at hc ⊢
    rcases idx_spec (inB k d) (lst n g) 0 with ⟨h1, h2⟩ | ⟨q, h1, h2, x, h3, h4, h5⟩
    · omega
    · rw [lst_length] at h1
      rw [lst_get h1] at h3
      cases h3
      refine ⟨q, h1, h4, ?_, by omega⟩
      rw [h2]; simp

theorem closed_at {n : Nat} {g : Nat → Rule} {k : Int} {m : Dating} {d : Int} (h0 : check n g = 0) (hm : datChk m = 0) {i : Nat} (hi : i < n) (h : inB k d (g i) = true) (hd : d < lastF (g i) m + 1) : closedR n g k m d = (⟨1, (g i).ID, 0, lastF (g i) m + 1⟩, true) := by
  unfold closedR
  rw [inForce_at h0 hi h, if_neg (by simp [hm]; omega)]

theorem closed_of {n : Nat} {g : Nat → Rule} {k : Int} {m : Dating} {d : Int} (h : (closedR n g k m d).2 = true) : check n g = 0 ∧ datChk m = 0 ∧ ∃ i, i < n ∧ inB k d (g i) = true ∧ d < lastF (g i) m + 1 ∧ closedR n g k m d = (⟨1, (g i).ID, 0, lastF (g i) m + 1⟩, true) := by
  have h' := h
  unfold closedR at h
  split at h
  · simp at h
  · rename_i hc
    have h2 : (inForceR n g k d).2 = true := by
      cases hb : (inForceR n g k d).2 with
      | true => rfl
      | false => exact absurd (.inl hb) hc
    obtain ⟨i, h3, h4, h5, h6⟩ := inForce_no h2
    have hm : datChk m = 0 := Classical.byContradiction fun hn => hc (.inr (.inl hn))
    have hd : d < lastF (g i) m + 1 := by
      have : ¬ lastF (inForceR n g k d).1 m + 1 ≤ d := fun hn => hc (.inr (.inr hn))
      rw [h5] at this
      simp only at this
      omega
    exact ⟨h6, hm, i, h3, h4, hd, closed_at h6 hm h3 h4 hd⟩

theorem closed_iff {n : Nat} {g : Nat → Rule} {k : Int} {m : Dating} {d : Int} (h0 : check n g = 0) (hm : datChk m = 0) : (closedR n g k m d).2 = true ↔ inS (refSpans n g k m) d := by
  rw [(refSpans_good h0 k m).2 d]
  constructor
  · intro h
    obtain ⟨_, _, i, h1, h2, h3, _⟩ := closed_of h
    rw [inB_iff] at h2
    exact ⟨i, h1, h2.1, h2.2.1, h2.2.2, h3⟩
  · rintro ⟨i, h1, h2, h3, h4, h5⟩
    rw [closed_at h0 hm h1 (inB_iff.2 ⟨h2, h3, h4⟩) h5]

theorem closed_no {n : Nat} {g : Nat → Rule} {k : Int} {m : Dating} {d : Int} (h : (closedR n g k m d).2 = false) : closedR n g k m d = (Ground.zero, false) := by
  unfold closedR at h ⊢
  split at h
  · rename_i hc; rw [if_pos hc]
  · simp at h

/-! later -/
theorem yearOf_mono {a b : Int} (ha : isDay a) (hb : isDay b) (h : a ≤ b) : yearOf a ≤ yearOf b := by
  have h1 := yearOf_spec ha.1 ha.2
  have h2 := yearOf_spec hb.1 hb.2
  apply Classical.byContradiction; intro hn
  have := beg_mono (a := yearOf b + 1) (b := yearOf a) (by omega)
  omega

theorem yearsF_le (d n : Int) : yearsF d n ≤ 1048575 := by
  unfold yearsF; simp only; split
  · omega
  · split <;> omega

theorem ofD_lt {y m k : Int} (h1 : 1 ≤ m) (h2 : m ≤ 12) (h3 : k ≤ lenM y m) : ofD y m k < beg y + cum y (m + 1) := by
  unfold ofD; rw [cum_succ h1 h2]; omega

theorem yearsF_mono {d d' n n' : Int} (hd : isDay d) (hd' : isDay d') (h : d ≤ d') (hn : n ≤ n') : yearsF d n ≤ yearsF d' n' := by
  have hy := yearOf_mono hd hd' h
  obtain ⟨a1, a2, a3, a4, a5⟩ := date_spec hd.1 hd.2
  obtain ⟨b1, b2, b3, b4, b5⟩ := date_spec hd'.1 hd'.2
  have hle := yearsF_le d n
  have hp := lenM_pos (yearOf d' + n') (monD d')
  have hp0 := lenM_pos (yearOf d + n) (monD d)
  by_cases h1 : 4470 < yearOf d' + n'
  · have : yearsF d' n' = 1048575 := by unfold yearsF; simp only; rw [if_pos h1]
    omega
  · have key : ofD (yearOf d + n) (monD d) (min (dayD d) (lenM (yearOf d + n) (monD d))) ≤ ofD (yearOf d' + n') (monD d') (min (dayD d') (lenM (yearOf d' + n') (monD d'))) := by
      have hc0 : 0 ≤ cum (yearOf d' + n') (monD d') := by
        have := cum_mono (y := yearOf d' + n') (a := 1) (b := monD d') b1
        rw [cum_one] at this; exact this
      rcases Int.lt_or_eq_of_le (show yearOf d + n ≤ yearOf d' + n' by omega) with h2 | h2
      · have e1 := ofD_lt (y := yearOf d + n) (k := min (dayD d) (lenM (yearOf d + n) (monD d))) a1 a2 (by omega)
        have e2 := cum_mono (y := yearOf d + n) (a := monD d + 1) (b := 13) (by omega)
        have e3 := beg_cum (yearOf d + n)
        have e4 := beg_mono (a := yearOf d + n + 1) (b := yearOf d' + n') (by omega)
        unfold ofD at *
        omega
      · have h3 : yearOf d = yearOf d' := by omega
        rw [h2]
        rw [← h3] at b5 b4
        rcases Int.lt_trichotomy (monD d) (monD d') with h4 | h4 | h4
        · have e1 := ofD_lt (y := yearOf d' + n') (k := min (dayD d) (lenM (yearOf d' + n') (monD d))) a1 a2 (by omega)
          have e2 := cum_mono (y := yearOf d' + n') (a := monD d + 1) (b := monD d') (by omega)
          unfold ofD at *
          omega
        · rw [← h4] at b5 ⊢
          unfold ofD
          omega
        · have e1 := cum_mono (y := yearOf d) (a := monD d' + 1) (b := monD d) (by omega)
          have e2 := cum_succ (y := yearOf d) b1 b2
          omega
    have hr : yearsF d' n' = if 1048575 < ofD (yearOf d' + n') (monD d') (min (dayD d') (lenM (yearOf d' + n') (monD d'))) then 1048575 else ofD (yearOf d' + n') (monD d') (min (dayD d') (lenM (yearOf d' + n') (monD d'))) := by
      unfold yearsF; simp only; rw [if_neg h1]
    have hl : yearsF d n = if 1048575 < ofD (yearOf d + n) (monD d) (min (dayD d) (lenM (yearOf d + n) (monD d))) then 1048575 else ofD (yearOf d + n) (monD d) (min (dayD d) (lenM (yearOf d + n) (monD d))) := by
      unfold yearsF; simp only; rw [if_neg (by omega)]
    rw [hl, hr]
    split <;> split <;> omega

theorem yearEndF_mono {d d' : Int} (hd : isDay d) (hd' : isDay d') (h : d ≤ d') : yearEndF d ≤ yearEndF d' := by
  have := beg_mono (a := yearOf d + 1) (b := yearOf d' + 1) (by have := yearOf_mono hd hd' h; omega)
  unfold yearEndF
  omega

theorem lastF_mono {r r' : Rule} {m m' : Dating} (hm : isDay m.Last) (hm' : isDay m'.Last) (h : m.Last ≤ m'.Last) (h0 : 0 ≤ r.Years) (hr : r.Years ≤ r'.Years) (h1 : r'.Years ≤ 200) (he : r'.YearEnd = r.YearEnd) : lastF r m ≤ lastF r' m' := by
  have e1 : yearsR m.Last r.Years = (yearsF m.Last r.Years, 0) := by unfold yearsR; rw [if_pos ⟨hm, by omega, by omega⟩]
  have e2 : yearsR m'.Last r'.Years = (yearsF m'.Last r'.Years, 0) := by unfold yearsR; rw [if_pos ⟨hm', by omega, by omega⟩]
  have hmono := yearsF_mono hm hm' h hr
  have b1 := lastF_bd { r with YearEnd := false } m
  have b2 := lastF_bd { r' with YearEnd := false } m'
  unfold lastF at b1 b2 ⊢
  simp only [e1, e2, he] at *
  simp only [Bool.false_eq_true, if_false] at b1 b2
  split
  · unfold yearEndR
    rw [if_pos b1, if_pos b2]
    exact yearEndF_mono b1 b2 hmono
  · exact hmono

/-! lists that differ in little -/
theorem check_of {n : Nat} {g : Nat → Rule} (hn : n ≤ 64) (h : ∀ q, q < n → formed (g q) = true ∧ (0 < q → (g (q - 1)).ID < (g q).ID) ∧ (lst q g).any (clash (g q)) = false) : check n g = 0 := by
  unfold check
  rw [if_neg (by omega)]
  have key : ∀ k i, i + k = n → chkF g i k = 0 := by
    intro k
    induction k with
    | zero => intro i _; rfl
    | succ k ih =>
      intro i hi
      obtain ⟨h1, h2, h3⟩ := h i (by omega)
      rw [chkF, if_neg (by simp [h1]), if_neg (by
        simp only [Bool.and_eq_true, decide_eq_true_eq]
        rintro ⟨h4, h5⟩
        have := h2 h4; omega), if_neg (by simp [h3])]
      exact ih (i + 1) (by omega)
  exact key n 0 (by omega)

/-- rules with the same numbers and classes, and spans that are within -/
theorem check_within {n : Nat} {g g' : Nat → Rule} (h0 : check n g = 0) (h : ∀ q, q < n → formed (g' q) = true ∧ (g' q).ID = (g q).ID ∧ (g' q).Class = (g q).Class ∧ (g q).In.From ≤ (g' q).In.From ∧ (g' q).In.Until ≤ (g q).In.Until) : check n g' = 0 := by
  refine check_of (check_zero h0).1 fun q hq => ?_
  obtain ⟨a1, a2, a3⟩ := (check_zero h0).2 q hq
  refine ⟨(h q hq).1, fun hp => ?_, ?_⟩
  · rw [(h q hq).2.1, (h (q - 1) (by omega)).2.1]; exact a2 hp
  · refine List.any_eq_false.2 fun x hx => ?_
    simp only [lst, List.mem_map, List.mem_range] at hx
    obtain ⟨i, hi, rfl⟩ := hx
    have := List.any_eq_false.1 a3 (g i) (by simp only [lst, List.mem_map, List.mem_range]; exact ⟨i, hi, rfl⟩)
    unfold clash at this ⊢
    have e1 := h q hq
    have e2 := h i (by omega)
    simp at this ⊢
    intro hc
    have := this (by omega)
    omega

def moreG (g : Nat → Rule) (y : Int) : Nat → Rule := fun i => { g i with Years := min ((g i).Years + y) 200 }

theorem formed_iff {r : Rule} : formed r = true ↔ 1 ≤ r.ID ∧ r.ID ≤ 1073741824 ∧ 1 ≤ r.Class ∧ r.Class ≤ 999 ∧ 0 ≤ r.Years ∧ r.Years ≤ 200 ∧ 0 ≤ r.In.From ∧ r.In.From < r.In.Until ∧ r.In.Until ≤ 1048576 := by
  unfold formed spanOk; simp; omega

theorem safe_law {n : Nat} {g : Nat → Rule} {k : Int} {m : Dating} {d later years : Int} (hl : 0 ≤ later) (hl' : later ≤ 1048575) (hy : 0 ≤ years) (hy' : years ≤ 200) (h : (closedR n g k m d).2 = true) :
    (closedR n (moreG g years) k ⟨m.First, min (m.Last + later) 1048575⟩ d).2 = true := by
  obtain ⟨h0, hm, i, hi, hb, hd, _⟩ := closed_of h
  have hok := datChk_0.1 hm
  have hmd := datOk_day hok
  unfold datOk at hok
  simp at hok
  have hf := fun q (hq : q < n) => formed_iff.1 ((check_zero h0).2 q hq).1
  have h0' : check n (moreG g years) = 0 := check_within h0 fun q hq => by
    have := hf q hq
    refine ⟨formed_iff.2 ?_, rfl, rfl, Int.le_refl _, Int.le_refl _⟩
    unfold moreG; simp only; omega
  have hm' : datChk ⟨m.First, min (m.Last + later) 1048575⟩ = 0 := datChk_ok (by simp only; omega)
  have hday : isDay (min (m.Last + later) 1048575) := ⟨by omega, by omega⟩
  have hfi := hf i hi
  have hmono := lastF_mono (r := g i) (r' := moreG g years i) (m := m) (m' := ⟨m.First, min (m.Last + later) 1048575⟩) hmd hday (by simp only; omega) (by omega) (by unfold moreG; simp only; omega) (by unfold moreG; simp only; omega) rfl
  rw [closed_at h0' hm' hi (i := i) (by rw [inB_iff] at hb ⊢; exact hb) (by omega)]

/-! End -/
theorem end_ok {n : Nat} {g : Nat → Rule} {id d : Int} (h : (endR n g id d).2 = 0) : ∃ j, j < n ∧ check n g = 0 ∧ (g j).In.From < d ∧ d ≤ (g j).In.Until ∧ endR n g id d = ((n, fun q => if q = j then { g q with In := ⟨(g q).In.From, d⟩ } else g q), 0) := by
  unfold endR at h ⊢
  split at h
  · simp at h
  · rename_i h1
    split at h
    · simp at h
    · rename_i h2
      split at h
      · simp at h
      · rename_i h3
        rw [if_neg h1, if_neg h2, if_neg h3]
        have := idx_lt' (fun r : Rule => r.ID == id) n g
        exact ⟨(idxFrom (fun r => r.ID == id) (lst n g) 0).toNat, by omega, by omega, by omega, by omega, rfl⟩

def endG (g : Nat → Rule) (j : Nat) (d : Int) : Nat → Rule := fun q => if q = j then { g q with In := ⟨(g q).In.From, d⟩ } else g q

theorem end_laws {n : Nat} {g : Nat → Rule} {j : Nat} {d : Int} (hj : j < n) (h0 : check n g = 0) (h1 : (g j).In.From < d) (h2 : d ≤ (g j).In.Until) (k : Int) (m : Dating) (x : Int) :
    check n (endG g j d) = 0 ∧ ((closedR n (endG g j d) k m x).2 = true → (closedR n g k m x).2 = true) ∧ (x < d → closedR n g k m x = closedR n (endG g j d) k m x) := by
  have hf := fun q (hq : q < n) => formed_iff.1 ((check_zero h0).2 q hq).1
  have hw : ∀ q, (endG g j d q).ID = (g q).ID ∧ (endG g j d q).Class = (g q).Class ∧ (endG g j d q).Years = (g q).Years ∧ (endG g j d q).YearEnd = (g q).YearEnd ∧ (endG g j d q).In.From = (g q).In.From ∧ ((endG g j d q).In.Until = (g q).In.Until ∨ (q = j ∧ (endG g j d q).In.Until = d)) := by
    intro q
    unfold endG
    by_cases hq : q = j
    · rw [if_pos hq]; exact ⟨rfl, rfl, rfl, rfl, rfl, .inr ⟨hq, rfl⟩⟩
    · rw [if_neg hq]; exact ⟨rfl, rfl, rfl, rfl, rfl, .inl rfl⟩
  have hlast : ∀ q, lastF (endG g j d q) m = lastF (g q) m := fun q => by
    obtain ⟨_, _, e1, e2, _⟩ := hw q
    unfold lastF; rw [e1, e2]
  have h0' : check n (endG g j d) = 0 := check_within h0 fun q hq => by
    obtain ⟨a1, a2, a3, a4, a5, a6⟩ := hw q
    have := hf q hq
    refine ⟨formed_iff.2 ?_, a1, a2, by omega, ?_⟩
    · rw [a1, a2, a3, a5]
      rcases a6 with a6 | ⟨rfl, a6⟩ <;> rw [a6] <;> omega
    · rcases a6 with a6 | ⟨rfl, a6⟩ <;> omega
  have back : ∀ q, q < n → inB k x (endG g j d q) = true → inB k x (g q) = true := fun q hq h => by
    rw [inB_iff] at h ⊢
    obtain ⟨a1, a2, a3, a4, a5, a6⟩ := hw q
    rcases a6 with a6 | ⟨rfl, a6⟩ <;> omega
  refine ⟨h0', fun h => ?_, fun hx => ?_⟩
  · obtain ⟨_, hm, i, hi, hb, hd, _⟩ := closed_of h
    rw [hlast] at hd
    rw [closed_at h0 hm hi (back i hi hb) hd]
  · cases hc : (closedR n g k m x).2 with
    | true =>
      obtain ⟨_, hm, i, hi, hb, hd, he⟩ := closed_of hc
      have hb' : inB k x (endG g j d i) = true := by
        rw [inB_iff] at hb ⊢
        obtain ⟨a1, a2, a3, a4, a5, a6⟩ := hw i
        rcases a6 with a6 | ⟨rfl, a6⟩ <;> omega
      rw [he, closed_at h0' hm hi hb' (by rw [hlast]; exact hd), hlast, (hw i).1]
    | false =>
      rw [closed_no hc]
      cases hc' : (closedR n (endG g j d) k m x).2 with
      | false => rw [closed_no hc']
      | true =>
        obtain ⟨_, hm, i, hi, hb, hd, _⟩ := closed_of hc'
        rw [hlast] at hd
        rw [closed_at h0 hm hi (back i hi hb) hd] at hc
        simp at hc

end Go.Proofs.Ytplpklikapkloaa
