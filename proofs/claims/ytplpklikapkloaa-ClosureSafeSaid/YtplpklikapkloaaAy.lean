/- Abstract values: what many contracts speak of. -/
import Derived.Test.YtplpklikapkloaaAx
namespace Go.Abs
set_option linter.unusedVariables false
set_option linter.unusedSimpArgs false

abbrev I (n : Int) : D := .v (.int .i64 n)
abbrev B (b : Bool) : D := .v (.bool b)

theorem wrapI {n : Int} (h1 : -9223372036854775808 ≤ n) (h2 : n ≤ 9223372036854775807) : IntKind.i64.wrap n = n := by
  rw [IntKind.wrap_i64]; omega
theorem tdivI {a b : Int} (h : 0 ≤ a) : a.tdiv b = a / b := Int.tdiv_eq_ediv_of_nonneg h
theorem tmodI {a b : Int} (h : 0 ≤ a) : a.tmod b = a % b := Int.tmod_eq_emod_of_nonneg h

theorem wrap_succ {i : Nat} (h : i < 1000000000) : IntKind.i64.wrap ((i : Int) + 1) = ((i + 1 : Nat) : Int) := by
  rw [IntKind.wrap_i64]; omega
theorem wrap_pred {i : Nat} (h : i < 1000000000) : IntKind.i64.wrap ((i : Int) - 1) = (i : Int) - 1 := by
  rw [IntKind.wrap_i64]; omega

/-- the first place where p holds -/
def idxFrom {α : Type} (p : α → Bool) : List α → Nat → Int
  | [], _ => -1
  | x :: xs, i => if p x then i else idxFrom p xs (i + 1)

theorem drop_lst {α : Type} {n i : Nat} {f : Nat → α} (h : i < n) : (lst n f).drop i = f i :: (lst n f).drop (i + 1) := by
  rw [List.drop_eq_getElem_cons (by rw [lst_length]; exact h)]; simp [lst]

theorem drop_all {α : Type} {n i : Nat} {f : Nat → α} (h : n ≤ i) : (lst n f).drop i = [] := by
  rw [List.drop_eq_nil_iff, lst_length]; omega

theorem idx_any {α : Type} (p : α → Bool) : ∀ (l : List α) (i : Nat), decide (0 ≤ idxFrom p l i) = l.any p
  | [], i => by simp [idxFrom]
  | x :: xs, i => by
    rw [idxFrom, List.any_cons]
    by_cases h : p x = true
    · simp [h]
    · simp only [h]; simpa using idx_any p xs (i + 1)

theorem idx_spec {α : Type} (p : α → Bool) : ∀ (l : List α) (i : Nat), (idxFrom p l i = -1 ∧ ∀ x ∈ l, p x = false) ∨ ∃ q, q < l.length ∧ idxFrom p l i = ((i + q : Nat) : Int) ∧ ∃ x, l[q]? = some x ∧ p x = true ∧ ∀ r y, r < q → l[r]? = some y → p y = false
  | [], i => .inl ⟨rfl, by simp⟩
  | x :: xs, i => by
    rw [idxFrom]
    by_cases h : p x = true
    · refine .inr ⟨0, by simp, by simp [h], x, by simp, h, fun r y hr => by omega⟩
    · rw [if_neg h]
      have h : p x = false := by simpa using h
      rcases idx_spec p xs (i + 1) with ⟨h1, h2⟩ | ⟨q, h1, h2, y, h3, h4, h5⟩
      · exact .inl ⟨h1, by simpa [h] using h2⟩
      · refine .inr ⟨q + 1, by simpa using h1, by rw [h2]; congr 1; omega, y, by simpa using h3, h4, fun r z hr hz => ?_⟩
        cases r with
        | zero => simp at hz; subst hz; exact h
        | succ r => exact h5 r z (by omega) (by simpa using hz)

end Go.Abs
