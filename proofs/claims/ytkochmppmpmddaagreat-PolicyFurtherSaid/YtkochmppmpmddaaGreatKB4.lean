/- Contracts and lemmas (Bh, Azs, Sm, Bi, Bj, Bk, Bm, Bl, Bn, Bo, Ca, Cb, Cc, Cd, Ce, Cf, Cg, Ch, Ci, St, Pn, Su), joined out of smaller texts by a program; no conditions. -/
import Derived.Test.YtkochmppmpmddaaGreatKB3
import Derived.Shelf.SlSortCmp.WholeK
import Derived.Shelf.SlGeneric
import Derived.Ground.SlsfProg
import Derived.Test.YtkochmppmpmddaaGreatProg
import Derived.Shelf.Strings.Search3
import Derived.Shelf.GgClosure.StringsRunes
import Derived.Ground.NamesProg
import Derived.Ground.GgwProg
import Derived.Laws.RangeString
import Derived.Laws.RangeAny
import Derived.Shelf.GgClosure.StringsIndexFunc
import Derived.Lib.IndexMore
/-! Bh -/
namespace Go.Proofs.YtkochmppmpmddaaGreat
open Go.Abs Go.Arch
set_option linter.unusedVariables false
set_option linter.unusedSimpArgs false
set_option maxRecDepth 100000
set_option maxHeartbeats 400000
theorem lst_succ {α : Type} (n : Nat) (f : Nat → α) : lst (n + 1) f = lst n f ++ [f n] := by simp [lst, List.range_succ]
def kept {α : Type} (p : α → Bool) (g : Nat → α) (j : Nat) : List α := (lst j g).filter fun r => !p r
theorem kept_succ {α : Type} (p : α → Bool) (g : Nat → α) (j : Nat) : kept p g (j + 1) = if p (g j) = true then kept p g j else kept p g j ++ [g j] := by
  unfold kept; rw [lst_succ, List.filter_append]
  by_cases h : p (g j) = true <;> simp [h]
theorem kept_len {α : Type} (p : α → Bool) (g : Nat → α) (j : Nat) : (kept p g j).length ≤ j := by
  unfold kept; have := List.length_filter_le (fun r => !p r) (lst j g); rw [lst_length] at this; exact this
theorem idx_kept {α : Type} {p : α → Bool} {g : Nat → α} {n : Nat} (h : idxFrom p (lst n g) 0 ≠ -1) : ∃ i0 : Nat, i0 < n ∧ idxFrom p (lst n g) 0 = (i0 : Int) ∧ kept p g (i0 + 1) = lst i0 g := by
  rcases idx_spec p (lst n g) 0 with ⟨h1, _⟩ | ⟨q, h1, h2, x, h3, h4, h5⟩
  · exact absurd h1 h
  · rw [lst_length] at h1
    refine ⟨q, h1, by rw [h2]; simp, ?_⟩
    rw [lst_get h1] at h3
    cases h3
    rw [kept_succ, if_pos h4]
    unfold kept
    rw [List.filter_eq_self]
    intro y hy
    simp only [lst, List.mem_map, List.mem_range] at hy
    obtain ⟨r, hr, rfl⟩ := hy
    have := h5 r (g r) hr (lst_get (by omega))
    simp [this]
theorem idx_none {α : Type} {p : α → Bool} {g : Nat → α} {n : Nat} (h : idxFrom p (lst n g) 0 = -1) : kept p g n = lst n g := by
  rcases idx_spec p (lst n g) 0 with ⟨_, h1⟩ | ⟨q, _, h2, _⟩
  · unfold kept; rw [List.filter_eq_self]; intro x hx; simp [h1 x hx]
  · omega
theorem nth_lst {α : Type} [Inhabited α] {n : Nat} {g : Nat → α} {i : Nat} (h : i < n) : nth (lst n g) i = g i := by simp [nth, lst_get h]
theorem nth_app {α : Type} [Inhabited α] {l : List α} {x : α} {i : Nat} : nth (l ++ [x]) i = if i < l.length then nth l i else if i = l.length then x else default := by
  unfold nth
  by_cases h : i < l.length
  · rw [if_pos h, List.getElem?_append_left h]
  · rw [if_neg h, List.getElem?_append_right (by omega)]
    by_cases e : i = l.length
    · subst e; simp
    · simp [e, List.getElem?_eq_none (show [x].length ≤ i - l.length by simp; omega)]
theorem indexRuleM_cs (σ : List Blk) (τ : List Blk) (n : Nat) (g : Nat → Rule) (f : FuncId) (cap : List AV) (p : Rule → Bool) (hn : n < 1000000000) (hf : ∀ i, i < n → CSF Tryz.prog f (.agg ((g i).enc.map .d) :: cap) (σ ++ .arr 6 n (fun i => Rule.enc (g i)) :: τ) (.d (B (p (g i))))) : CSF Tryz.prog 117 [.ms σ.length 6 0 n, .clo (.func f) [] cap] (σ ++ .arr 6 n (fun i => Rule.enc (g i)) :: τ) (.d (I (idxFrom p (lst n g) 0))) := by
  refine CSF.of_body T.en117 Tryz.func117 rfl (by simp [Tryz.ntmps117]) (by simp [go_sem]) fun hwf => ?_
  refine awp_reg_seq fun K hK => ?_
  simp [go_sem, Tryz.ntmps117]
  repeat refine ⟨by omega, ?_⟩
  refine hK _ ?_; clear hK K
  refine awp_seq ?_
  refine awp_reg_seq fun K hK => ?_
  simp [go_sem]
  repeat refine ⟨by omega, ?_⟩
  refine hK _ ?_; clear hK K
  refine awp_block ?_
  refine awp_forget [0, 1, 7, 8] (by simp [go_sem, restr]; rfl) ?_
  refine awp_loopU (α := Nat) (fun i => [(8, .d (I i))]) (fun i => _) (fun i => i ≤ n ∧ idxFrom p (lst n g) 0 = idxFrom p ((lst n g).drop i) i) (fun i => n - i) 0 (by simp [go_sem]) rfl (by simp) ?_
  rintro i ⟨hi, hx⟩
  refine awp_reg_seq fun K hK => ?_
  simp [go_sem]
  repeat refine ⟨by omega, ?_⟩
  refine hK _ ?_; clear hK K
  refine awp_seq ?_
  refine awp_forget [0, 1, 7, 8, 9] (by simp only [restr, List.contains_cons, List.contains_nil, Nat.reduceBEq, Bool.or_false, Bool.or_true, Bool.true_or, Bool.false_or, if_true, if_false, Bool.false_eq_true]; rfl) ?_
  refine awp_cond rfl (fun c0 => ?_) (fun c0 => ?_)
  · have d0 := c0; try simp at d0
    rw [drop_lst d0, idxFrom] at hx
    refine awp_skip ?_
    refine awp_seq ?_
    refine awp_block ?_
    refine awp_reg_seq fun K hK => ?_
    simp [go_sem, c0, d0]
    repeat refine ⟨by omega, ?_⟩
    refine hK _ ?_; clear hK K
    refine awp_reg_seq fun K hK => ?_
    simp [go_sem, c0, d0]
    repeat refine ⟨by omega, ?_⟩
    refine CSk.mk (hf i d0) ?_
    simp [go_sem, c0, d0]
    repeat refine ⟨by omega, ?_⟩
    refine hK _ ?_; clear hK K
    refine awp_forget [0, 1, 5, 7, 8, 16] (by simp only [restr, List.contains_cons, List.contains_nil, Nat.reduceBEq, Bool.or_false, Bool.or_true, Bool.true_or, Bool.false_or, if_true, if_false, Bool.false_eq_true]; rfl) ?_
    refine awp_cond rfl (fun c1 => ?_) (fun c1 => ?_)
    · have d1 := c1; try simp at d1
      refine awp_reg_seq fun K hK => ?_
      simp [go_sem, c0, d0, c1, d1]
      repeat refine ⟨by omega, ?_⟩
      refine hK _ ?_; clear hK K
      refine awp_ret ?_
      simp [go_sem, Tryz.results117, hx, c0, d0, c1, d1] <;> omega
    · have d1 := c1; try simp at d1
      refine awp_skip ?_
      refine awp_reg_end fun K hK => ?_
      simp [go_sem, c0, d0, c1, d1]
      try simp (disch := omega) only [wrapI]
      repeat refine ⟨by omega, ?_⟩
      refine hK _ ?_; clear hK K
      refine ⟨i + 1, back_of' (by simp) (.refl _) (by (simp [go_sem, wrap_succ (i := i) (by omega), c0, d0, c1, d1] <;> omega)), ⟨by omega, by rw [hx, c1]; simp⟩, by first | omega | (dsimp only; omega)⟩
  · have d0 := c0; try simp at d0
    rw [drop_all d0, idxFrom] at hx
    refine awp_exit ?_
    refine awp_reg_seq fun K hK => ?_
    simp [go_sem, c0, d0]
    repeat refine ⟨by omega, ?_⟩
    refine hK _ ?_; clear hK K
    refine awp_ret ?_
    simp [go_sem, Tryz.results117, hx, c0, d0] <;> omega
theorem deleteRule_cs (σ : List Blk) (τ : List Blk) (n : Nat) (g : Nat → Rule) (f : FuncId) (cap : List AV) (p : Rule → Bool) (hn : n < 1000000000) (hf : ∀ (h : Nat → Rule) (r : Rule) (υ : List Blk), CSF Tryz.prog f (.agg (r.enc.map .d) :: cap) (σ ++ .arr 6 n (fun i => Rule.enc (h i)) :: (τ ++ υ)) (.d (B (p r)))) : CS Tryz.prog 171 [.ms σ.length 6 0 n, .clo (.func f) [] cap] (σ ++ .arr 6 n (fun i => Rule.enc (g i)) :: τ) (fun r σ' X' => X' = [] ∧ r = .ms σ.length 6 0 (kept p g n).length ∧ σ' = σ ++ .arr 6 (kept p g n).length (fun i => Rule.enc (nth (kept p g n) i)) :: τ) := by
  have hlen := kept_len p g
  refine CS.of_bodyD [] T.en171 Tryz.func171 rfl (by simp [Tryz.ntmps171]) fun hwf => ?_
  refine awp_reg_seq fun K hK => ?_
  simp [go_sem, Tryz.ntmps171]
  repeat refine ⟨by omega, ?_⟩
  refine hK _ ?_; clear hK K
  refine awp_reg_seq fun K hK => ?_
  simp [go_sem]
  repeat refine ⟨by omega, ?_⟩
  refine CSk.mk (indexRuleM_cs σ τ n g f cap p hn (fun i hi => by simpa using hf g (g i) [])) ?_
  simp [go_sem]
  repeat refine ⟨by omega, ?_⟩
  refine hK _ ?_; clear hK K
  refine awp_seq ?_
  refine awp_reg_seq fun K hK => ?_
  simp [go_sem]
  repeat refine ⟨by omega, ?_⟩
  refine hK _ ?_; clear hK K
  refine awp_forget [0, 1, 5, 12] (by simp only [restr, List.contains_cons, List.contains_nil, Nat.reduceBEq, Bool.or_false, Bool.or_true, Bool.true_or, Bool.false_or, if_true, if_false, Bool.false_eq_true]; rfl) ?_
  refine awp_cond rfl (fun c0 => ?_) (fun c0 => ?_)
  · have d0 := c0; try simp at d0
    have hk := idx_none d0
    have hkl : (kept p g n).length = n := by rw [hk, lst_length]
    refine awp_reg_seq fun K hK => ?_
    simp [go_sem, c0, d0]
    repeat refine ⟨by omega, ?_⟩
    refine hK _ ?_; clear hK K
    refine awp_shrink σ.length (kept p g n).length (fun i => Rule.enc (nth (kept p g n) i)) (by simp [go_sem]; first | exact ⟨rfl, rfl, rfl⟩ | exact ⟨rfl, rfl⟩ | rfl) (by omega) (by exact fun i hi => by rw [hk, nth_lst (by omega)]; rfl) (by simp [go_sem]; rfl) ?_
    refine awp_ret ?_
    simp [go_sem, Tryz.results171, hkl]
    exact leaves_app (by simp [go_sem])
  · have d0 := c0; try simp at d0
    obtain ⟨i0, hi0, he, hk0⟩ := idx_kept d0
    refine awp_skip ?_
    refine awp_seq ?_
    refine awp_reg_seq fun K hK => ?_
    simp [go_sem, c0, d0, he]
    try simp (disch := omega) only [wrapI]
    repeat refine ⟨by omega, ?_⟩
    refine hK _ ?_; clear hK K
    refine awp_block ?_
    refine awp_forget [0, 1, 5, 6] (by simp [go_sem, restr]; rfl) ?_
    refine awp_loopU (α := Nat × (Nat → Rule)) (fun x => [(5, .d (I ((kept p g x.1).length : Nat))), (6, .d (I x.1))]) (fun x => σ ++ .arr 6 n (fun i => Rule.enc (x.2 i)) :: τ) (fun x => x.1 ≤ n ∧ (kept p g x.1).length < x.1 ∧ (∀ q, q < (kept p g x.1).length → x.2 q = nth (kept p g x.1) q) ∧ ∀ q, x.1 ≤ q → x.2 q = g q) (fun x => n - x.1) (i0 + 1, g) (by simp [go_sem, hk0, he, lst_length]) rfl (⟨by dsimp only; omega, by dsimp only; rw [hk0, lst_length]; omega, by dsimp only; rw [hk0, lst_length]; intro q hq; rw [nth_lst hq], fun q _ => rfl⟩) ?_
    rintro ⟨j, h⟩ ⟨hj, hc, h1, h2⟩
    dsimp only at hj hc h1 h2
    refine awp_seq ?_
    refine awp_reg_seq fun K hK => ?_
    simp [go_sem, c0, d0, he]
    repeat refine ⟨by omega, ?_⟩
    refine hK _ ?_; clear hK K
    refine awp_forget [0, 1, 5, 6, 19] (by simp only [restr, List.contains_cons, List.contains_nil, Nat.reduceBEq, Bool.or_false, Bool.or_true, Bool.true_or, Bool.false_or, if_true, if_false, Bool.false_eq_true]; rfl) ?_
    refine awp_cond rfl (fun c1 => ?_) (fun c1 => ?_)
    · have d1 := c1; try simp at d1
      have hlj := hlen j
      refine awp_skip ?_
      refine awp_seq ?_
      refine awp_block ?_
      refine awp_reg_seq fun K hK => ?_
      simp [go_sem, c0, d0, he, c1, d1]
      repeat refine ⟨by omega, ?_⟩
      refine hK _ ?_; clear hK K
      refine awp_reg_seq fun K hK => ?_
      simp [go_sem, c0, d0, he, c1, d1]
      repeat refine ⟨by omega, ?_⟩
      refine CSk.mk (hf h (h j) _) ?_
      simp [go_sem, c0, d0, he, c1, d1]
      repeat refine ⟨by omega, ?_⟩
      refine hK _ ?_; clear hK K
      refine awp_forget [0, 1, 5, 6, 7, 29] (by simp only [restr, List.contains_cons, List.contains_nil, Nat.reduceBEq, Bool.or_false, Bool.or_true, Bool.true_or, Bool.false_or, if_true, if_false, Bool.false_eq_true]; rfl) ?_
      refine awp_cond rfl (fun c2 => ?_) (fun c2 => ?_)
      · have d2 := c2; try simp at d2
        have hks : kept p g (j + 1) = kept p g j ++ [g j] := by rw [kept_succ, if_neg]; rw [← h2 j (Nat.le_refl _)]; simp [d2]
        refine awp_reg_seq fun K hK => ?_
        simp [go_sem, c0, d0, he, c1, d1, c2, d2, hks]
        repeat refine ⟨by omega, ?_⟩
        refine hK _ ?_; clear hK K
        refine awp_reg_end fun K hK => ?_
        simp [go_sem, c0, d0, he, c1, d1, c2, d2, hks]
        try simp (disch := omega) only [wrapI]
        repeat refine ⟨by omega, ?_⟩
        refine hK _ ?_; clear hK K
        refine awp_rows σ.length (fun q => Rule.enc (if q = (kept p g j).length then h j else h q)) (by simp [go_sem]; first | exact ⟨rfl, rfl, rfl⟩ | exact ⟨rfl, rfl⟩ | rfl) (by exact fun i hi => by split <;> rfl) (by simp [go_sem]; rfl) ?_
        refine awp_reg_end fun K hK => ?_
        simp [go_sem, c0, d0, he, c1, d1, c2, d2, hks]
        try simp (disch := omega) only [wrapI]
        repeat refine ⟨by omega, ?_⟩
        refine hK _ ?_; clear hK K
        refine ⟨(j + 1, fun q => if q = (kept p g j).length then h j else h q), back_of' (by simp [go_sem, wrap_succ (i := j) (by omega), c0, d0, he, c1, d1, c2, d2, hks]) ((leaves_app (by simp [go_sem]))) (by (simp [go_sem, wrap_succ (i := j) (by omega), c0, d0, he, c1, d1, c2, d2, hks] <;> omega)), ⟨by dsimp only; omega, by dsimp only; rw [hks]; simp; omega, by
            dsimp only; rw [hks]; intro q hq; rw [nth_app]; simp only [List.length_append, List.length_singleton] at hq
            by_cases e : q = (kept p g j).length
            · rw [if_pos e, if_neg (by omega), if_pos e, h2 j (Nat.le_refl _)]
            · rw [if_neg e, if_pos (by omega)]; exact h1 q (by omega), by
            dsimp only; intro q hq; rw [if_neg (by omega)]; exact h2 q (by omega)⟩, by first | omega | (dsimp only; omega)⟩
      · have d2 := c2; try simp at d2
        have hks : kept p g (j + 1) = kept p g j := by rw [kept_succ, if_pos]; rw [← h2 j (Nat.le_refl _)]; exact d2
        refine awp_skip ?_
        refine awp_reg_end fun K hK => ?_
        simp [go_sem, c0, d0, he, c1, d1, c2, d2, hks]
        try simp (disch := omega) only [wrapI]
        repeat refine ⟨by omega, ?_⟩
        refine hK _ ?_; clear hK K
        refine ⟨(j + 1, h), back_of' (by simp [go_sem, wrap_succ (i := j) (by omega), c0, d0, he, c1, d1, c2, d2, hks]) ((leaves_app (by simp [go_sem]))) (by (simp [go_sem, wrap_succ (i := j) (by omega), c0, d0, he, c1, d1, c2, d2, hks] <;> omega)), ⟨by dsimp only; omega, by dsimp only; rw [hks]; omega, by dsimp only; rw [hks]; exact h1, by dsimp only; intro q hq; exact h2 q (by omega)⟩, by first | omega | (dsimp only; omega)⟩
    · have d1 := c1; try simp at d1
      obtain rfl : j = n := by omega
      refine awp_exit ?_
      refine awp_reg_seq fun K hK => ?_
      simp [go_sem, c0, d0, he, c1, d1]
      repeat refine ⟨by omega, ?_⟩
      refine hK _ ?_; clear hK K
      refine awp_reg_seq fun K hK => ?_
      simp [go_sem, c0, d0, he, c1, d1]
      repeat refine ⟨by omega, ?_⟩
      refine hK _ ?_; clear hK K
      refine awp_shrink σ.length (kept p g j).length (fun i => Rule.enc (nth (kept p g j) i)) (by simp [go_sem]; first | exact ⟨rfl, rfl, rfl⟩ | exact ⟨rfl, rfl⟩ | rfl) (by omega) (by exact fun i hi => by rw [setRows, if_neg (by omega), h1 i hi]; rfl) (by simp [go_sem]; rfl) ?_
      refine awp_ret ?_
      simp [go_sem, Tryz.results171]
      exact leaves_app (by simp [go_sem])
theorem closure_closing_1_cs (σ : List Blk) (υ : List Blk) (r : Rule) (k : Int) : CSF Tryz.prog 172 [.agg (r.enc.map .d), .ptr σ.length 0] (σ ++ .var [.d (I k)] :: υ) (.d (B (r.Class != k))) := by
  refine CSF.of_body T.en172 Tryz.func172 rfl (by simp [Tryz.ntmps172]) (by simp [go_sem]) fun hwf => ?_
  refine awp_reg_seq fun K hK => ?_
  simp [go_sem, Tryz.ntmps172]
  repeat refine ⟨by omega, ?_⟩
  refine hK _ ?_; clear hK K
  refine awp_reg_seq fun K hK => ?_
  simp [go_sem]
  repeat refine ⟨by omega, ?_⟩
  refine hK _ ?_; clear hK K
  refine awp_ret ?_
  simp [go_sem, Tryz.results172] <;> omega
end Go.Proofs.YtkochmppmpmddaaGreat

/-! Azs -/
namespace Go.Abs
set_option linter.unusedVariables false
set_option linter.unusedSimpArgs false
open Go.Sort Go.Proofs
theorem onCells_eq {w : World} {blk : Nat} {C : Array Value} {e : TypeId} {f : Nat × Nat} (h : w.heap[blk]? = some (.cells C e f)) (g : Array Value → Array Value) (b : Nat) : (mapBlock w blk g).heap[b]? = if b = blk then some (.cells (g C) e f) else w.heap[b]? := by
  unfold mapBlock
  simp only [Array.getElem?_modify]
  by_cases hb : b = blk
  · subst hb; simp [h, onCells]
  · simp [hb, Ne.symm hb]
section
variable {α : Type} [Inhabited α] {enc : α → List Value} {k : Nat}
theorem holds_of {w : World} {j : Js} {σ : List Blk} (hS : RelS w j σ) {b cb n : Nat} {row : Nat → List D} {x : Nat → α} (hj : j[b]? = some (some cb)) (hb : σ[b]? = some (.arr k n row)) (hrow : ∀ i, i < n → row i = (enc (x i)).map .v) (hk : ∀ y, (enc y).length = k) : HoldsK enc k w cb 0 (lst n x).toArray := by
  obtain ⟨o, ho, hB⟩ := hS.blk b _ hb
  rw [hj] at ho; cases ho
  obtain ⟨C, e, hC, hcs, hrel⟩ := hB
  intro t ht
  simp only [size_flatK, List.size_toArray, lst_length] at ht
  have k0 : 0 < k := by rcases Nat.eq_zero_or_pos k with h | h; (subst h; simp at ht); exact h
  have hi : t / k < n := Nat.div_lt_of_lt_mul (by rwa [Nat.mul_comm] at ht)
  have hm : t % k < k := Nat.mod_lt _ k0
  have hr := (hrel (t / k) hi).2 (t % k) hm
  rw [hrow _ hi] at hr
  have hdm : t / k * k + t % k = t := Nat.div_add_mod' t k
  rw [hdm] at hr
  have hlt : t < C.size := by omega
  have e0 : ((enc (x (t / k))).map D.v).getD (t % k) default = D.v ((enc (x (t / k)))[t % k]!) := by
    have : t % k < (enc (x (t / k))).length := by rw [hk]; exact hm
    simp [List.getD_eq_getElem?_getD, this]
  rw [e0] at hr
  have hv : C.getD t Go.undef = (enc (x (t / k)))[t % k]! := by
    generalize C.getD t Go.undef = u at hr
    cases hr; rfl
  refine ⟨?_, ?_⟩
  · rw [cell_of hC, Nat.zero_add, get_flatK _ _ _ _ (by simpa [lst_length] using ht)]
    have e1 : (lst n x).toArray[t / k]! = x (t / k) := by
      simp [lst, hi]
    rw [e1, id, ← hv]
    simp [Array.getD_eq_getD_getElem?, hlt]
  · simp [World.frozen?, hC]
theorem sorted_rel {w : World} {j : Js} {σ : List Blk} (hS : RelS w j σ) {b cb n m : Nat} {row : Nat → List D} {d : Array α} {os : Array Obj} (hj : j[b]? = some (some cb)) (hb : σ[b]? = some (.arr k n row)) {row' : Nat → List D} (hrow : ∀ i, i < n → row' i = (enc (d[i]!)).map .v) (hk : ∀ y, (enc y).length = k) (hd : d.size = n) :
    RelS (sortWorldK enc k w cb 0 m d os) j (σ.set b (.arr k n row')) ∧ Ev j w j (sortWorldK enc k w cb 0 m d os) := by
  obtain ⟨o, ho, hB⟩ := hS.blk b _ hb
  rw [hj] at ho; cases ho
  obtain ⟨C, e, hC, hcs, hrel⟩ := hB
  have hcb : cb < w.heap.size := hS.lt b cb hj
  have hheap : ∀ c, c < w.heap.size → (sortWorldK enc k w cb 0 m d os).heap[c]? = if c = cb then some (.cells (putCells id 0 (flatK enc k d) C) e (0, 0)) else w.heap[c]? := by
    intro c hc
    unfold sortWorldK grow putRowK putRow
    simp only
    rw [Array.getElem?_append_left (by show c < (mapBlock _ _ _).heap.size; simpa [mapBlock, Go.Sort.ahead] using hc)]
    exact onCells_eq (w := Go.Sort.ahead w m) (blk := cb) (C := C) (e := e) (f := (0, 0)) hC (putCells id 0 (flatK enc k d)) c
  have hsz : (putCells id 0 (flatK enc k d) C).size = C.size := by simp [putCells]
  have hsize : w.heap.size ≤ (sortWorldK enc k w cb 0 m d os).heap.size := by
    unfold sortWorldK grow putRowK putRow mapBlock Go.Sort.ahead; simp
  have he : Ev j w j (sortWorldK enc k w cb 0 m d os) := by
    refine ⟨hsize, fun c hc hn => ?_, fun _ _ h => h, fun c hc => ?_, fun a ha => ?_, rfl, rfl, rfl, fun c r hr => ?_⟩
    · rw [hheap c hc, if_neg (fun h : c = cb => hn (by rw [h]; exact List.mem_of_getElem? hj))]
    · unfold World.shape?
      rw [hheap c hc]
      by_cases h : c = cb
      · subst h; simp [hC, hsz]
      · simp [h]
    · unfold World.frozen?
      rw [hheap a.block ha]
      by_cases h : a.block = cb
      · simp [h, hC]
      · simp [h]
    · have hc : c < w.heap.size := (Array.getElem?_eq_some_iff.1 hr).1
      refine ⟨r, ?_⟩
      rw [hheap c hc, if_neg (fun h : c = cb => by subst h; rw [hC] at hr; cases hr)]; exact hr
  refine ⟨⟨by simp [hS.len], fun c q hc => Nat.lt_of_lt_of_le (hS.lt c q hc) hsize, hS.inj, fun c y hy => ?_⟩, he⟩
  rw [List.getElem?_set] at hy
  split at hy
  · rename_i hbc
    subst hbc
    split at hy
    · simp only [Option.some.injEq] at hy
      subst hy
      refine ⟨some cb, hj, putCells id 0 (flatK enc k d) C, e, by rw [hheap cb hcb]; simp, by rw [hsz]; exact hcs, fun i hi => ⟨by rw [hrow i hi]; simp [hk], fun q hq => ?_⟩⟩
      rw [hrow i hi]
      have hlt : i * k + q < n * k := by
        have : (i + 1) * k ≤ n * k := Nat.mul_le_mul_right k hi
        rw [Nat.add_mul, Nat.one_mul] at this; omega
      have e1 : (i * k + q) / k = i := (blk_iff k i _ (by omega)).1 ⟨by omega, by omega⟩
      have e2 : (i * k + q) % k = q := by rw [Nat.mod_eq_sub_div_mul, e1]; omega
      have e3 : (putCells id 0 (flatK enc k d) C).getD (i * k + q) Go.undef = (enc d[i]!)[q]! := by
        have h1 : i * k + q < C.size := by omega
        have h2 := get_flatK enc k d (i * k + q) (by rw [hd]; exact hlt)
        rw [e1, e2, getElem!_pos _ _ (by simp [hd, hlt])] at h2
        rw [← h2]
        simp [putCells, Array.getD_eq_getD_getElem?, h1, hd, hlt]
      have e4 : ((enc d[i]!).map D.v).getD q default = D.v ((enc d[i]!)[q]!) := by
        have : q < (enc d[i]!).length := by rw [hk]; exact hq
        simp [List.getD_eq_getElem?_getD, this]
      rw [e3, e4]; exact .v _
    · simp at hy
  · rename_i hbc
    obtain ⟨o, ho, hB⟩ := hS.blk c y hy
    refine ⟨o, ho, hB.mono he hS.lt (.refl _ _) fun cb' hcb' => ?_⟩
    subst hcb'
    have hne : cb' ≠ cb := fun h => hbc (hS.inj _ _ _ hj (h ▸ ho))
    rw [hheap cb' (hS.lt c cb' ho), if_neg hne]
end
end Go.Abs

/-! Sm -/
namespace Go.Proofs
open Go.Shelf
def Tryz.sortRule_ren : Go.Shelf.Ren := ⟨fun | 6 => 173 | 15 => 185 | 14 => 184 | 28 => 198 | 29 => 199 | 20 => 190 | 21 => 191 | 22 => 192 | 23 => 193 | 24 => 194 | 25 => 195 | 26 => 196 | 27 => 197 | 46 => 202 | 47 => 203 | 48 => 204 | 49 => 205 | 50 => 206 | 57 => 207 | n => n, fun | 22 => 24 | 24 => 109 | 25 => 199 | 3 => 3 | 39 => 206 | 0 => 0 | 53 => 216 | 55 => 218 | 4 => 4 | 46 => 210 | 45 => 209 | 50 => 116 | 5 => 5 | 9 => 9 | 66 => 221 | 70 => 225 | 76 => 227 | 77 => 228 | n => n, fun | n => n⟩
theorem Tryz.sortRule : Go.Proofs.SlLaysF0.n6 Tryz.prog Tryz.sortRule_ren := {
  mixed := by kernel_rfl
  f6 := ⟨Tryz.f173.name, by decide, Tryz.func173.trans (congrArg some (by kernel_rfl))⟩
  f14 := ⟨Tryz.f184.name, by decide, Tryz.func184.trans (congrArg some (by kernel_rfl))⟩
  f15 := Tryz.func185.trans (congrArg some (by kernel_rfl))
  f20 := ⟨Tryz.f190.name, by decide, Tryz.func190.trans (congrArg some (by kernel_rfl))⟩
  f21 := ⟨Tryz.f191.name, by decide, Tryz.func191.trans (congrArg some (by kernel_rfl))⟩
  f22 := ⟨Tryz.f192.name, by decide, Tryz.func192.trans (congrArg some (by kernel_rfl))⟩
  f23 := ⟨Tryz.f193.name, by decide, Tryz.func193.trans (congrArg some (by kernel_rfl))⟩
  f24 := ⟨Tryz.f194.name, by decide, Tryz.func194.trans (congrArg some (by kernel_rfl))⟩
  f25 := ⟨Tryz.f195.name, by decide, Tryz.func195.trans (congrArg some (by kernel_rfl))⟩
  f26 := ⟨Tryz.f196.name, by decide, Tryz.func196.trans (congrArg some (by kernel_rfl))⟩
  f27 := ⟨Tryz.f197.name, by decide, Tryz.func197.trans (congrArg some (by kernel_rfl))⟩
  f28 := Tryz.func198.trans (congrArg some (by kernel_rfl))
  f29 := Tryz.func199.trans (congrArg some (by kernel_rfl))
  f46 := ⟨Tryz.f202.name, by decide, Tryz.func202.trans (congrArg some (by kernel_rfl))⟩
  f47 := Tryz.func203.trans (congrArg some (by kernel_rfl))
  f48 := Tryz.func204.trans (congrArg some (by kernel_rfl))
  f49 := ⟨Tryz.f205.name, by decide, Tryz.func205.trans (congrArg some (by kernel_rfl))⟩
  f50 := ⟨Tryz.f206.name, by decide, Tryz.func206.trans (congrArg some (by kernel_rfl))⟩
  f57 := ⟨Tryz.f207.name, by decide, Tryz.func207.trans (congrArg some (by kernel_rfl))⟩
  t0 := Tryz.underlying0
  a0 := Tryz.isAgg0
  z0 := Tryz.sizeOf0
  v0 := Tryz.zeroValue0
  t3 := Tryz.underlying3
  a3 := Tryz.isAgg3
  z3 := Tryz.sizeOf3
  v3 := Tryz.zeroValue3
  t4 := Tryz.underlying4
  a4 := Tryz.isAgg4
  z4 := Tryz.sizeOf4
  v4 := Tryz.zeroValue4
  t5 := Tryz.underlying5
  a5 := Tryz.isAgg5
  z5 := Tryz.sizeOf5
  v5 := Tryz.zeroValue5
  t9 := Tryz.underlying9
  a9 := Tryz.isAgg9
  z9 := Tryz.sizeOf9
  v9 := Tryz.zeroValue9
  t22 := Tryz.underlying24
  a22 := Tryz.isAgg24
  z22 := Tryz.sizeOf24
  v22 := Tryz.zeroValue24
  t25 := Tryz.underlying199
  a25 := Tryz.isAgg199
  z25 := Tryz.sizeOf199
  v25 := Tryz.zeroValue199
  t39 := Tryz.underlying206
  a39 := Tryz.isAgg206
  z39 := Tryz.sizeOf206
  v39 := Tryz.zeroValue206
  t45 := Tryz.underlying209
  a45 := Tryz.isAgg209
  z45 := Tryz.sizeOf209
  v45 := Tryz.zeroValue209
  t46 := Tryz.underlying210
  a46 := Tryz.isAgg210
  z46 := Tryz.sizeOf210
  v46 := Tryz.zeroValue210
  t50 := Tryz.underlying116
  a50 := Tryz.isAgg116
  z50 := Tryz.sizeOf116
  v50 := Tryz.zeroValue116
  t53 := Tryz.underlying216
  a53 := Tryz.isAgg216
  z53 := Tryz.sizeOf216
  v53 := Tryz.zeroValue216
  t55 := Tryz.underlying218
  a55 := Tryz.isAgg218
  z55 := Tryz.sizeOf218
  v55 := Tryz.zeroValue218
  t66 := Tryz.underlying221
  a66 := Tryz.isAgg221
  z66 := Tryz.sizeOf221
  v66 := Tryz.zeroValue221
  t70 := Tryz.underlying225
  a70 := Tryz.isAgg225
  z70 := Tryz.sizeOf225
  v70 := Tryz.zeroValue225
  t76 := Tryz.underlying227
  a76 := Tryz.isAgg227
  z76 := Tryz.sizeOf227
  v76 := Tryz.zeroValue227
  t77 := Tryz.underlying228
  a77 := Tryz.isAgg228
  z77 := Tryz.sizeOf228
  v77 := Tryz.zeroValue228 }
end Go.Proofs

/-! Bi -/
namespace Go.Proofs.YtkochmppmpmddaaGreat
open Go.Abs Go.Arch Go.Shelf Go.RowKit Go.Lib Go.Sort
set_option linter.unusedVariables false
set_option linter.unusedSimpArgs false
set_option maxRecDepth 100000
def FRule := { r : Rule // formed r = true }
instance : Inhabited FRule := ⟨⟨⟨1, 1, 0, false, ⟨0, 1⟩⟩, by decide⟩⟩
def encV (r : FRule) : List Value := [.int .i64 r.1.ID, .int .i64 r.1.Class, .int .i64 r.1.Years, .bool r.1.YearEnd, .int .i64 r.1.In.From, .int .i64 r.1.In.Until]
theorem encV_enc (r : FRule) : Rule.enc r.1 = (encV r).map .v := rfl
def cmpF (a b : FRule) : Int := a.1.In.From - b.1.In.From
set_option maxHeartbeats 1000000 in
theorem closure65 (a b : FRule) (W : World) : Calls Tryz.prog 174 #[.agg (encV a).toArray, .agg (encV b).toArray] W fun e w' => e = .returned (.int .i64 (cmpF a b)) ∧ ∃ q os', w' = grow (W.drewN q) os' := by
  obtain ⟨⟨a1, a2, a3, a4, ⟨a5, a6⟩⟩, ha⟩ := a
  obtain ⟨⟨b1, b2, b3, b4, ⟨b5, b6⟩⟩, hb⟩ := b
  have h1 := formed_in ha
  have h2 := formed_in hb
  simp only at h1 h2
  obtain ⟨h11, h12, h13⟩ := h1
  obtain ⟨h21, h22, h23⟩ := h2
  unfold cmpF encV
  simp only
  clear ha hb
  go_enter Tryz.func174, Tryz.ntmps174
  go_wp2
  go_ret
  exact ⟨rfl, 0, _, by rw [alloc_eq_grow, alloc_eq_grow, grow_grow]; rfl⟩
theorem cmpF_swo : SWO (ltOf cmpF) where
  irrefl x := by unfold ltOf cmpF; simp
  trans x y z h1 h2 := by unfold ltOf cmpF at *; simp at *; omega
  ntrans x y z h1 h2 := by unfold ltOf cmpF at *; simp at *; omega
theorem CSF.of_calls1 {P : Program} {f : FuncId} {v r : Value} (hen : entersB P f = true) (h : ∀ w, Calls P f #[v] w fun e w' => e = .returned r ∧ w' = w) (σ : List Blk) : CSF P f [.d (.v v)] σ (.d (.v r)) := by
  refine ⟨hen, fun j w vs hs hr => ?_⟩
  have hv : vs = #[v] := by
    have h0 := R_v (show R w j (.d (.v v)) (vs.getD 0 Go.undef) from hr.2 0 (by simp))
    apply Array.ext
    · simpa using hr.1
    · intro i h1 h2
      have hi : i = 0 := by simpa using h2
      subst hi
      rw [← (arr_get h1).2]; exact h0
  subst hv
  exact (h w).mono fun e w' ⟨he, hw⟩ => ⟨r, .d (.v r), σ, j, [], he, by rw [hw]; exact hs, .d (.v r), by rw [hw]; exact .refl _ _, Nat.le_refl _, .refl _ _, rfl, rfl, rfl⟩
theorem bitsLen_cs (σ : List Blk) (n : Nat) (h : n < 1000000000) : CSF Tryz.prog 185 [.d (.v (.int .u64 n))] σ (.d (I (Lib.bitLen n : Nat))) := by
  refine CSF.of_calls1 T.en185 (fun w => ?_) σ
  have h := Any.bits_Len (SlLaysF0.n15.bits (P := Tryz.prog) (ρ := Tryz.sortRule_ren) { Tryz.sortRule with }) (n : Int) w (by omega) (by omega)
  rwa [Int.toNat_natCast] at h
theorem sort_perm {n : Nat} {x : Nat → FRule} {d : Array FRule} (h : PermIn 0 n (lst n x).toArray d) : d.size = n ∧ (d.toList.map (·.1)).Perm (lst n fun i => (x i).1) := by
  obtain ⟨h1, _, h3⟩ := h
  have hs : d.size = n := by simpa [lst_length] using h1
  refine ⟨hs, ?_⟩
  have e1 : (d.extract 0 n).toList = d.toList := by rw [← hs]; simp
  have e2 : ((lst n x).toArray.extract 0 n).toList = lst n x := by
    simp only [List.extract_toArray, List.extract_eq_take_drop, List.drop_zero, Nat.sub_zero]
    exact List.take_of_length_le (by rw [lst_length]; exact Nat.le_refl _)
  rw [e1, e2] at h3
  have := h3.map (·.1)
  have e3 : (lst n x).map (·.1) = lst n fun i => (x i).1 := by simp [lst]
  rwa [e3] at this
set_option maxHeartbeats 1000000 in
theorem sortRule1_cs (σ τ : List Blk) (n : Nat) (g : Nat → Rule) (hf : ∀ i, i < n → formed (g i) = true) (hn0 : 0 < n) (hn : n < 1000000000) :
    CS Tryz.prog 173 [.ms σ.length 6 0 n, .clo (.func 174) [] []] (σ ++ .arr 6 n (fun i => Rule.enc (g i)) :: τ) (fun r σ' X => r = .tup [] ∧ X = [] ∧ ∃ L : List Rule, L.Perm (lst n g) ∧ L.Pairwise (fun a b => a.In.From ≤ b.In.From) ∧ σ' = σ ++ .arr 6 n (fun i => Rule.enc (nth L i)) :: τ) := by
  refine ⟨T.en173, fun j w vs hS hR => ?_⟩
  obtain ⟨hsz, hrel⟩ := hR
  have r0 : R w j (.ms σ.length 6 0 n) (vs.getD 0 Go.undef) := by simpa using hrel 0 (by simp)
  have r1 : R w j (.clo (.func 174) [] []) (vs.getD 1 Go.undef) := by simpa using hrel 1 (by simp)
  have hsz : vs.size = 2 := by simpa using hsz
  have hvs : vs = #[vs.getD 0 Go.undef, vs.getD 1 Go.undef] := by
    apply Array.ext
    · simp [hsz]
    · intro i h1 h2
      have hi : i = 0 ∨ i = 1 := by simp at h2; omega
      rcases hi with rfl | rfl
      · rw [← (arr_get h1).2]; rfl
      · rw [← (arr_get h1).2]; rfl
  rw [hvs]
  generalize vs.getD 0 Go.undef = v0 at r0
  generalize vs.getD 1 Go.undef = v1 at r1
  cases r1 with
  | clo ff cc h1 h2 h3 h4 =>
  have e1 : ff = #[] := Array.eq_empty_of_size_eq_zero (by simpa using h1)
  have e2 : cc = #[] := Array.eq_empty_of_size_eq_zero (by simpa using h2)
  subst e1 e2
  cases r0 with
  | ms0 p h => omega
  | msE p e m h hs hlo hm => omega
  | @ms _ _ _ _ cb c e m hj hs hc hm =>
  have hb : (σ ++ Blk.arr 6 n (fun i => Rule.enc (g i)) :: τ)[σ.length]? = some (.arr 6 n fun i => Rule.enc (g i)) := by simp
  let x : Nat → FRule := fun i => if h : formed (g i) = true then ⟨g i, h⟩ else default
  have hx : ∀ i, i < n → (x i).1 = g i := fun i hi => by simp [x, hf i hi]
  have hk : ∀ y, (encV y).length = 6 := fun y => rfl
  have hH : HoldsK encV 6 w cb 0 (lst n x).toArray := holds_of hS hj hb (fun i hi => by rw [← hx i hi]; rfl) hk
  have eg : ∀ args w, (callFunc 174 args).run Tryz.prog w = .ok (.enter 174 args) w := enters_of Tryz.func174 (by kernel_rfl) rfl
  have hds : (lst n x).toArray.size = n := by simp [lst_length]
  have hcon := AnyQ.slices_SortFunc Tryz.sortRule 6 Tryz.isAgg109 Tryz.sizeOf109 encV hk (fun y v hv => by simp [encV] at hv; rcases hv with rfl | rfl | rfl | rfl | rfl | rfl <;> rfl) cmpF cmpF_swo 174 #[] cb 0 c (lst n x).toArray w eg (fun _ _ _ _ a b => closure65 a b _) hH (hS.lt _ _ hj) (by rw [hds]; omega)
  rw [hds] at hcon
  change Calls Tryz.prog 173 _ _ _ at hcon
  simp only [Nat.zero_mul]
  refine hcon.mono ?_
  rintro e' w' ⟨rfl, d', q, os, hp, hso, rfl⟩
  obtain ⟨hd, hperm⟩ := sort_perm hp
  obtain ⟨g1, g2⟩ := sorted_rel (m := q) (os := os) hS hj hb (row' := fun i => Rule.enc (nth (d'.toList.map (·.1)) i)) (fun i hi => by
    rw [getElem!_pos d' i (by omega)]
    have : nth (d'.toList.map (·.1)) i = (d'[i]'(by omega)).1 := by simp [nth, show i < d'.size by omega]
    rw [this]; rfl) hk hd
  refine ⟨_, .tup [], _, j, [], rfl, g1, .tup #[] (Nat.le_refl _) (by simp), g2, Nat.le_refl _, .refl _ _, rfl, rfl, d'.toList.map (·.1), ?_, ?_, ?_⟩
  · refine hperm.trans (List.Perm.of_eq ?_)
    exact lst_ext.2 hx
  · rw [List.pairwise_iff_getElem]
    intro i k hi hk' hik
    simp only [List.length_map, Array.length_toList] at hi hk'
    have := hso i k (Nat.zero_le _) hik (by omega)
    rw [getElem!_pos d' i hi, getElem!_pos d' k hk'] at this
    unfold ltOf cmpF at this
    simp at this ⊢; omega
  · simp only [app_set0, List.set_cons_zero]
end Go.Proofs.YtkochmppmpmddaaGreat

/-! Bj -/
namespace Go.Proofs.YtkochmppmpmddaaGreat
open Go.Abs Go.Arch
set_option linter.unusedVariables false
set_option linter.unusedSimpArgs false
set_option maxRecDepth 100000
set_option maxHeartbeats 400000
theorem insert0_cs (σ : List Blk) (τ : List Blk) (row : Nat → List D) : CSF Tryz.prog 190 [.ms σ.length 6 0 0, .d (I 0), .d (I 0), .clo (.func 174) [] []] (σ ++ .arr 6 0 row :: τ) (.tup []) := by
  refine CSF.of_body T.en190 Tryz.func190 rfl (by simp [Tryz.ntmps190]) (by simp [go_sem]) fun hwf => ?_
  refine awp_reg_seq fun K hK => ?_
  simp [go_sem, Tryz.ntmps190]
  try simp (disch := omega) only [wrapI]
  repeat refine ⟨by omega, ?_⟩
  refine hK _ ?_; clear hK K
  refine awp_block ?_
  refine awp_forget [0, 1, 2, 3, 8] (by simp [go_sem, restr]; rfl) ?_
  refine awp_loopU (α := Unit) (fun x => []) (fun x => _) (fun x => True) (fun x => 0) () (by simp [go_sem]) rfl (trivial) ?_
  rintro ⟨⟩ -
  refine awp_seq ?_
  refine awp_reg_seq fun K hK => ?_
  simp [go_sem]
  repeat refine ⟨by omega, ?_⟩
  refine hK _ ?_; clear hK K
  refine awp_forget [0, 1, 2, 3, 8, 14] (by simp only [restr, List.contains_cons, List.contains_nil, Nat.reduceBEq, Bool.or_false, Bool.or_true, Bool.true_or, Bool.false_or, if_true, if_false, Bool.false_eq_true]; rfl) ?_
  refine awp_cond rfl (fun c0 => ?_) (fun c0 => ?_)
  · have d0 := c0; try simp at d0
  · have d0 := c0; try simp at d0
    refine awp_exit ?_
    simp [go_sem, Tryz.results190, c0, d0] <;> omega
theorem pdq0_cs (σ : List Blk) (τ : List Blk) (row : Nat → List D) (l : Int) : CSF Tryz.prog 184 [.ms σ.length 6 0 0, .d (I 0), .d (I 0), .d (I l), .clo (.func 174) [] []] (σ ++ .arr 6 0 row :: τ) (.tup []) := by
  refine CSF.of_body T.en184 Tryz.func184 rfl (by simp [Tryz.ntmps184]) (by simp [go_sem]) fun hwf => ?_
  refine awp_reg_seq fun K hK => ?_
  simp [go_sem, Tryz.ntmps184]
  repeat refine ⟨by omega, ?_⟩
  refine hK _ ?_; clear hK K
  refine awp_reg_seq fun K hK => ?_
  simp [go_sem]
  repeat refine ⟨by omega, ?_⟩
  refine hK _ ?_; clear hK K
  refine awp_block ?_
  refine awp_forget [0, 1, 2, 3, 4, 10, 11] (by simp [go_sem, restr]; rfl) ?_
  refine awp_loopU (α := Unit) (fun x => []) (fun x => _) (fun x => True) (fun x => 0) () (by simp [go_sem]) rfl (trivial) ?_
  rintro ⟨⟩ -
  refine awp_block ?_
  refine awp_reg_seq fun K hK => ?_
  simp [go_sem]
  try simp (disch := omega) only [wrapI]
  repeat refine ⟨by omega, ?_⟩
  refine hK _ ?_; clear hK K
  refine awp_seq ?_
  refine awp_reg_seq fun K hK => ?_
  simp [go_sem]
  repeat refine ⟨by omega, ?_⟩
  refine hK _ ?_; clear hK K
  refine awp_forget [0, 1, 2, 3, 4, 10, 11, 12, 25] (by simp only [restr, List.contains_cons, List.contains_nil, Nat.reduceBEq, Bool.or_false, Bool.or_true, Bool.true_or, Bool.false_or, if_true, if_false, Bool.false_eq_true]; rfl) ?_
  refine awp_cond rfl (fun c0 => ?_) (fun c0 => ?_)
  · have d0 := c0; try simp at d0
    refine awp_reg_seq fun K hK => ?_
    simp [go_sem, c0, d0]
    repeat refine ⟨by omega, ?_⟩
    refine CSk.mk (insert0_cs σ τ row) ?_
    simp [go_sem, c0, d0]
    repeat refine ⟨by omega, ?_⟩
    refine hK _ ?_; clear hK K
    refine awp_ret ?_
    simp [go_sem, Tryz.results184, c0, d0] <;> omega
  · have d0 := c0; try simp at d0
theorem sort0_cs (σ : List Blk) (τ : List Blk) (row : Nat → List D) : CSF Tryz.prog 173 [.ms σ.length 6 0 0, .clo (.func 174) [] []] (σ ++ .arr 6 0 row :: τ) (.tup []) := by
  refine CSF.of_body T.en173 Tryz.func173 rfl (by simp [Tryz.ntmps173]) (by simp [go_sem]) fun hwf => ?_
  refine awp_reg_seq fun K hK => ?_
  simp [go_sem, Tryz.ntmps173]
  repeat refine ⟨by omega, ?_⟩
  refine hK _ ?_; clear hK K
  refine awp_reg_end fun K hK => ?_
  simp [go_sem]
  repeat refine ⟨by omega, ?_⟩
  refine CSk.mk (bitsLen_cs _ 0 (by omega)) ?_
  simp [go_sem]
  repeat refine ⟨by omega, ?_⟩
  refine CSk.mk (pdq0_cs σ τ row _) ?_
  simp [go_sem]
  repeat refine ⟨by omega, ?_⟩
  refine hK _ ?_; clear hK K
  simp [go_sem, Tryz.results173] <;> omega
theorem sortRule_cs (σ τ : List Blk) (n : Nat) (g : Nat → Rule) (hf : ∀ i, i < n → formed (g i) = true) (hn : n < 1000000000) :
    CS Tryz.prog 173 [.ms σ.length 6 0 n, .clo (.func 174) [] []] (σ ++ .arr 6 n (fun i => Rule.enc (g i)) :: τ) (fun r σ' X => r = .tup [] ∧ X = [] ∧ ∃ (L : List Rule) (row : Nat → List D), L.Perm (lst n g) ∧ L.Pairwise (fun a b => a.In.From ≤ b.In.From) ∧ (∀ i, i < n → row i = Rule.enc (nth L i)) ∧ σ' = σ ++ .arr 6 n row :: τ) := by
  rcases Nat.eq_zero_or_pos n with h | h
  · subst h
    exact (sort0_cs σ τ _).cs ⟨rfl, rfl, [], _, by simp [lst], .nil, fun i hi => by omega, rfl⟩
  · refine (sortRule1_cs σ τ n g hf h hn).mono ?_
    rintro r σ' X ⟨h1, h2, L, h3, h4, h5⟩
    exact ⟨h1, h2, L, _, h3, h4, fun _ _ => rfl, h5⟩
theorem kept_formed {n : Nat} {g : Nat → Rule} {p : Rule → Bool} (hf : ∀ i, i < n → formed (g i) = true) {i : Nat} (hi : i < (kept p g n).length) : formed (nth (kept p g n) i) = true := by
  rw [nth_eq hi]
  have hm := List.getElem_mem hi
  generalize (kept p g n)[i] = y at hm
  unfold kept at hm
  have := (List.mem_filter.1 hm).1
  simp only [lst, List.mem_map, List.mem_range] at this
  obtain ⟨q, hq, he⟩ := this
  rw [← he]; exact hf q hq
def ownP (k : Int) (r : Rule) : Bool := r.Class != k
theorem closure_closing_cs (σ : List Blk) (c : Option Nat) (n : Nat) (g : Nat → Rule) (k : Int) (m : Dating) (hf : ∀ i, i < n → formed (g i) = true) (hn : n < 1000000000) : CS Tryz.prog 157 [.d (SL c 6 Rule.enc n g), .d (I k), .agg (m.enc.map .d)] σ (fun r σ' X => ∃ L : List Rule, L.Perm (kept (ownP k) g n) ∧ L.Pairwise (fun a b => a.In.From ≤ b.In.From) ∧ r = .clo (.func 175) [] [.ptr (σ.length + 3) 0, .ptr (σ.length + 1) 0] ∧ σ' = σ ++ [.var [.d (I k)], .var (m.enc.map .d), .arr 6 L.length (fun i => Rule.enc (nth L i)), .var [.ms (σ.length + 2) 6 0 L.length]] ∧ X = []) := by
  have hkl := kept_len (ownP k) g n
  refine CS.of_bodyW T.en157 Tryz.func157 rfl (by simp [Tryz.ntmps157]) fun hwf => ?_
  refine awp_reg_seq fun K hK => ?_
  simp [go_sem, Tryz.ntmps157]
  repeat refine ⟨by omega, ?_⟩
  refine hK _ ?_; clear hK K
  refine awp_reg_seq fun K hK => ?_
  simp [go_sem]
  repeat refine ⟨by omega, ?_⟩
  refine CSk.gen (cloneRuleM_cs _ c n g hn) ?_; rintro r σ' X ⟨rfl, rfl, rfl⟩
  simp [go_sem]
  repeat refine ⟨by omega, ?_⟩
  have hdel := deleteRule_cs (σ ++ [.var [.d (I k)], .var (m.enc.map .d)]) [] n g 172 [.ptr σ.length 0] (ownP k) hn (fun h r υ => by simpa [ownP] using closure_closing_1_cs σ (.var (m.enc.map .d) :: .arr 6 n (fun i => Rule.enc (h i)) :: υ) r k); simp only [List.append_assoc, List.cons_append, List.nil_append, List.length_append, List.length_cons, List.length_nil, Nat.zero_add, Nat.reduceAdd] at hdel; refine CSk.gen hdel ?_; rintro r σ' X ⟨rfl, rfl, rfl⟩
  simp [go_sem]
  repeat refine ⟨by omega, ?_⟩
  refine hK _ ?_; clear hK K
  refine awp_reg_seq fun K hK => ?_
  simp [go_sem]
  repeat refine ⟨by omega, ?_⟩
  have hso := sortRule_cs (σ ++ [.var [.d (I k)], .var (m.enc.map .d)]) [.var [.ms (σ.length + 2) 6 0 (kept (ownP k) g n).length]] (kept (ownP k) g n).length (nth (kept (ownP k) g n)) (fun i hi => kept_formed hf hi) (by omega); simp only [List.append_assoc, List.cons_append, List.nil_append, List.length_append, List.length_cons, List.length_nil, Nat.zero_add, Nat.reduceAdd] at hso; refine CSk.gen hso ?_; rintro r σ' X ⟨rfl, rfl, L, row, hp, hs, hrow, rfl⟩
  simp [go_sem]
  repeat refine ⟨by omega, ?_⟩
  refine hK _ ?_; clear hK K
  have hLl : L.length = (kept (ownP k) g n).length := by rw [hp.length_eq, lst_length]
  rw [lst_nth] at hp
  refine awp_rows (σ.length + 2) (fun i => Rule.enc (nth L i)) (by simp [go_sem]; first | exact ⟨rfl, rfl, rfl⟩ | exact ⟨rfl, rfl⟩ | rfl) (by exact hrow) (by simp [go_sem]; rfl) ?_
  refine awp_reg_seq fun K hK => ?_
  simp [go_sem]
  repeat refine ⟨by omega, ?_⟩
  refine hK _ ?_; clear hK K
  refine awp_ret ?_
  simp [go_sem, Tryz.results157]
  exact ⟨L, hp, hs, by simp [hLl]⟩
end Go.Proofs.YtkochmppmpmddaaGreat

/-! Bk -/
namespace Go.Proofs.YtkochmppmpmddaaGreat
open Go.Abs Go.Arch
set_option linter.unusedVariables false
set_option linter.unusedSimpArgs false
set_option maxRecDepth 100000
set_option maxHeartbeats 400000
structure Rounds (S : Nat → List Blk) (L : List Rule) (m : Dating) (y a b c o : Nat) : Prop where
  ha : ∀ i υ, (S i ++ υ)[a]? = some (.var [.ms c 6 0 L.length])
  ha0 : ∀ i, (S i)[a]? = some (.var [.ms c 6 0 L.length])
  hb0 : ∀ i, (S i)[b]? = some (.var (m.enc.map .d))
  hc0 : ∀ i, (S i)[c]? = some (.arr 6 L.length fun q => Rule.enc (nth L q))
  hb : ∀ i υ, (S i ++ υ)[b]? = some (.var (m.enc.map .d))
  hc : ∀ i υ, (S i ++ υ)[c]? = some (.arr 6 L.length fun q => Rule.enc (nth L q))
  hlv : ∀ i, Abs.Leaves (S 0) (S i)
  hls : ∀ i, Abs.Leaves (S i) (S (i + 1))
  hol : ∀ i, ¬ (S i).length = o
  hol1 : ∀ i, ¬ (S i).length + 1 = o
  hyo : y ≠ o
  hao : a ≠ o
  hbo : b ≠ o
  hco : c ≠ o
  yes : ∀ i, i < L.length → (clSpan m (nth L i)).From < (clSpan m (nth L i)).Until → ∀ υ : List Blk, υ.map (scrubV [o]) = υ → YS Tryz.prog y [.agg ((clSpan m (nth L i)).enc.map .d)] (S i ++ υ) (fun r σ' X => X = [o] ∧ r = .d (B true) ∧ σ' = S (i + 1) ++ υ)
  no : ∀ i, i < L.length → ¬ (clSpan m (nth L i)).From < (clSpan m (nth L i)).Until → S (i + 1) = S i
theorem closure_closing_3_cs (σ : List Blk) (S : Nat → List Blk) (L : List Rule) (m : Dating) (y a b c o : Nat) (h : Rounds S L m y a b c o) (hn : L.length < 1000000000) : CS Tryz.prog 175 [.yld y, .ptr a 0, .ptr b 0] (S 0) (fun r σ' X' => X' = [o] ∧ r = .tup [] ∧ σ' = S L.length) := by
  refine CS.of_bodyD [o] T.en175 Tryz.func175 rfl (by simp [Tryz.ntmps175]) fun hwf => ?_
  refine awp_reg_seq fun K hK => ?_
  simp [go_sem, Tryz.ntmps175, h.hol, h.hol1, h.ha, h.ha0, h.hb, h.hc, h.hb0, h.hc0, h.hyo, h.hao, h.hbo, h.hco]
  repeat refine ⟨by omega, ?_⟩
  refine hK _ ?_; clear hK K
  refine awp_block ?_
  refine awp_forget [0, 2, 7, 8, 9] (by simp [go_sem, restr]; rfl) ?_
  refine awp_mv [o] (by simp) ?_
  refine awp_loopU (α := Nat) (fun i => [(9, .d (I i))]) (fun i => S i) (fun i => i ≤ L.length) (fun i => L.length - i) 0 (by simp [go_sem, h.hol, h.hol1, h.ha, h.ha0, h.hb, h.hc, h.hb0, h.hc0, h.hyo, h.hao, h.hbo, h.hco]) rfl (by simp) ?_
  rintro i hi
  refine awp_reg_seq fun K hK => ?_
  simp [go_sem, h.hol, h.hol1, h.ha, h.ha0, h.hb, h.hc, h.hb0, h.hc0, h.hyo, h.hao, h.hbo, h.hco]
  repeat refine ⟨by omega, ?_⟩
  refine hK _ ?_; clear hK K
  refine awp_seq ?_
  refine awp_forget [0, 2, 7, 8, 9, 10] (by simp only [restr, List.contains_cons, List.contains_nil, Nat.reduceBEq, Bool.or_false, Bool.or_true, Bool.true_or, Bool.false_or, if_true, if_false, Bool.false_eq_true]; rfl) ?_
  refine awp_cond rfl (fun c0 => ?_) (fun c0 => ?_)
  · have d0 := c0; try simp at d0
    refine awp_skip ?_
    refine awp_seq ?_
    refine awp_block ?_
    refine awp_reg_seq fun K hK => ?_
    simp [go_sem, h.hol, h.hol1, h.ha, h.ha0, h.hb, h.hc, h.hb0, h.hc0, h.hyo, h.hao, h.hbo, h.hco, c0, d0]
    repeat refine ⟨by omega, ?_⟩
    refine hK _ ?_; clear hK K
    apply awp_own_seq 12 11 13 T.mixed (by kernel_rfl)
    · intro τ K hK
      simp [go_sem, h.hol, h.hol1, h.ha, h.ha0, h.hb, h.hc, h.hb0, h.hc0, h.hyo, h.hao, h.hbo, h.hco, c0, d0]
      repeat refine ⟨by omega, ?_⟩
      refine CSg.mk (closure_until_cs _ _ _) ?_
      simp [go_sem, h.hol, h.hol1, h.ha, h.ha0, h.hb, h.hc, h.hb0, h.hc0, h.hyo, h.hao, h.hbo, h.hco, c0, d0]
      repeat refine ⟨by omega, ?_⟩
      exact hK _ _
    intro K hK
    simp [go_sem, h.hol, h.hol1, h.ha, h.ha0, h.hb, h.hc, h.hb0, h.hc0, h.hyo, h.hao, h.hbo, h.hco, c0, d0]
    repeat refine ⟨by omega, ?_⟩
    refine hK _ ?_; clear hK K
    refine awp_reg_seq fun K hK => ?_
    simp [go_sem, h.hol, h.hol1, h.ha, h.ha0, h.hb, h.hc, h.hb0, h.hc0, h.hyo, h.hao, h.hbo, h.hco, c0, d0]
    repeat refine ⟨by omega, ?_⟩
    by_cases hs : (clSpan m (nth L i)).From < (clSpan m (nth L i)).Until
    · have hs' : (nth L i).In.From < min (nth L i).In.Until (lastF (nth L i) m + 1) := hs
      refine ⟨.undef, fun _ => YSk.gen (h.yes i d0 hs _ (by simp [go_sem, scrubV])) ?_, fun hf => by simp [hs'] at hf⟩
      rintro r σ' X ⟨rfl, rfl, rfl⟩
      simp [go_sem, h.hol, h.hol1, h.ha, h.ha0, h.hb, h.hc, h.hb0, h.hc0, h.hyo, h.hao, h.hbo, h.hco, c0, d0, hs']
      repeat refine ⟨by omega, ?_⟩
      refine hK _ ?_; clear hK K
      refine awp_forget [0, 2, 7, 8, 9, 34] (by simp only [restr, List.contains_cons, List.contains_nil, Nat.reduceBEq, Bool.or_false, Bool.or_true, Bool.true_or, Bool.false_or, if_true, if_false, Bool.false_eq_true]; rfl) ?_
      refine awp_cond rfl (fun c1 => ?_) (fun c1 => ?_)
      · simp at c1
      · refine awp_skip ?_
        refine awp_reg_end fun K hK => ?_
        simp [go_sem, h.hol, h.hol1, h.ha, h.ha0, h.hb, h.hc, h.hb0, h.hc0, h.hyo, h.hao, h.hbo, h.hco, c0, d0, hs']
        try simp (disch := omega) only [wrapI]
        repeat refine ⟨by omega, ?_⟩
        refine hK _ ?_; clear hK K
        refine ⟨i + 1, back_of' (by simp [go_sem, h.hol, h.hol1, h.ha, h.ha0, h.hb, h.hc, h.hb0, h.hc0, h.hyo, h.hao, h.hbo, h.hco, c0, d0, hs']) (h.hls i) (by (simp [go_sem, h.hol, h.hol1, h.ha, h.ha0, h.hb, h.hc, h.hb0, h.hc0, h.hyo, h.hao, h.hbo, h.hco, c0, d0, hs', wrap_succ (i := i) (by omega)] <;> omega)), by omega, by first | omega | (dsimp only; omega)⟩
    · have hs' : ¬ (nth L i).In.From < min (nth L i).In.Until (lastF (nth L i) m + 1) := hs
      have hno := h.no i d0 hs
      refine ⟨.d (B true), fun hf => by simp [hs'] at hf, fun _ => ?_⟩
      simp [go_sem, h.hol, h.hol1, h.ha, h.ha0, h.hb, h.hc, h.hb0, h.hc0, h.hyo, h.hao, h.hbo, h.hco, c0, d0, hs']
      repeat refine ⟨by omega, ?_⟩
      refine hK _ ?_; clear hK K
      refine awp_forget [0, 2, 7, 8, 9, 34] (by simp only [restr, List.contains_cons, List.contains_nil, Nat.reduceBEq, Bool.or_false, Bool.or_true, Bool.true_or, Bool.false_or, if_true, if_false, Bool.false_eq_true]; rfl) ?_
      refine awp_cond rfl (fun c1 => ?_) (fun c1 => ?_)
      · simp at c1
      · refine awp_skip ?_
        refine awp_reg_end fun K hK => ?_
        simp [go_sem, h.hol, h.hol1, h.ha, h.ha0, h.hb, h.hc, h.hb0, h.hc0, h.hyo, h.hao, h.hbo, h.hco, c0, d0, hs']
        try simp (disch := omega) only [wrapI]
        repeat refine ⟨by omega, ?_⟩
        refine hK _ ?_; clear hK K
        refine ⟨i + 1, back_of' (by simp [go_sem, h.hol, h.hol1, h.ha, h.ha0, h.hb, h.hc, h.hb0, h.hc0, h.hyo, h.hao, h.hbo, h.hco, c0, d0, hs', hno]) (h.hls i) (by (simp [go_sem, h.hol, h.hol1, h.ha, h.ha0, h.hb, h.hc, h.hb0, h.hc0, h.hyo, h.hao, h.hbo, h.hco, c0, d0, hs', wrap_succ (i := i) (by omega)] <;> omega)), by omega, by first | omega | (dsimp only; omega)⟩
  · have d0 := c0; try simp at d0
    refine awp_exit ?_
    have he : i = L.length := by omega
    subst he
    simp [go_sem, Tryz.results175, c0, d0]
    exact h.hlv _
end Go.Proofs.YtkochmppmpmddaaGreat

/-! Bm -/
namespace Go.Proofs.YtkochmppmpmddaaGreat
open Go.Abs Go.Arch
set_option linter.unusedVariables false
set_option linter.unusedSimpArgs false
def spansOf (m : Dating) (L : List Rule) (S : List Span) : List Span := L.foldl (fun S r => addSpan S (clSpan m r)) S
theorem mem_kept {n : Nat} {g : Nat → Rule} {k : Int} {r : Rule} : r ∈ kept (ownP k) g n ↔ ∃ i, i < n ∧ g i = r ∧ r.Class = k := by
  unfold kept
  rw [List.mem_filter]
  simp only [lst, List.mem_map, List.mem_range, ownP]
  constructor
  · rintro ⟨⟨i, h1, h2⟩, h3⟩
    exact ⟨i, h1, h2, by simpa using h3⟩
  · rintro ⟨i, h1, h2, h3⟩
    exact ⟨⟨i, h1, h2⟩, by simpa using h3⟩
def apart (a b : Rule) : Prop := a.In.Until ≤ b.In.From ∨ b.In.Until ≤ a.In.From
theorem apart.symm {a b : Rule} (h : apart a b) : apart b a := h.elim .inr .inl
theorem not_clash {n : Nat} {g : Nat → Rule} (h0 : check n g = 0) {i j : Nat} (hij : i < j) (hj : j < n) (hc : (g i).Class = (g j).Class) : apart (g i) (g j) := by
  have h := ((check_zero h0).2 j hj).2.2
  have hm : g i ∈ lst j g := by
    simp only [lst, List.mem_map, List.mem_range]
    exact ⟨i, hij, rfl⟩
  have := List.any_eq_false.1 h _ hm
  unfold clash at this
  unfold apart
  simp [hc] at this
  omega
theorem kept_apart {n : Nat} {g : Nat → Rule} (h0 : check n g = 0) (k : Int) : (kept (ownP k) g n).Pairwise apart := by
  have key : ∀ q, q ≤ n → (kept (ownP k) g q).Pairwise apart := by
    intro q
    induction q with
    | zero => intro _; simp [kept, lst]
    | succ q ih =>
      intro hq
      rw [kept_succ]
      split
      · exact ih (by omega)
      · rename_i hc
        refine List.pairwise_append.2 ⟨ih (by omega), by simp, fun a ha b hb => ?_⟩
        simp at hb
        subst hb
        obtain ⟨i, h1, h2, h3⟩ := mem_kept.1 ha
        have hk : (g q).Class = k := by simpa [ownP] using hc
        rw [← h2]
        exact not_clash h0 h1 (by omega) (by rw [h2, h3, hk])
  exact key n (Nat.le_refl _)
theorem kept_all {n : Nat} {g : Nat → Rule} (h0 : check n g = 0) {k : Int} {r : Rule} (h : r ∈ kept (ownP k) g n) : formed r = true := by
  obtain ⟨i, h1, h2, _⟩ := mem_kept.1 h
  rw [← h2]; exact ((check_zero h0).2 i h1).1
theorem sorted_chain {n : Nat} {g : Nat → Rule} (h0 : check n g = 0) {k : Int} {L : List Rule} (hp : L.Perm (kept (ownP k) g n)) (hs : L.Pairwise fun a b => a.In.From ≤ b.In.From) : L.Pairwise fun a b => a.In.Until ≤ b.In.From := by
  have ha : L.Pairwise apart := (hp.pairwise_iff fun {a b} h => apart.symm h).2 (kept_apart h0 k)
  have hf : ∀ r ∈ L, formed r = true := fun r hr => kept_all h0 (hp.mem_iff.1 hr)
  refine List.Pairwise.imp_of_mem ?_ (hs.and ha)
  rintro a b hma hmb ⟨h1, h2⟩
  have fa := formed_in (hf a hma)
  have fb := formed_in (hf b hmb)
  rcases h2 with h2 | h2 <;> omega
theorem nextF_min (g : Nat → Rule) (k f : Int) : ∀ n, ((nextF g k f n).2 = false → ∀ i, i < n → (g i).Class = k → (g i).In.From < f) ∧ ((nextF g k f n).2 = true → ∀ i, i < n → (g i).Class = k → f ≤ (g i).In.From → (nextF g k f n).1.In.From ≤ (g i).In.From)
  | 0 => ⟨fun _ i hi => by omega, fun _ i hi => by omega⟩
  | n + 1 => by
    obtain ⟨ih1, ih2⟩ := nextF_min g k f n
    rw [nextF]
    split
    · rename_i hc
      unfold nextC at hc
      simp at hc
      refine ⟨by simp, fun _ i hi hk hf => ?_⟩
      by_cases he : i = n
      · subst he; exact Int.le_refl _
      · rcases hc.2 with h | h
        · have := ih1 h i (by omega) hk; omega
        · cases h2 : (nextF g k f n).2 with
          | false => have := ih1 h2 i (by omega) hk; omega
          | true =>
            have := ih2 h2 i (by omega) hk hf
            simp only
            omega
    · rename_i hc
      unfold nextC at hc
      simp at hc
      refine ⟨fun h i hi hk => ?_, fun h i hi hk hf => ?_⟩
      · by_cases he : i = n
        · subst he
          rcases Int.lt_or_le (g i).In.From f with hlt | hle
          · exact hlt
          · have := hc hk hle; rw [h] at this; simp at this
        · exact ih1 h i (by omega) hk
      · by_cases he : i = n
        · subst he; exact (hc hk hf).2
        · exact ih2 h i (by omega) hk hf
theorem refLoop_list {n : Nat} {g : Nat → Rule} (h0 : check n g = 0) {k : Int} (m : Dating) {L : List Rule} (hm : ∀ r, r ∈ L ↔ ∃ i, i < n ∧ g i = r ∧ r.Class = k) (hc : L.Pairwise fun a b => a.In.Until ≤ b.In.From) (hf : ∀ r ∈ L, formed r = true) :
    ∀ (Q pre : List Rule) (f : Int) (S : List Span) (q : Nat), L = pre ++ Q → (∀ a ∈ pre, a.In.From < f) → (∀ b ∈ Q, f ≤ b.In.From) → Q.length ≤ q → refLoop n g k m q (nextF g k f n) S = spansOf m Q S
  | [], pre, f, S, q, hL, hpre, _, _ => by
    have h2 : (nextF g k f n).2 = false := by
      cases h : (nextF g k f n).2 with
      | false => rfl
      | true =>
        obtain ⟨i, h1, h2, h3, h4⟩ := nextF_spec g k f n h
        have : g i ∈ pre := by
          have := (hm (g i)).2 ⟨i, h1, rfl, h3⟩
          rw [hL] at this; simpa using this
        have := hpre _ this
        omega
    cases q <;> simp [refLoop, h2, spansOf]
  | r :: Q, pre, f, S, q, hL, hpre, hQ, hq => by
    obtain ⟨q, rfl⟩ : ∃ q', q = q' + 1 := ⟨q - 1, by simp at hq; omega⟩
    have hr : r ∈ L := by rw [hL]; simp
    obtain ⟨ir, hr1, hr2, hr3⟩ := (hm r).1 hr
    have hfr := hQ r (by simp)
    have hrf := formed_in (hf r hr)
    have hpw := hc
    rw [hL] at hpw
    obtain ⟨hpp, hrq, hpr⟩ := List.pairwise_append.1 hpw
    have hrq' := List.pairwise_cons.1 hrq
    have hN : nextF g k f n = (r, true) := by
      cases h : (nextF g k f n).2 with
      | false =>
        have := (nextF_min g k f n).1 h ir hr1 (by rw [hr2]; exact hr3)
        rw [hr2] at this; omega
      | true =>
        obtain ⟨i, h1, h2, h3, h4⟩ := nextF_spec g k f n h
        have hmin := (nextF_min g k f n).2 h ir hr1 (by rw [hr2]; exact hr3) (by rw [hr2]; exact hfr)
        rw [hr2] at hmin
        have hin : g i ∈ pre ++ r :: Q := by
          rw [← hL]; exact (hm (g i)).2 ⟨i, h1, rfl, h3⟩
        have he : g i = r := by
          rcases List.mem_append.1 hin with hin | hin
          · have := hpre _ hin; omega
          · rcases List.mem_cons.1 hin with hin | hin
            · exact hin
            · have := hrq'.1 _ hin
              rw [h2] at hmin
              omega
        exact Prod.ext (by rw [h2, he]) h
    rw [refLoop, hN]
    simp only [if_true]
    have := refLoop_list h0 m hm hc hf Q (pre ++ [r]) r.In.Until (addSpan S (clSpan m r)) q (by rw [hL]; simp) (fun a ha => ?_) (fun b hb => hrq'.1 b hb) (by simp at hq; omega)
    · rw [this]; rfl
    · rcases List.mem_append.1 ha with ha | ha
      · have h1 := hpr a ha r (by simp)
        have h2 := formed_in (hf a (by rw [hL]; exact List.mem_append_left _ ha))
        omega
      · simp at ha; subst ha; omega
theorem spans_eq {n : Nat} {g : Nat → Rule} (h0 : check n g = 0) {k : Int} (m : Dating) {L : List Rule} (hp : L.Perm (kept (ownP k) g n)) (hs : L.Pairwise fun a b => a.In.From ≤ b.In.From) : spansOf m L [] = refSpans n g k m := by
  have hf : ∀ r ∈ L, formed r = true := fun r hr => kept_all h0 (hp.mem_iff.1 hr)
  have hl : L.length ≤ n := by rw [hp.length_eq]; exact kept_len _ _ _
  have hn := (check_zero h0).1
  unfold refSpans
  exact (refLoop_list h0 m (fun r => hp.mem_iff.trans mem_kept) (sorted_chain h0 hp hs) hf L [] 0 [] 1048577 rfl (by simp) (fun b hb => (formed_in (hf b hb)).1) (by omega)).symm
end Go.Proofs.YtkochmppmpmddaaGreat

/-! Bl -/
namespace Go.Proofs.YtkochmppmpmddaaGreat
open Go.Abs Go.Arch
set_option linter.unusedVariables false
set_option linter.unusedSimpArgs false
set_option maxRecDepth 100000
set_option maxHeartbeats 400000
theorem spansOf_snoc (m : Dating) (L : List Rule) (i : Nat) (h : i < L.length) (S : List Span) : spansOf m (L.take (i + 1)) S = addSpan (spansOf m (L.take i) S) (clSpan m (nth L i)) := by
  rw [List.take_succ_eq_append_getElem h, nth_eq h]
  unfold spansOf
  rw [List.foldl_append]; rfl
theorem spansOf_len (m : Dating) : ∀ (L : List Rule) (S : List Span), (spansOf m L S).length ≤ S.length + L.length
  | [], S => by simp [spansOf]
  | r :: L, S => by
    have := spansOf_len m L (addSpan S (clSpan m r))
    have := addSpan_len S (clSpan m r)
    simp only [spansOf, List.foldl_cons, List.length_cons] at *
    omega
theorem awp_rangeL {P : Program} {Q : Exit → St → Prop} {s : St} {g : Operand} {ps : Array Tmp} {assign body : Code} {fid : FuncId} {first captured : List AV} (hg : val s g = some (.clo (.func fid) first captured)) (t' : List (Nat × AV)) (ht : subT t' s.t)
    (h : ∀ La : LoopA, La = ⟨s.N, t', ps, assign, body⟩ → CS P fid (first ++ (.yld s.σ.length :: captured)) (s.σ ++ [.lp La .ready none]) fun r σ' X => ∃ σ'' L' st pd, σ' = σ'' ++ [.lp L' st pd] ∧ Abs.Leaves s.σ σ'' ∧ st ≠ .busy ∧ mvNot s.σ.length X ∧ jumpQ Q (s.after σ'' X) pd) :
    AWP P (.rangeFunc g ps assign body) Q s := awp_range hg t' ht (h _ rfl)
theorem closure_spans_cs (σ : List Blk) (c : Option Nat) (n : Nat) (g : Nat → Rule) (k : Int) (m : Dating) (h0 : check n g = 0) : CSF Tryz.prog 138 [.d (SL c 6 Rule.enc n g), .d (I k), .agg (m.enc.map .d)] σ (.d (SL none 2 Span.enc (refSpans n g k m).length (nth (refSpans n g k m)))) := by
  have hn : n ≤ 64 := (check_zero h0).1
  have hf : ∀ i, i < n → formed (g i) = true := fun i hi => ((check_zero h0).2 i hi).1
  refine CSF.of_body T.en138 Tryz.func138 rfl (by simp [Tryz.ntmps138]) (by simp [go_sem]) fun hwf => ?_
  refine awp_reg_seq fun K hK => ?_
  simp [go_sem, Tryz.ntmps138]
  refine hK _ ?_; clear hK K
  refine awp_reg_seq fun K hK => ?_
  simp [go_sem]
  refine hK _ ?_; clear hK K
  refine awp_thawV (σ.length + 1) 2 (fun i => Span.enc (nth ([] : List Span) i)) (by simp [go_sem]) (by simp [go_sem]; rfl) ?_
  refine awp_seq ?_
  refine awp_reg_seq fun K hK => ?_
  simp [go_sem]
  have hcl := closure_closing_cs (σ ++ [.var (m.enc.map .d), .var [.ms (σ.length + 2) 2 0 0], .arr 2 0 (fun i => Span.enc (nth ([] : List Span) i))]) c n g k m hf (by omega)
  simp only [List.append_assoc, List.cons_append, List.nil_append, List.length_append, List.length_cons, List.length_nil, Nat.zero_add, Nat.reduceAdd] at hcl
  refine CSk.gen hcl ?_
  rintro r σ' X ⟨L, hp, hs, rfl, rfl, rfl⟩
  simp [go_sem]
  refine hK _ ?_; clear hK K
  refine awp_block ?_
  refine awp_rangeL rfl [(7, .ptr (σ.length + 1) 0)] (by simp [go_sem]) ?_
  intro La hLa
  have hll : L.length ≤ n := by rw [hp.length_eq]; exact kept_len _ _ _
  have hR : Rounds (fun i => σ ++ [.var (m.enc.map .d), .var [.ms (σ.length + 2) 2 0 (spansOf m (L.take i) []).length], .arr 2 (spansOf m (L.take i) []).length (fun q => Span.enc (nth (spansOf m (L.take i) []) q)), .var [.d (I k)], .var (m.enc.map .d), .arr 6 L.length (fun i => Rule.enc (nth L i)), .var [.ms (σ.length + 5) 6 0 L.length], .lp La .ready none]) L m (σ.length + 7) (σ.length + 6) (σ.length + 4) (σ.length + 5) (σ.length + 2) := by
    refine ⟨fun i υ => by simp [go_sem], fun i => by simp [go_sem], fun i => by simp [go_sem], fun i => by simp [go_sem], fun i υ => by simp [go_sem], fun i υ => by simp [go_sem], fun i => leaves_app (by simp [go_sem]), fun i => leaves_app (by simp [go_sem]), fun i => by simp, fun i => by simp, by omega, by omega, by omega, by omega, ?_, ?_⟩
    · intro i hi hlt υ hυ
      have hT := spansOf_snoc m L i hi []
      have hTl := spansOf_len m (L.take i) []
      have hTl' : (spansOf m (L.take i) []).length ≤ 64 := by
        simp only [List.length_take, List.length_nil] at hTl; omega
      generalize spansOf m (L.take i) [] = W at hT hTl hTl' ⊢
      generalize clSpan m (nth L i) = s at hT hlt ⊢
      refine YS.of_awp (L := La) (pd := none) (by simp [go_sem]) (by rw [hLa]; rfl) ?_
      intro hwf'
      have eN := congrArg LoopA.N hLa
      have et := congrArg LoopA.t hLa
      have ep := congrArg LoopA.ps hLa
      have ea := congrArg LoopA.assign hLa
      have eb := congrArg LoopA.body hLa
      dsimp only at eN et ep ea eb
      have h1 : scrub' [σ.length + 2] La.t = La.t := by rw [et]; simp [scrub', AV.avoids]
      rw [eN, et, ep, ea, eb]
      clear eN et ep ea eb hLa hcl
      refine awp_reg_end fun K hK => ?_
      simp [go_sem, St.putL]
      refine hK _ ?_; clear hK K
      simp [begunQ, go_sem, mvNot]
      refine awp_block ?_
      refine awp_seq ?_
      refine awp_reg_seq fun K hK => ?_
      simp [go_sem]
      refine hK _ ?_; clear hK K
      refine awp_draw_seq 13 T.mixed (by kernel_rfl) fun K hK => ?_
      simp [go_sem]
      try simp (disch := omega) only [wrapI]
      repeat refine ⟨by omega, ?_⟩
      refine hK _ ?_; clear hK K
      refine awp_forget [7, 8, 9, 29] (by simp only [restr, List.contains_cons, List.contains_nil, Nat.reduceBEq, Bool.or_false, Bool.or_true, Bool.true_or, Bool.false_or, if_true, if_false, Bool.false_eq_true]; rfl) ?_
      refine awp_cond rfl (fun c4 => ?_) (fun c4 => ?_)
      · have d4 := c4; try simp at d4
        have ha : addSpan W s = W.set (W.length - 1) ⟨(nth W (W.length - 1)).From, s.Until⟩ := by
          unfold addSpan; rw [if_pos hlt, if_pos (show joins W s from d4)]
        rw [hT, ha]
        refine awp_reg_seq fun K hK => ?_
        simp [go_sem, c4, d4]
        try simp (disch := omega) only [wrapI]
        repeat refine ⟨by omega, ?_⟩
        refine hK _ ?_; clear hK K
        refine awp_rows (σ.length + 2) (fun i => Span.enc (nth (W.set (W.length - 1) ⟨(nth W (W.length - 1)).From, s.Until⟩) i)) (by simp [go_sem]; first | exact ⟨rfl, rfl, rfl⟩ | exact ⟨rfl, rfl⟩ | rfl) (by exact fun i hi => set_nth (enc := Span.enc) (x := ⟨(nth W (W.length - 1)).From, s.Until⟩) rfl hi) (by simp [go_sem]; rfl) ?_
        refine awp_exit ?_
        simp [go_sem, roundQ, jumpOf, mvNot, mvIn]
        exact leaves_app (by simp [go_sem, leavesL_refl])
      · have d4 := c4; try simp at d4
        have ha : addSpan W s = W ++ [s] := by
          unfold addSpan; rw [if_pos hlt, if_neg (by
            unfold joins; rintro ⟨h1, h2⟩; exact d4 h1 h2)]
        rw [hT, ha]
        refine awp_skip ?_
        refine awp_post ?_
        refine awp_reg_end fun K hK => ?_
        simp [go_sem, c4, d4, hwf.one, hwf.zero, hυ, h1]
        repeat refine ⟨by omega, ?_⟩
        refine hK _ ?_; clear hK K
        refine ⟨_, sub_rows (σ.length + 2) (fun i => Span.enc (nth (W ++ [s]) i)) (by simp [go_sem]; first | exact ⟨rfl, rfl, rfl⟩ | exact ⟨rfl, rfl⟩ | rfl) (by exact fun i hi => cat_nth (enc := Span.enc) (x := s) rfl hi) (by simp [go_sem]; rfl), ?_⟩
        simp [go_sem, roundQ, jumpOf, mvNot, mvIn]
        exact leaves_app (by simp [go_sem, leavesL_refl])
    · intro i hi hlt
      have hT := spansOf_snoc m L i hi []
      have : addSpan (spansOf m (L.take i) []) (clSpan m (nth L i)) = spansOf m (L.take i) [] := by unfold addSpan; rw [if_neg hlt]
      simp only [hT, this]
  have h3 := closure_closing_3_cs σ _ L m _ _ _ _ _ hR (by omega)
  refine CS.mono (Q := fun r σ' X' => X' = [σ.length + 2] ∧ r = .tup [] ∧ σ' = _) (by simpa [go_sem, spansOf] using h3) ?_
  rintro r σ' X ⟨rfl, rfl, rfl⟩
  have he : List.foldl (fun S r => addSpan S (clSpan m r)) [] L = refSpans n g k m := spans_eq h0 m hp hs
  rw [he]
  clear h3 hR hLa hcl
  refine ⟨σ ++ [.var [.d (I m.First), .d (I m.Last)], .var [.ms (σ.length + 2) 2 0 (refSpans n g k m).length], .arr 2 (refSpans n g k m).length (fun q => [I (nth (refSpans n g k m) q).From, I (nth (refSpans n g k m) q).Until]), .var [.d (I k)], .var [.d (I m.First), .d (I m.Last)], .arr 6 L.length (fun i => [I (nth L i).ID, I (nth L i).Class, I (nth L i).Years, B (nth L i).YearEnd, I (nth L i).In.From, I (nth L i).In.Until]), .var [.ms (σ.length + 5) 6 0 L.length]], La, .ready, none, by simp, leaves_app (by simp [go_sem]), by simp, by simp [mvNot], ?_⟩
  simp [jumpQ, go_sem, scrub', AV.avoids, avoidsL]
  refine awp_reg_seq fun K hK => ?_
  simp [go_sem]
  refine hK _ ?_; clear hK K
  refine awp_freeze (σ.length + 2) (by simp [go_sem]; first | exact ⟨rfl, rfl, rfl⟩ | exact ⟨rfl, rfl⟩ | rfl) (by simp [go_sem]; rfl) (by simp [go_sem, hwf.frz, hwf.frz0]; rfl) ?_
  refine awp_ret ?_
  simp [go_sem, Tryz.results138]
end Go.Proofs.YtkochmppmpmddaaGreat

/-! Bn -/
namespace Go.Proofs.YtkochmppmpmddaaGreat
open Go.Abs Go.Arch
set_option linter.unusedVariables false
set_option linter.unusedSimpArgs false
def inS (W : List Span) (d : Int) : Prop := ∃ s ∈ W, s.From ≤ d ∧ d < s.Until
structure GoodSpans (W : List Span) : Prop where
  each : ∀ s ∈ W, 0 ≤ s.From ∧ s.From < s.Until ∧ s.Until ≤ 1048576
  apart : W.Pairwise fun a b => a.Until < b.From
theorem nth_last (W : List Span) (l : Span) : nth (W ++ [l]) ((W ++ [l]).length - 1) = l := by
  rw [nth_eq (by simp)]; simp
theorem addSpan_concat (W : List Span) (l q : Span) : addSpan (W ++ [l]) q = if q.From < q.Until then (if l.Until = q.From then W ++ [⟨l.From, q.Until⟩] else W ++ [l] ++ [q]) else W ++ [l] := by
  have hj : joins (W ++ [l]) q ↔ l.Until = q.From := by unfold joins; rw [nth_last]; simp
  unfold addSpan
  by_cases h1 : q.From < q.Until
  · rw [if_pos h1, if_pos h1]
    by_cases h2 : l.Until = q.From
    · rw [if_pos (hj.2 h2), if_pos h2, nth_last]; simp
    · rw [if_neg (fun h => h2 (hj.1 h)), if_neg h2]
  · rw [if_neg h1, if_neg h1]
theorem addSpan_nil (q : Span) : addSpan [] q = if q.From < q.Until then [q] else [] := by
  have hj : ¬ joins [] q := by unfold joins; simp
  unfold addSpan
  rw [if_neg hj]; rfl
theorem addSpan_good {W : List Span} {q : Span} (h : GoodSpans W) (hb : ∀ s ∈ W, s.Until ≤ q.From) (h0 : 0 ≤ q.From) (h1 : q.Until ≤ 1048576) :
    GoodSpans (addSpan W q) ∧ (∀ d, inS (addSpan W q) d ↔ inS W d ∨ (q.From ≤ d ∧ d < q.Until)) ∧ ∀ s ∈ addSpan W q, s.Until ≤ q.From ∨ s.Until ≤ q.Until := by
  rcases List.eq_nil_or_concat W with rfl | ⟨W, l, rfl⟩
  · rw [addSpan_nil]
    split
    · rename_i hq
      refine ⟨⟨fun s hs => by simp at hs; subst hs; exact ⟨h0, hq, h1⟩, by simp⟩, fun d => by simp [inS], fun s hs => by simp at hs; subst hs; exact .inr (Int.le_refl _)⟩
    · rename_i hq
      refine ⟨h, fun d => ?_, by simp⟩
      simp only [inS, List.not_mem_nil, false_and, exists_false, false_or, false_iff]
      omega
  · have h' := h
    obtain ⟨he, ha⟩ := h
    rw [List.concat_eq_append] at *
    obtain ⟨ha1, ha2, ha3⟩ := List.pairwise_append.1 ha
    have hl := he l (by simp)
    have hlb := hb l (by simp)
    rw [addSpan_concat]
    split
    · rename_i hq
      split
      · rename_i hj
        refine ⟨⟨fun s hs => ?_, ?_⟩, fun d => ?_, fun s hs => ?_⟩
        · rcases List.mem_append.1 hs with hs | hs
          · exact he s (List.mem_append_left _ hs)
          · simp at hs; subst hs; simp only; omega
        · refine List.pairwise_append.2 ⟨ha1, by simp, fun a hma b hmb => ?_⟩
          simp at hmb; subst hmb
          exact ha3 a hma l (by simp)
        · constructor
          · rintro ⟨s, hs, h2⟩
            rcases List.mem_append.1 hs with hs | hs
            · exact .inl ⟨s, List.mem_append_left _ hs, h2⟩
            · simp at hs; subst hs
              simp only at h2
              rcases Int.lt_or_le d l.Until with hd | hd
              · exact .inl ⟨l, by simp, by omega⟩
              · exact .inr (by omega)
          · rintro (⟨s, hs, h2⟩ | h2)
            · rcases List.mem_append.1 hs with hs | hs
              · exact ⟨s, List.mem_append_left _ hs, h2⟩
              · simp at hs; subst hs
                exact ⟨_, List.mem_append_right _ (List.mem_singleton.2 rfl), by simp only; omega⟩
            · exact ⟨_, List.mem_append_right _ (List.mem_singleton.2 rfl), by simp only; omega⟩
        · rcases List.mem_append.1 hs with hs | hs
          · exact .inl (hb s (List.mem_append_left _ hs))
          · simp at hs; subst hs; exact .inr (Int.le_refl _)
      · rename_i hj
        refine ⟨⟨fun s hs => ?_, ?_⟩, fun d => ?_, fun s hs => ?_⟩
        · rcases List.mem_append.1 hs with hs | hs
          · exact he s hs
          · simp at hs; subst hs; exact ⟨h0, hq, h1⟩
        · refine List.pairwise_append.2 ⟨ha, by simp, fun a hma b hmb => ?_⟩
          simp at hmb; subst hmb
          rcases List.mem_append.1 hma with hma | hma
          · have := ha3 a hma l (by simp); omega
          · simp at hma; subst hma; omega
        · simp only [inS, List.mem_append, List.mem_singleton]
          constructor
          · rintro ⟨s, hs | rfl, h2⟩
            · exact .inl ⟨s, hs, h2⟩
            · exact .inr h2
          · rintro (⟨s, hs, h2⟩ | h2)
            · exact ⟨s, .inl hs, h2⟩
            · exact ⟨q, .inr rfl, h2⟩
        · rcases List.mem_append.1 hs with hs | hs
          · exact .inl (hb s hs)
          · simp at hs; subst hs; exact .inr (Int.le_refl _)
    · rename_i hq
      refine ⟨h', fun d => ⟨.inl, fun h => h.elim id fun h => ?_⟩, fun s hs => .inl (hb s hs)⟩
      omega
theorem spansOf_good (m : Dating) : ∀ (L : List Rule) (W : List Span), GoodSpans W → L.Pairwise (fun a b => a.In.Until ≤ b.In.From) → (∀ r ∈ L, formed r = true) → (∀ s ∈ W, ∀ r ∈ L, s.Until ≤ r.In.From) →
    GoodSpans (spansOf m L W) ∧ ∀ d, inS (spansOf m L W) d ↔ inS W d ∨ ∃ r ∈ L, (clSpan m r).From ≤ d ∧ d < (clSpan m r).Until
  | [], W, h, _, _, _ => ⟨h, fun d => by simp [spansOf]⟩
  | r :: L, W, h, hc, hf, hb => by
    have hr := formed_in (hf r (by simp))
    obtain ⟨c1, c2⟩ := List.pairwise_cons.1 hc
    have hu : (clSpan m r).Until ≤ r.In.Until := by unfold clSpan; simp only; omega
    obtain ⟨g1, g2, g3⟩ := addSpan_good (q := clSpan m r) h (fun s hs => hb s hs r (by simp)) hr.1 (by omega)
    obtain ⟨k1, k2⟩ := spansOf_good m L (addSpan W (clSpan m r)) g1 c2 (fun x hx => hf x (by simp [hx])) fun s hs x hx => by
      have hx1 := c1 x hx
      have hfr : (clSpan m r).From = r.In.From := rfl
      rcases g3 s hs with h | h <;> omega
    refine ⟨k1, fun d => ?_⟩
    have e : spansOf m (r :: L) W = spansOf m L (addSpan W (clSpan m r)) := rfl
    rw [e, k2 d, g2 d]
    constructor
    · rintro ((h | h) | ⟨x, hx, h⟩)
      · exact .inl h
      · exact .inr ⟨r, by simp, h⟩
      · exact .inr ⟨x, by simp [hx], h⟩
    · rintro (h | ⟨x, hx, h⟩)
      · exact .inl (.inl h)
      · rcases List.mem_cons.1 hx with rfl | hx
        · exact .inl (.inr h)
        · exact .inr ⟨x, hx, h⟩
theorem refSpans_good {n : Nat} {g : Nat → Rule} (h0 : check n g = 0) (k : Int) (m : Dating) : GoodSpans (refSpans n g k m) ∧ ∀ d, inS (refSpans n g k m) d ↔ ∃ i, i < n ∧ (g i).Class = k ∧ (g i).In.From ≤ d ∧ d < (g i).In.Until ∧ d < lastF (g i) m + 1 := by
  have hp := List.mergeSort_perm (kept (ownP k) g n) fun a b => decide (a.In.From ≤ b.In.From)
  have hs := List.pairwise_mergeSort (le := fun a b : Rule => decide (a.In.From ≤ b.In.From)) (by intro a b c; simp; omega) (by intro a b; simp; omega) (kept (ownP k) g n)
  generalize (kept (ownP k) g n).mergeSort (fun a b => decide (a.In.From ≤ b.In.From)) = L at hp hs
  have hs' : L.Pairwise fun a b => a.In.From ≤ b.In.From := hs.imp fun h => by simpa using h
  rw [← spans_eq h0 m hp hs']
  obtain ⟨k1, k2⟩ := spansOf_good m L [] ⟨by simp, by simp⟩ (sorted_chain h0 hp hs') (fun r hr => kept_all h0 (hp.mem_iff.1 hr)) (by simp)
  refine ⟨k1, fun d => (k2 d).trans ?_⟩
  constructor
  · rintro (⟨s, hs, _⟩ | ⟨r, hr, h1, h2⟩)
    · simp at hs
    · obtain ⟨i, q1, q2, q3⟩ := mem_kept.1 (hp.mem_iff.1 hr)
      refine ⟨i, q1, by rw [q2]; exact q3, ?_⟩
      rw [q2]
      unfold clSpan at h1 h2
      simp only at h1 h2
      omega
  · rintro ⟨i, q1, q2, q3, q4, q5⟩
    refine .inr ⟨g i, hp.mem_iff.2 (mem_kept.2 ⟨i, q1, rfl, q2⟩), ?_⟩
    unfold clSpan
    simp only
    omega
/-! Opens -/
theorem opensF_out : ∀ (W : List Span) (f : Int), ¬ inS W f → opensF W f = f
  | [], f, _ => rfl
  | s :: W, f, h => by
    have h1 : ¬ (s.From ≤ f ∧ f < s.Until) := fun hc => h ⟨s, by simp, hc⟩
    rw [opensF, if_neg h1]
    exact opensF_out W f fun ⟨x, hx, hc⟩ => h ⟨x, by simp [hx], hc⟩
theorem opensF_in : ∀ (W : List Span) (f : Int), GoodSpans W → (opensF W f = f ∧ ¬ inS W f) ∨ ∃ s ∈ W, (s.From ≤ f ∧ f < s.Until) ∧ opensF W f = s.Until
  | [], f, _ => .inl ⟨rfl, fun ⟨s, hs, _⟩ => by simp at hs⟩
  | s :: W, f, h => by
    obtain ⟨a1, a2⟩ := List.pairwise_cons.1 h.apart
    have hW : GoodSpans W := ⟨fun x hx => h.each x (by simp [hx]), a2⟩
    rw [opensF]
    by_cases hc : s.From ≤ f ∧ f < s.Until
    · rw [if_pos hc]
      refine .inr ⟨s, by simp, hc, opensF_out W _ ?_⟩
      rintro ⟨x, hx, h1, h2⟩
      have := a1 x hx
      omega
    · rw [if_neg hc]
      rcases opensF_in W f hW with ⟨h1, h2⟩ | ⟨x, hx, h1, h2⟩
      · refine .inl ⟨h1, ?_⟩
        rintro ⟨x, hx, h3⟩
        rcases List.mem_cons.1 hx with rfl | hx
        · exact hc h3
        · exact h2 ⟨x, hx, h3⟩
      · exact .inr ⟨x, by simp [hx], h1, h2⟩
theorem good_one {W : List Span} (h : GoodSpans W) {a b : Span} (ha : a ∈ W) (hb : b ∈ W) {d : Int} (h1 : a.From ≤ d ∧ d < a.Until) (h2 : b.From ≤ d ∧ d ≤ b.Until) : a = b := by
  obtain ⟨i, hi, rfl⟩ := List.getElem_of_mem ha
  obtain ⟨j, hj, rfl⟩ := List.getElem_of_mem hb
  have hp := List.pairwise_iff_getElem.1 h.apart
  rcases Nat.lt_trichotomy i j with hij | hij | hij
  · have := hp i j hi hj hij; omega
  · subst hij; rfl
  · have := hp j i hj hi hij; omega
theorem opensF_spec {W : List Span} (h : GoodSpans W) {f : Int} (hf : f ≤ 1048576) : f ≤ opensF W f ∧ opensF W f ≤ 1048576 ∧ ¬ inS W (opensF W f) ∧ ∀ d, f ≤ d → d < opensF W f → inS W d := by
  rcases opensF_in W f h with ⟨h1, h2⟩ | ⟨s, hs, h1, h2⟩
  · rw [h1]; exact ⟨by omega, hf, h2, fun d _ _ => by omega⟩
  · rw [h2]
    have := h.each s hs
    refine ⟨by omega, by omega, ?_, fun d h3 h4 => ⟨s, hs, by omega⟩⟩
    rintro ⟨x, hx, h3⟩
    have := good_one h hx hs h3 ⟨by omega, by omega⟩
    subst this
    omega
end Go.Proofs.YtkochmppmpmddaaGreat

/-! Bo -/
namespace Go.Proofs.YtkochmppmpmddaaGreat
open Go.Abs Go.Arch
set_option linter.unusedVariables false
set_option linter.unusedSimpArgs false
set_option maxRecDepth 100000
set_option maxHeartbeats 400000
theorem asked_zero {n : Nat} {g : Nat → Rule} {k : Int} {m : Dating} {d : Int} (h : askedR n g k m d = 0) : check n g = 0 ∧ datChk m = 0 ∧ 1 ≤ k ∧ k ≤ 999 ∧ 0 ≤ d ∧ d ≤ 1048575 := by
  unfold askedR at h
  split at h
  · omega
  · split at h
    · omega
    · omega
theorem refSpansR_asked (n : Nat) (g : Nat → Rule) (k : Int) (m : Dating) : refSpansR n g k m = if askedR n g k m 0 ≠ 0 then ([], askedR n g k m 0) else (refSpans n g k m, 0) := by
  unfold refSpansR askedR
  by_cases h1 : check n g ≠ 0 ∨ datChk m ≠ 0
  · simp only [if_pos h1]; simp
  · simp only [if_neg h1]
    by_cases h2 : k < 1 ∨ 999 < k
    · rw [if_pos h2, if_pos (show k < 1 ∨ 999 < k ∨ (0 : Int) < 0 ∨ (1048575 : Int) < 0 by omega)]; simp
    · rw [if_neg h2, if_neg (show ¬ (k < 1 ∨ 999 < k ∨ (0 : Int) < 0 ∨ (1048575 : Int) < 0) by omega)]; simp
theorem refOpensR_asked (n : Nat) (g : Nat → Rule) (k : Int) (m : Dating) (f : Int) : refOpensR n g k m f = if askedR n g k m f ≠ 0 then (0, askedR n g k m f) else if opensF (refSpans n g k m) f = 1048576 then (0, 23) else (opensF (refSpans n g k m) f, 0) := by
  unfold refOpensR
  by_cases h1 : check n g ≠ 0 ∨ datChk m ≠ 0
  · have e1 : refSpansR n g k m = ([], 1) := by unfold refSpansR; rw [if_pos h1]
    have e2 : askedR n g k m f = 1 := by unfold askedR; rw [if_pos h1]
    simp [e1, e2]
  · by_cases h2 : k < 1 ∨ 999 < k
    · have e1 : refSpansR n g k m = ([], 2) := by unfold refSpansR; rw [if_neg h1, if_pos h2]
      have e2 : askedR n g k m f = 2 := by unfold askedR; rw [if_neg h1, if_pos (by omega)]
      simp [e1, e2]
    · have e1 : refSpansR n g k m = (refSpans n g k m, 0) := by unfold refSpansR; rw [if_neg h1, if_neg h2]
      by_cases h3 : f < 0 ∨ 1048575 < f
      · have e2 : askedR n g k m f = 2 := by unfold askedR; rw [if_neg h1, if_pos (by omega)]
        simp [e1, e2, h3]
      · have e2 : askedR n g k m f = 0 := by unfold askedR; rw [if_neg h1, if_neg (by omega)]
        simp only [e1, e2, if_neg h3]
        have := opensF_spec (refSpans_good (n := n) (g := g) (by omega) k m).1 (f := f) (by omega)
        simp only [ne_eq, not_true_eq_false, if_false]
        by_cases h4 : opensF (refSpans n g k m) f = 1048576
        · rw [if_pos (by omega), if_pos h4]
        · rw [if_neg (by omega), if_neg h4]
theorem closure_Opens_cs (σ : List Blk) (c : Option Nat) (n : Nat) (g : Nat → Rule) (k : Int) (m : Dating) (f : Int) (hn : n < 1000000000) : CSF Tryz.prog 105 [.d (SL c 6 Rule.enc n g), .d (I k), .agg (m.enc.map .d), .d (I f)] σ (.tup [.d (I (refOpensR n g k m f).1), .d (I (refOpensR n g k m f).2)]) := by
  refine CSF.of_body T.en105 Tryz.func105 rfl (by simp [Tryz.ntmps105]) (by simp [go_sem]) fun hwf => ?_
  refine awp_reg_seq fun K hK => ?_
  simp [go_sem, Tryz.ntmps105]
  repeat refine ⟨by omega, ?_⟩
  refine hK _ ?_; clear hK K
  refine awp_seq ?_
  refine awp_reg_seq fun K hK => ?_
  simp [go_sem]
  repeat refine ⟨by omega, ?_⟩
  refine CSk.mk (closure_asked_cs _ c n g k m f hn) ?_
  simp [go_sem]
  repeat refine ⟨by omega, ?_⟩
  refine hK _ ?_; clear hK K
  refine awp_reg_seq fun K hK => ?_
  simp [go_sem]
  repeat refine ⟨by omega, ?_⟩
  refine hK _ ?_; clear hK K
  refine awp_forget [0, 1, 3, 6, 10, 19] (by simp only [restr, List.contains_cons, List.contains_nil, Nat.reduceBEq, Bool.or_false, Bool.or_true, Bool.true_or, Bool.false_or, if_true, if_false, Bool.false_eq_true]; rfl) ?_
  refine awp_cond rfl (fun c0 => ?_) (fun c0 => ?_)
  · have d0 := c0; try simp at d0
    have hz : refOpensR n g k m f = (0, askedR n g k m f) := by rw [refOpensR_asked, if_pos d0]
    refine awp_reg_seq fun K hK => ?_
    simp [go_sem, c0, d0]
    repeat refine ⟨by omega, ?_⟩
    refine hK _ ?_; clear hK K
    refine awp_ret ?_
    rw [hz]; simp [go_sem, Tryz.results105]
  · have d0 := c0; try simp at d0
    have hz : refOpensR n g k m f = if opensF (refSpans n g k m) f = 1048576 then (0, 23) else (opensF (refSpans n g k m) f, 0) := by rw [refOpensR_asked, if_neg (by simp [d0])]
    have hlen := refLoop_len n g k m 1048577 (nextF g k 0 n) []
    simp only [List.length_nil] at hlen
    have hlen' : (refSpans n g k m).length < 2000000 := by unfold refSpans; omega
    refine awp_skip ?_
    refine awp_seq ?_
    refine awp_reg_seq fun K hK => ?_
    simp [go_sem, c0, d0]
    repeat refine ⟨by omega, ?_⟩
    refine CSk.mk (closure_spans_cs _ c n g k m (asked_zero d0).1) ?_
    simp [go_sem, c0, d0]
    repeat refine ⟨by omega, ?_⟩
    refine hK _ ?_; clear hK K
    refine awp_block ?_
    refine awp_forget [3, 24, 25, 26] (by simp [go_sem, restr]; rfl) ?_
    refine awp_loopU (α := Nat × Int) (fun x => [(3, .d (I x.2)), (26, .d (I x.1))]) (fun x => _) (fun x => x.1 ≤ (refSpans n g k m).length ∧ opensF (refSpans n g k m) f = opensF ((refSpans n g k m).drop x.1) x.2) (fun x => (refSpans n g k m).length - x.1) (0, f) (by simp [go_sem]) rfl (⟨by simp, rfl⟩) ?_
    rintro ⟨i, e⟩ ⟨hi, hx⟩
    dsimp only at hi hx
    refine awp_reg_seq fun K hK => ?_
    simp [go_sem, c0, d0]
    repeat refine ⟨by omega, ?_⟩
    refine hK _ ?_; clear hK K
    refine awp_seq ?_
    refine awp_forget [3, 24, 25, 26, 27] (by simp only [restr, List.contains_cons, List.contains_nil, Nat.reduceBEq, Bool.or_false, Bool.or_true, Bool.true_or, Bool.false_or, if_true, if_false, Bool.false_eq_true]; rfl) ?_
    refine awp_cond rfl (fun c1 => ?_) (fun c1 => ?_)
    · have d1 := c1; try simp at d1
      rw [drop_nth (by omega), opensF] at hx
      refine awp_skip ?_
      refine awp_seq ?_
      refine awp_block ?_
      refine awp_reg_seq fun K hK => ?_
      simp [go_sem, c0, d0, c1, d1]
      repeat refine ⟨by omega, ?_⟩
      refine hK _ ?_; clear hK K
      refine awp_reg_seq fun K hK => ?_
      simp [go_sem, c0, d0, c1, d1]
      repeat refine ⟨by omega, ?_⟩
      refine hK _ ?_; clear hK K
      refine awp_forget [3, 12, 24, 25, 26, 39] (by simp only [restr, List.contains_cons, List.contains_nil, Nat.reduceBEq, Bool.or_false, Bool.or_true, Bool.true_or, Bool.false_or, if_true, if_false, Bool.false_eq_true]; rfl) ?_
      refine awp_cond rfl (fun c2 => ?_) (fun c2 => ?_)
      · have d2 := c2; try simp at d2
        refine awp_reg_end fun K hK => ?_
        simp [go_sem, c0, d0, c1, d1, c2, d2]
        repeat refine ⟨by omega, ?_⟩
        refine hK _ ?_; clear hK K
        refine awp_reg_end fun K hK => ?_
        simp [go_sem, c0, d0, c1, d1, c2, d2]
        try simp (disch := omega) only [wrapI]
        repeat refine ⟨by omega, ?_⟩
        refine hK _ ?_; clear hK K
        refine ⟨(i + 1, (nth (refSpans n g k m) i).Until), back_of' (by simp) (.refl _) (by (simp [go_sem, wrap_succ (i := i) (by omega), c0, d0, c1, d1, c2, d2] <;> omega)), ⟨by dsimp only; omega, by rw [hx, if_pos (by simpa using d2)]⟩, by first | omega | (dsimp only; omega)⟩
      · have d2 := c2; try simp at d2
        refine awp_skip ?_
        refine awp_reg_end fun K hK => ?_
        simp [go_sem, c0, d0, c1, d1, c2, d2]
        try simp (disch := omega) only [wrapI]
        repeat refine ⟨by omega, ?_⟩
        refine hK _ ?_; clear hK K
        refine ⟨(i + 1, e), back_of' (by simp) (.refl _) (by (simp [go_sem, wrap_succ (i := i) (by omega), c0, d0, c1, d1, c2, d2] <;> omega)), ⟨by dsimp only; omega, by rw [hx, if_neg (by simpa using d2)]⟩, by first | omega | (dsimp only; omega)⟩
    · have d1 := c1; try simp at d1
      rw [List.drop_eq_nil_iff.2 (by omega), opensF] at hx
      rw [hx] at hz
      refine awp_exit ?_
      refine awp_seq ?_
      refine awp_reg_seq fun K hK => ?_
      simp [go_sem, c0, d0, c1, d1]
      repeat refine ⟨by omega, ?_⟩
      refine hK _ ?_; clear hK K
      refine awp_forget [3, 44] (by simp only [restr, List.contains_cons, List.contains_nil, Nat.reduceBEq, Bool.or_false, Bool.or_true, Bool.true_or, Bool.false_or, if_true, if_false, Bool.false_eq_true]; rfl) ?_
      refine awp_cond rfl (fun c3 => ?_) (fun c3 => ?_)
      · have d3 := c3; try simp at d3
        rw [if_pos d3] at hz
        refine awp_reg_seq fun K hK => ?_
        simp [go_sem, c0, d0, c1, d1, c3, d3]
        repeat refine ⟨by omega, ?_⟩
        refine hK _ ?_; clear hK K
        refine awp_ret ?_
        rw [hz]; simp [go_sem, Tryz.results105]
      · have d3 := c3; try simp at d3
        rw [if_neg (by omega)] at hz
        refine awp_skip ?_
        refine awp_reg_seq fun K hK => ?_
        simp [go_sem, c0, d0, c1, d1, c3, d3]
        repeat refine ⟨by omega, ?_⟩
        refine hK _ ?_; clear hK K
        refine awp_ret ?_
        rw [hz]; simp [go_sem, Tryz.results105]
end Go.Proofs.YtkochmppmpmddaaGreat

/-! Ca -/
namespace Go.Proofs.YtkochmppmpmddaaGreat
open Go.Abs Go.Arch
set_option linter.unusedVariables false
set_option linter.unusedSimpArgs false
set_option maxRecDepth 100000
set_option maxHeartbeats 400000
structure Agr where
  ID : Int
  Accession : Int
  Until : Int
  Strict : Bool
  In : Span
instance : Inhabited Agr := ⟨⟨0, 0, 0, false, ⟨0, 0⟩⟩⟩
def Agr.enc (r : Agr) : List D := [I r.ID, I r.Accession, I r.Until, B r.Strict, I r.In.From, I r.In.Until]
instance : Inhabited Ground := ⟨⟨0, 0, 0, 0⟩⟩
attribute [go_sem] Agr.enc
def firstE (e : Nat → Int) (i : Nat) : Nat → Int
  | 0 => 0
  | k + 1 => if e i ≠ 0 then e i else firstE e (i + 1) k
theorem firstE_zero {e : Nat → Int} : ∀ {k i : Nat}, firstE e i k = 0 → ∀ q, i ≤ q → q < i + k → e q = 0
  | 0, i, _, q, h1, h2 => by omega
  | k + 1, i, h, q, h1, h2 => by
    rw [firstE] at h
    by_cases he : e i = 0
    · rw [if_neg (by simp [he])] at h
      by_cases hq : q = i
      · rw [hq]; exact he
      · exact firstE_zero h q (by omega) (by omega)
    · rw [if_pos he] at h; exact absurd h he
theorem firstE_of {e : Nat → Int} : ∀ {k i : Nat}, (∀ q, i ≤ q → q < i + k → e q = 0) → firstE e i k = 0
  | 0, i, _ => rfl
  | k + 1, i, h => by
    rw [firstE, if_neg (by simp [h i (by omega) (by omega)])]
    exact firstE_of fun q h1 h2 => h q (by omega) (by omega)
def agrOk (a : Agr) : Bool := decide (1 ≤ a.ID) && decide (a.ID ≤ 1073741824) && decide (1 ≤ a.Accession) && decide (a.Accession ≤ 1073741824) && decide (0 ≤ a.Until) && decide (a.Until ≤ 1048576) && spanOk a.In
def agrE (g : Nat → Agr) (i : Nat) : Int := if agrOk (g i) = false then 2 else if 0 < i ∧ (g i).ID ≤ (g (i - 1)).ID then 5 else 0
def agrChk (n : Nat) (g : Nat → Agr) : Int := if 64 < n then 8 else firstE (agrE g) 0 n
theorem agreement_formed_cs (σ : List Blk) (a : Agr) : CSF Tryz.prog 82 [.agg (a.enc.map .d)] σ (.d (B (agrOk a))) := by
  refine CSF.of_body T.en82 Tryz.func82 rfl (by simp [Tryz.ntmps82]) (by simp [go_sem]) fun hwf => ?_
  refine awp_reg_seq fun K hK => ?_
  simp [go_sem, Tryz.ntmps82]
  repeat refine ⟨by omega, ?_⟩
  refine hK _ ?_; clear hK K
  refine awp_reg_seq fun K hK => ?_
  simp [go_sem]
  repeat refine ⟨by omega, ?_⟩
  refine hK _ ?_; clear hK K
  refine awp_ret ?_
  simp [go_sem, Tryz.results82, agrOk, spanOk, Bool.and_assoc] <;> omega
theorem ref33_Form_cs (σ : List Blk) (a : Agr) : CSF Tryz.prog 90 [.agg (a.enc.map .d)] σ (.d (B (agrOk a))) := by
  refine CSF.of_body T.en90 Tryz.func90 rfl (by simp [Tryz.ntmps90]) (by simp [go_sem]) fun hwf => ?_
  refine awp_reg_seq fun K hK => ?_
  simp [go_sem, Tryz.ntmps90]
  repeat refine ⟨by omega, ?_⟩
  refine hK _ ?_; clear hK K
  refine awp_reg_seq fun K hK => ?_
  simp [go_sem]
  repeat refine ⟨by omega, ?_⟩
  refine CSm.mk (ref31_Spanned_cs _ a.In) ?_
  simp [go_sem]
  repeat refine ⟨by omega, ?_⟩
  refine hK _ ?_; clear hK K
  refine awp_ret ?_
  simp [go_sem, Tryz.results90, agrOk] <;> omega
theorem agreement_Check_cs (σ : List Blk) (c : Option Nat) (n : Nat) (g : Nat → Agr) (hn : n < 1000000000) : CSF Tryz.prog 49 [.d (SL c 6 Agr.enc n g)] σ (.d (I (agrChk n g))) := by
  refine CSF.of_body T.en49 Tryz.func49 rfl (by simp [Tryz.ntmps49]) (by simp [go_sem]) fun hwf => ?_
  refine awp_reg_seq fun K hK => ?_
  simp [go_sem, Tryz.ntmps49]
  repeat refine ⟨by omega, ?_⟩
  refine hK _ ?_; clear hK K
  refine awp_seq ?_
  refine awp_reg_seq fun K hK => ?_
  simp [go_sem]
  repeat refine ⟨by omega, ?_⟩
  refine hK _ ?_; clear hK K
  refine awp_forget [0, 7] (by simp only [restr, List.contains_cons, List.contains_nil, Nat.reduceBEq, Bool.or_false, Bool.or_true, Bool.true_or, Bool.false_or, if_true, if_false, Bool.false_eq_true]; rfl) ?_
  refine awp_cond rfl (fun c0 => ?_) (fun c0 => ?_)
  · have d0 := c0; try simp at d0
    refine awp_reg_seq fun K hK => ?_
    simp [go_sem, c0, d0]
    repeat refine ⟨by omega, ?_⟩
    refine hK _ ?_; clear hK K
    refine awp_ret ?_
    simp [go_sem, Tryz.results49, agrChk, c0, d0] <;> omega
  · have d0 := c0; try simp at d0
    refine awp_skip ?_
    refine awp_seq ?_
    refine awp_reg_seq fun K hK => ?_
    simp [go_sem, c0, d0]
    repeat refine ⟨by omega, ?_⟩
    refine hK _ ?_; clear hK K
    refine awp_block ?_
    refine awp_forget [0, 8, 9, 10] (by simp [go_sem, restr]; rfl) ?_
    refine awp_loopU (α := Nat) (fun i => [(10, .d (I i))]) (fun i => _) (fun i => i ≤ n ∧ firstE (agrE g) 0 n = firstE (agrE g) i (n - i)) (fun i => n - i) 0 (by simp [go_sem]) rfl (by simp) ?_
    rintro i ⟨hi, hx⟩
    refine awp_reg_seq fun K hK => ?_
    simp [go_sem, c0, d0, hi, wrap_pred (i := i) (by omega)]
    repeat refine ⟨by omega, ?_⟩
    refine hK _ ?_; clear hK K
    refine awp_seq ?_
    refine awp_forget [0, 8, 9, 10, 11] (by simp only [restr, List.contains_cons, List.contains_nil, Nat.reduceBEq, Bool.or_false, Bool.or_true, Bool.true_or, Bool.false_or, if_true, if_false, Bool.false_eq_true]; rfl) ?_
    refine awp_cond rfl (fun c1 => ?_) (fun c1 => ?_)
    · have d1 := c1; try simp at d1
      obtain ⟨k, hk⟩ : ∃ k, n - i = k + 1 := ⟨n - i - 1, by omega⟩
      have hk' : n - (i + 1) = k := by omega
      rw [hk, firstE] at hx
      refine awp_skip ?_
      refine awp_seq ?_
      refine awp_block ?_
      refine awp_reg_seq fun K hK => ?_
      simp [go_sem, c0, d0, hi, wrap_pred (i := i) (by omega), c1, d1]
      repeat refine ⟨by omega, ?_⟩
      refine hK _ ?_; clear hK K
      refine awp_block ?_
      refine awp_reg_seq fun K hK => ?_
      simp [go_sem, c0, d0, hi, wrap_pred (i := i) (by omega), c1, d1]
      repeat refine ⟨by omega, ?_⟩
      refine CSk.mk (agreement_formed_cs _ _) ?_
      simp [go_sem, c0, d0, hi, wrap_pred (i := i) (by omega), c1, d1]
      repeat refine ⟨by omega, ?_⟩
      refine hK _ ?_; clear hK K
      refine awp_forget [0, 3, 4, 8, 9, 10, 15] (by simp only [restr, List.contains_cons, List.contains_nil, Nat.reduceBEq, Bool.or_false, Bool.or_true, Bool.true_or, Bool.false_or, if_true, if_false, Bool.false_eq_true]; rfl) ?_
      refine awp_cond rfl (fun c2 => ?_) (fun c2 => ?_)
      · have d2 := c2; try simp at d2
        have he : agrE g i = 2 := by unfold agrE; rw [if_pos d2]
        rw [he] at hx; simp at hx
        refine awp_reg_seq fun K hK => ?_
        simp [go_sem, c0, d0, hi, wrap_pred (i := i) (by omega), c1, d1, c2, d2]
        repeat refine ⟨by omega, ?_⟩
        refine hK _ ?_; clear hK K
        refine awp_ret ?_
        simp [go_sem, Tryz.results49, agrChk, hx, c0, d0, hi, wrap_pred (i := i) (by omega), c1, d1, c2, d2] <;> omega
      · have d2 := c2; try simp at d2
        refine awp_draw_seq 14 T.mixed (by kernel_rfl) fun K hK => ?_
        simp [go_sem, c0, d0, hi, wrap_pred (i := i) (by omega), c1, d1, c2, d2]
        try simp (disch := omega) only [wrapI]
        repeat refine ⟨by omega, ?_⟩
        refine hK _ ?_; clear hK K
        refine awp_forget [0, 8, 9, 10, 19] (by simp only [restr, List.contains_cons, List.contains_nil, Nat.reduceBEq, Bool.or_false, Bool.or_true, Bool.true_or, Bool.false_or, if_true, if_false, Bool.false_eq_true]; rfl) ?_
        refine awp_cond rfl (fun c3 => ?_) (fun c3 => ?_)
        · have d3 := c3; try simp at d3
          have he : agrE g i = 5 := by unfold agrE; rw [if_neg (by simp [d2]), if_pos d3]
          rw [he] at hx; simp at hx
          refine awp_reg_seq fun K hK => ?_
          simp [go_sem, c0, d0, hi, wrap_pred (i := i) (by omega), c1, d1, c2, d2, c3, d3]
          repeat refine ⟨by omega, ?_⟩
          refine hK _ ?_; clear hK K
          refine awp_ret ?_
          simp [go_sem, Tryz.results49, agrChk, hx, c0, d0, hi, wrap_pred (i := i) (by omega), c1, d1, c2, d2, c3, d3] <;> omega
        · have d3 := c3; try simp at d3
          have he : agrE g i = 0 := by unfold agrE; rw [if_neg (by simp [d2]), if_neg (by omega)]
          rw [he] at hx; simp at hx
          refine awp_skip ?_
          refine awp_reg_end fun K hK => ?_
          simp [go_sem, c0, d0, hi, wrap_pred (i := i) (by omega), c1, d1, c2, d2, c3, d3]
          try simp (disch := omega) only [wrapI]
          repeat refine ⟨by omega, ?_⟩
          refine hK _ ?_; clear hK K
          refine ⟨i + 1, back_of' (by simp) (.refl _) (by (simp [go_sem, wrap_succ (i := i) (by omega), c0, d0, hi, wrap_pred (i := i) (by omega), c1, d1, c2, d2, c3, d3] <;> omega)), ⟨by omega, by rw [hx, hk']⟩, by first | omega | (dsimp only; omega)⟩
    · have d1 := c1; try simp at d1
      obtain rfl : i = n := by omega
      rw [Nat.sub_self, firstE] at hx
      refine awp_exit ?_
      refine awp_reg_seq fun K hK => ?_
      simp [go_sem, c0, d0, hi, wrap_pred (i := i) (by omega), c1, d1]
      repeat refine ⟨by omega, ?_⟩
      refine hK _ ?_; clear hK K
      refine awp_ret ?_
      simp [go_sem, Tryz.results49, agrChk, hx, c0, d0, hi, wrap_pred (i := i) (by omega), c1, d1] <;> omega
theorem ref33_Few_cs (σ : List Blk) (c : Option Nat) (n : Nat) (g : Nat → Agr) : CSF Tryz.prog 40 [.d (SL c 6 Agr.enc n g)] σ (.d (B (decide ((n : Int) ≤ 20)))) := by
  refine CSF.of_body T.en40 Tryz.func40 rfl (by simp [Tryz.ntmps40]) (by simp [go_sem]) fun hwf => ?_
  refine awp_reg_seq fun K hK => ?_
  simp [go_sem, Tryz.ntmps40]
  repeat refine ⟨by omega, ?_⟩
  refine hK _ ?_; clear hK K
  refine awp_reg_seq fun K hK => ?_
  simp [go_sem]
  repeat refine ⟨by omega, ?_⟩
  refine hK _ ?_; clear hK K
  refine awp_ret ?_
  simp [go_sem, Tryz.results40] <;> omega
theorem ref33_Check_cs (σ : List Blk) (c : Option Nat) (n : Nat) (g : Nat → Agr) (hn : n < 1000000000) : CSF Tryz.prog 59 [.d (SL c 6 Agr.enc n g)] σ (.d (I (agrChk n g))) := by
  refine CSF.of_body T.en59 Tryz.func59 rfl (by simp [Tryz.ntmps59]) (by simp [go_sem]) fun hwf => ?_
  refine awp_reg_seq fun K hK => ?_
  simp [go_sem, Tryz.ntmps59]
  repeat refine ⟨by omega, ?_⟩
  refine hK _ ?_; clear hK K
  refine awp_seq ?_
  refine awp_reg_seq fun K hK => ?_
  simp [go_sem]
  repeat refine ⟨by omega, ?_⟩
  refine hK _ ?_; clear hK K
  refine awp_forget [0, 7] (by simp only [restr, List.contains_cons, List.contains_nil, Nat.reduceBEq, Bool.or_false, Bool.or_true, Bool.true_or, Bool.false_or, if_true, if_false, Bool.false_eq_true]; rfl) ?_
  refine awp_cond rfl (fun c0 => ?_) (fun c0 => ?_)
  · have d0 := c0; try simp at d0
    refine awp_reg_seq fun K hK => ?_
    simp [go_sem, c0, d0]
    repeat refine ⟨by omega, ?_⟩
    refine hK _ ?_; clear hK K
    refine awp_ret ?_
    simp [go_sem, Tryz.results59, agrChk, c0, d0] <;> omega
  · have d0 := c0; try simp at d0
    refine awp_skip ?_
    refine awp_seq ?_
    refine awp_reg_seq fun K hK => ?_
    simp [go_sem, c0, d0]
    repeat refine ⟨by omega, ?_⟩
    refine hK _ ?_; clear hK K
    refine awp_block ?_
    refine awp_forget [0, 8, 9, 10] (by simp [go_sem, restr]; rfl) ?_
    refine awp_loopU (α := Nat) (fun i => [(10, .d (I i))]) (fun i => _) (fun i => i ≤ n ∧ firstE (agrE g) 0 n = firstE (agrE g) i (n - i)) (fun i => n - i) 0 (by simp [go_sem]) rfl (by simp) ?_
    rintro i ⟨hi, hx⟩
    refine awp_reg_seq fun K hK => ?_
    simp [go_sem, c0, d0, hi, wrap_pred (i := i) (by omega)]
    repeat refine ⟨by omega, ?_⟩
    refine hK _ ?_; clear hK K
    refine awp_seq ?_
    refine awp_forget [0, 8, 9, 10, 11] (by simp only [restr, List.contains_cons, List.contains_nil, Nat.reduceBEq, Bool.or_false, Bool.or_true, Bool.true_or, Bool.false_or, if_true, if_false, Bool.false_eq_true]; rfl) ?_
    refine awp_cond rfl (fun c1 => ?_) (fun c1 => ?_)
    · have d1 := c1; try simp at d1
      obtain ⟨k, hk⟩ : ∃ k, n - i = k + 1 := ⟨n - i - 1, by omega⟩
      have hk' : n - (i + 1) = k := by omega
      rw [hk, firstE] at hx
      refine awp_skip ?_
      refine awp_seq ?_
      refine awp_block ?_
      refine awp_reg_seq fun K hK => ?_
      simp [go_sem, c0, d0, hi, wrap_pred (i := i) (by omega), c1, d1]
      repeat refine ⟨by omega, ?_⟩
      refine hK _ ?_; clear hK K
      refine awp_seq ?_
      refine awp_reg_seq fun K hK => ?_
      simp [go_sem, c0, d0, hi, wrap_pred (i := i) (by omega), c1, d1]
      repeat refine ⟨by omega, ?_⟩
      refine CSk.mk (ref33_Form_cs _ _) ?_
      simp [go_sem, c0, d0, hi, wrap_pred (i := i) (by omega), c1, d1]
      repeat refine ⟨by omega, ?_⟩
      refine hK _ ?_; clear hK K
      refine awp_forget [0, 3, 4, 8, 9, 10, 17] (by simp only [restr, List.contains_cons, List.contains_nil, Nat.reduceBEq, Bool.or_false, Bool.or_true, Bool.true_or, Bool.false_or, if_true, if_false, Bool.false_eq_true]; rfl) ?_
      refine awp_cond rfl (fun c2 => ?_) (fun c2 => ?_)
      · have d2 := c2; try simp at d2
        have he : agrE g i = 2 := by unfold agrE; rw [if_pos d2]
        rw [he] at hx; simp at hx
        refine awp_reg_seq fun K hK => ?_
        simp [go_sem, c0, d0, hi, wrap_pred (i := i) (by omega), c1, d1, c2, d2]
        repeat refine ⟨by omega, ?_⟩
        refine hK _ ?_; clear hK K
        refine awp_ret ?_
        simp [go_sem, Tryz.results59, agrChk, hx, c0, d0, hi, wrap_pred (i := i) (by omega), c1, d1, c2, d2] <;> omega
      · have d2 := c2; try simp at d2
        refine awp_skip ?_
        refine awp_draw_seq 13 T.mixed (by kernel_rfl) fun K hK => ?_
        simp [go_sem, c0, d0, hi, wrap_pred (i := i) (by omega), c1, d1, c2, d2]
        try simp (disch := omega) only [wrapI]
        repeat refine ⟨by omega, ?_⟩
        refine hK _ ?_; clear hK K
        refine awp_forget [0, 8, 9, 10, 30] (by simp only [restr, List.contains_cons, List.contains_nil, Nat.reduceBEq, Bool.or_false, Bool.or_true, Bool.true_or, Bool.false_or, if_true, if_false, Bool.false_eq_true]; rfl) ?_
        refine awp_cond rfl (fun c3 => ?_) (fun c3 => ?_)
        · have d3 := c3; try simp at d3
          have he : agrE g i = 5 := by unfold agrE; rw [if_neg (by simp [d2]), if_pos d3]
          rw [he] at hx; simp at hx
          refine awp_reg_seq fun K hK => ?_
          simp [go_sem, c0, d0, hi, wrap_pred (i := i) (by omega), c1, d1, c2, d2, c3, d3]
          repeat refine ⟨by omega, ?_⟩
          refine hK _ ?_; clear hK K
          refine awp_ret ?_
          simp [go_sem, Tryz.results59, agrChk, hx, c0, d0, hi, wrap_pred (i := i) (by omega), c1, d1, c2, d2, c3, d3] <;> omega
        · have d3 := c3; try simp at d3
          have he : agrE g i = 0 := by unfold agrE; rw [if_neg (by simp [d2]), if_neg (by omega)]
          rw [he] at hx; simp at hx
          refine awp_skip ?_
          refine awp_reg_end fun K hK => ?_
          simp [go_sem, c0, d0, hi, wrap_pred (i := i) (by omega), c1, d1, c2, d2, c3, d3]
          try simp (disch := omega) only [wrapI]
          repeat refine ⟨by omega, ?_⟩
          refine hK _ ?_; clear hK K
          refine ⟨i + 1, back_of' (by simp) (.refl _) (by (simp [go_sem, wrap_succ (i := i) (by omega), c0, d0, hi, wrap_pred (i := i) (by omega), c1, d1, c2, d2, c3, d3] <;> omega)), ⟨by omega, by rw [hx, hk']⟩, by first | omega | (dsimp only; omega)⟩
    · have d1 := c1; try simp at d1
      obtain rfl : i = n := by omega
      rw [Nat.sub_self, firstE] at hx
      refine awp_exit ?_
      refine awp_reg_seq fun K hK => ?_
      simp [go_sem, c0, d0, hi, wrap_pred (i := i) (by omega), c1, d1]
      repeat refine ⟨by omega, ?_⟩
      refine hK _ ?_; clear hK K
      refine awp_ret ?_
      simp [go_sem, Tryz.results59, agrChk, hx, c0, d0, hi, wrap_pred (i := i) (by omega), c1, d1] <;> omega
def agrCl (a : Agr) (k d : Int) : Bool := agrOk a && (a.Accession == k) && decide (a.In.From ≤ d) && decide (d < a.In.Until) && decide (d < a.Until)
theorem agreement_Closes_cs (σ : List Blk) (a : Agr) (k d : Int) : CSF Tryz.prog 142 [.agg (a.enc.map .d), .d (I k), .d (I d)] σ (.d (B (agrCl a k d))) := by
  refine CSF.of_body T.en142 Tryz.func142 rfl (by simp [Tryz.ntmps142]) (by simp [go_sem]) fun hwf => ?_
  refine awp_reg_seq fun K hK => ?_
  simp [go_sem, Tryz.ntmps142]
  repeat refine ⟨by omega, ?_⟩
  refine hK _ ?_; clear hK K
  refine awp_reg_seq fun K hK => ?_
  simp [go_sem]
  repeat refine ⟨by omega, ?_⟩
  refine CSk.mk (agreement_formed_cs _ a) ?_
  simp [go_sem]
  repeat refine ⟨by omega, ?_⟩
  refine hK _ ?_; clear hK K
  refine awp_ret ?_
  simp [go_sem, Tryz.results142, agrCl] <;> omega
theorem ref33_Closes_cs (σ : List Blk) (a : Agr) (k d : Int) : CSF Tryz.prog 131 [.agg (a.enc.map .d), .d (I k), .d (I d)] σ (.d (B (agrCl a k d))) := by
  refine CSF.of_body T.en131 Tryz.func131 rfl (by simp [Tryz.ntmps131]) (by simp [go_sem]) fun hwf => ?_
  refine awp_reg_seq fun K hK => ?_
  simp [go_sem, Tryz.ntmps131]
  repeat refine ⟨by omega, ?_⟩
  refine hK _ ?_; clear hK K
  refine awp_reg_seq fun K hK => ?_
  simp [go_sem]
  repeat refine ⟨by omega, ?_⟩
  refine CSk.mk (ref33_Form_cs _ a) ?_
  simp [go_sem]
  repeat refine ⟨by omega, ?_⟩
  refine hK _ ?_; clear hK K
  refine awp_ret ?_
  simp [go_sem, Tryz.results131, agrCl] <;> omega
theorem agreement_ends_cs (σ : List Blk) (a : Agr) : CSF Tryz.prog 141 [.agg (a.enc.map .d)] σ (.d (I (min a.Until a.In.Until))) := by
  refine CSF.of_body T.en141 Tryz.func141 rfl (by simp [Tryz.ntmps141]) (by simp [go_sem]) fun hwf => ?_
  refine awp_reg_seq fun K hK => ?_
  simp [go_sem, Tryz.ntmps141]
  repeat refine ⟨by omega, ?_⟩
  refine hK _ ?_; clear hK K
  refine awp_reg_seq fun K hK => ?_
  simp [go_sem]
  repeat refine ⟨by omega, ?_⟩
  refine hK _ ?_; clear hK K
  refine awp_ret ?_
  simp [go_sem, Tryz.results141] <;> omega
end Go.Proofs.YtkochmppmpmddaaGreat

/-! Cb -/
namespace Go.Proofs.YtkochmppmpmddaaGreat
open Go.Abs Go.Arch
set_option linter.unusedVariables false
set_option linter.unusedSimpArgs false
set_option maxRecDepth 100000
set_option maxHeartbeats 400000
def gather {β : Type} (f : Nat → List β) : Nat → List β
  | 0 => []
  | i + 1 => gather f i ++ f i
theorem gather_len {β : Type} {f : Nat → List β} (h : ∀ i, (f i).length ≤ 1) : ∀ i, (gather f i).length ≤ i
  | 0 => by simp [gather]
  | i + 1 => by have := gather_len h i; have := h i; simp only [gather, List.length_append]; omega
def agrGd (a : Agr) : Ground := ⟨3, a.ID, 0, min a.Until a.In.Until⟩
def agrGf (g : Nat → Agr) (k d : Int) (i : Nat) : List Ground := if agrCl (g i) k d = true then [agrGd (g i)] else []
theorem agrGf_len (g : Nat → Agr) (k d : Int) (i : Nat) : (agrGf g k d i).length ≤ 1 := by unfold agrGf; split <;> simp
def agrGr (n : Nat) (g : Nat → Agr) (k d : Int) : List Ground := if agrChk n g ≠ 0 then [] else gather (agrGf g k d) n
theorem agr_ids {n : Nat} {g : Nat → Agr} (h0 : agrChk n g = 0) : n ≤ 64 ∧ ∀ i, i < n → agrOk (g i) = true ∧ ∀ j, j < i → (g j).ID < (g i).ID := by
  unfold agrChk at h0
  split at h0
  · omega
  · rename_i hn
    refine ⟨by omega, ?_⟩
    have he : ∀ i, i < n → agrOk (g i) = true ∧ (0 < i → (g (i - 1)).ID < (g i).ID) := fun i hi => by
      have := firstE_zero h0 i (by omega) (by omega)
      unfold agrE at this
      split at this
      · omega
      · rename_i h1
        split at this
        · omega
        · exact ⟨by simpa using h1, fun hp => by omega⟩
    intro i
    induction i with
    | zero => intro hi; exact ⟨(he 0 hi).1, fun j hj => by omega⟩
    | succ i ih =>
      intro hi
      refine ⟨(he _ hi).1, fun j hj => ?_⟩
      have h1 := (he (i + 1) hi).2 (by omega)
      simp only [Nat.add_sub_cancel] at h1
      rcases Nat.lt_or_eq_of_le (Nat.le_of_lt_succ hj) with h | h
      · have := (ih (by omega)).2 j h; omega
      · rw [h]; exact h1
def strP (k : Int) (a : Agr) : Bool := (a.ID == k) && a.Strict
def agrStr (n : Nat) (g : Nat → Agr) (k : Int) : Bool := decide (agrChk n g = 0) && (lst n g).any (strP k)
theorem str_at {n : Nat} {g : Nat → Agr} (h0 : agrChk n g = 0) {i : Nat} (hi : i < n) {k : Int} (hk : (g i).ID = k) : agrStr n g k = (g i).Strict := by
  unfold agrStr
  rw [h0]
  simp only [decide_true, Bool.true_and]
  rw [Bool.eq_iff_iff, List.any_eq_true]
  simp only [lst, List.mem_map, List.mem_range, strP, Bool.and_eq_true, beq_iff_eq]
  constructor
  · rintro ⟨a, ⟨j, hj, rfl⟩, h1, h2⟩
    have : j = i := by
      rcases Nat.lt_trichotomy j i with h | h | h
      · have := ((agr_ids h0).2 i hi).2 j h; omega
      · exact h
      · have := ((agr_ids h0).2 j hj).2 i h; omega
    rw [← this]; exact h2
  · intro h; exact ⟨g i, ⟨i, hi, rfl⟩, hk, h⟩
theorem str_no {n : Nat} {g : Nat → Agr} {k : Int} (h : ∀ i, i < n → (g i).ID ≠ k) : agrStr n g k = false := by
  unfold agrStr
  rw [Bool.and_eq_false_iff]
  right
  rw [List.any_eq_false]
  intro a ha
  simp only [lst, List.mem_map, List.mem_range] at ha
  obtain ⟨i, hi, rfl⟩ := ha
  simp [strP, h i hi]
def stepF (g : Nat → Agr) (k d : Int) : Nat → Int
  | 0 => d
  | i + 1 => if agrCl (g i) k d = true then max (stepF g k d i) (min (g i).Until (g i).In.Until) else stepF g k d i
theorem stepF_ge (g : Nat → Agr) (k d : Int) : ∀ i, d ≤ stepF g k d i
  | 0 => Int.le_refl _
  | i + 1 => by have := stepF_ge g k d i; rw [stepF]; split <;> omega
theorem agrOk_iff {a : Agr} : agrOk a = true ↔ 1 ≤ a.ID ∧ a.ID ≤ 1073741824 ∧ 1 ≤ a.Accession ∧ a.Accession ≤ 1073741824 ∧ 0 ≤ a.Until ∧ a.Until ≤ 1048576 ∧ 0 ≤ a.In.From ∧ a.In.From < a.In.Until ∧ a.In.Until ≤ 1048576 := by
  unfold agrOk spanOk; simp; omega
theorem agrCl_ok {a : Agr} {k d : Int} (h : agrCl a k d = true) : agrOk a = true := by unfold agrCl at h; simp at h; exact h.1.1.1.1
theorem stepF_le (g : Nat → Agr) (k d : Int) (hd : d ≤ 1048576) : ∀ i, stepF g k d i ≤ 1048576
  | 0 => hd
  | i + 1 => by
    have := stepF_le g k d hd i
    rw [stepF]
    split
    · rename_i h; have := agrOk_iff.1 (agrCl_ok h); omega
    · exact this
def opA (n : Nat) (g : Nat → Agr) (k d : Int) : Int := if h : d < stepF g k d n ∧ stepF g k d n ≤ 1048576 then opA n g k (stepF g k d n) else d
termination_by (1048576 - d).toNat
decreasing_by omega
theorem indexAgr_cs (σ : List Blk) (c : Option Nat) (n : Nat) (g : Nat → Agr) (f : FuncId) (cap : List AV) (p : Agr → Bool) (hn : n < 1000000000) (hf : ∀ i, i < n → CSF Tryz.prog f (.agg ((g i).enc.map .d) :: cap) σ (.d (B (p (g i))))) : CSF Tryz.prog 150 [.d (SL c 6 Agr.enc n g), .clo (.func f) [] cap] σ (.d (I (idxFrom p (lst n g) 0))) := by
  refine CSF.of_body T.en150 Tryz.func150 rfl (by simp [Tryz.ntmps150]) (by simp [go_sem]) fun hwf => ?_
  refine awp_reg_seq fun K hK => ?_
  simp [go_sem, Tryz.ntmps150]
  repeat refine ⟨by omega, ?_⟩
  refine hK _ ?_; clear hK K
  refine awp_seq ?_
  refine awp_reg_seq fun K hK => ?_
  simp [go_sem]
  repeat refine ⟨by omega, ?_⟩
  refine hK _ ?_; clear hK K
  refine awp_block ?_
  refine awp_forget [0, 1, 7, 8] (by simp [go_sem, restr]; rfl) ?_
  refine awp_loopU (α := Nat) (fun i => [(8, .d (I i))]) (fun i => _) (fun i => i ≤ n ∧ idxFrom p (lst n g) 0 = idxFrom p ((lst n g).drop i) i) (fun i => n - i) 0 (by simp [go_sem]) rfl (by simp) ?_
  rintro i ⟨hi, hx⟩
  refine awp_reg_seq fun K hK => ?_
  simp [go_sem]
  repeat refine ⟨by omega, ?_⟩
  refine hK _ ?_; clear hK K
  refine awp_seq ?_
  refine awp_forget [0, 1, 7, 8, 9] (by simp only [restr, List.contains_cons, List.contains_nil, Nat.reduceBEq, Bool.or_false, Bool.or_true, Bool.true_or, Bool.false_or, if_true, if_false, Bool.false_eq_true]; rfl) ?_
  refine awp_cond rfl (fun c0 => ?_) (fun c0 => ?_)
  · have d0 := c0; try simp at d0
    rw [drop_lst d0, idxFrom] at hx
    refine awp_skip ?_
    refine awp_seq ?_
    refine awp_block ?_
    refine awp_reg_seq fun K hK => ?_
    simp [go_sem, c0, d0]
    repeat refine ⟨by omega, ?_⟩
    refine hK _ ?_; clear hK K
    refine awp_reg_seq fun K hK => ?_
    simp [go_sem, c0, d0]
    repeat refine ⟨by omega, ?_⟩
    refine CSk.mk (hf i d0) ?_
    simp [go_sem, c0, d0]
    repeat refine ⟨by omega, ?_⟩
    refine hK _ ?_; clear hK K
    refine awp_forget [0, 1, 5, 7, 8, 16] (by simp only [restr, List.contains_cons, List.contains_nil, Nat.reduceBEq, Bool.or_false, Bool.or_true, Bool.true_or, Bool.false_or, if_true, if_false, Bool.false_eq_true]; rfl) ?_
    refine awp_cond rfl (fun c1 => ?_) (fun c1 => ?_)
    · have d1 := c1; try simp at d1
      refine awp_reg_seq fun K hK => ?_
      simp [go_sem, c0, d0, c1, d1]
      repeat refine ⟨by omega, ?_⟩
      refine hK _ ?_; clear hK K
      refine awp_ret ?_
      simp [go_sem, Tryz.results150, hx, c0, d0, c1, d1] <;> omega
    · have d1 := c1; try simp at d1
      refine awp_skip ?_
      refine awp_reg_end fun K hK => ?_
      simp [go_sem, c0, d0, c1, d1]
      try simp (disch := omega) only [wrapI]
      repeat refine ⟨by omega, ?_⟩
      refine hK _ ?_; clear hK K
      refine ⟨i + 1, back_of' (by simp) (.refl _) (by (simp [go_sem, wrap_succ (i := i) (by omega), c0, d0, c1, d1] <;> omega)), ⟨by omega, by rw [hx, c1]; simp⟩, by first | omega | (dsimp only; omega)⟩
  · have d0 := c0; try simp at d0
    rw [drop_all d0, idxFrom] at hx
    refine awp_exit ?_
    refine awp_reg_seq fun K hK => ?_
    simp [go_sem, c0, d0]
    repeat refine ⟨by omega, ?_⟩
    refine hK _ ?_; clear hK K
    refine awp_ret ?_
    simp [go_sem, Tryz.results150, hx, c0, d0] <;> omega
theorem containsAgr_cs (σ : List Blk) (c : Option Nat) (n : Nat) (g : Nat → Agr) (f : FuncId) (cap : List AV) (p : Agr → Bool) (hn : n < 1000000000) (hf : ∀ i, i < n → CSF Tryz.prog f (.agg ((g i).enc.map .d) :: cap) σ (.d (B (p (g i))))) : CSF Tryz.prog 126 [.d (SL c 6 Agr.enc n g), .clo (.func f) [] cap] σ (.d (B ((lst n g).any p))) := by
  refine CSF.of_body T.en126 Tryz.func126 rfl (by simp [Tryz.ntmps126]) (by simp [go_sem]) fun hwf => ?_
  refine awp_reg_seq fun K hK => ?_
  simp [go_sem, Tryz.ntmps126]
  repeat refine ⟨by omega, ?_⟩
  refine hK _ ?_; clear hK K
  refine awp_reg_seq fun K hK => ?_
  simp [go_sem]
  repeat refine ⟨by omega, ?_⟩
  refine CSk.mk (indexAgr_cs _ c n g f cap p hn hf) ?_
  simp [go_sem]
  repeat refine ⟨by omega, ?_⟩
  refine hK _ ?_; clear hK K
  refine awp_ret ?_
  simp [go_sem, Tryz.results126, idx_any] <;> omega
theorem agreement_Grounds_1_cs (σ : List Blk) (a : Agr) : CSF Tryz.prog 140 [.agg (a.enc.map .d)] σ (.agg ((agrGd a).enc.map .d)) := by
  refine CSF.of_body T.en140 Tryz.func140 rfl (by simp [Tryz.ntmps140]) (by simp [go_sem]) fun hwf => ?_
  refine awp_reg_seq fun K hK => ?_
  simp [go_sem, Tryz.ntmps140]
  repeat refine ⟨by omega, ?_⟩
  refine hK _ ?_; clear hK K
  refine awp_draw_seq 5 T.mixed (by kernel_rfl) fun K hK => ?_
  simp [go_sem]
  repeat refine ⟨by omega, ?_⟩
  refine CSg.mk (agreement_ends_cs _ _) ?_
  simp [go_sem]
  repeat refine ⟨by omega, ?_⟩
  refine hK _ ?_; clear hK K
  refine awp_ret ?_
  simp [go_sem, Tryz.results140, agrGd] <;> omega
theorem agreement_Grounds_cs (σ : List Blk) (c : Option Nat) (n : Nat) (g : Nat → Agr) (k d : Int) (hn : n < 1000000000) : CSF Tryz.prog 110 [.d (SL c 6 Agr.enc n g), .d (I k), .d (I d)] σ (.d (SL none 4 Ground.enc (agrGr n g k d).length (nth (agrGr n g k d)))) := by
  refine CSF.of_body T.en110 Tryz.func110 rfl (by simp [Tryz.ntmps110]) (by simp [go_sem]) fun hwf => ?_
  refine awp_reg_seq fun K hK => ?_
  simp [go_sem, Tryz.ntmps110]
  repeat refine ⟨by omega, ?_⟩
  refine hK _ ?_; clear hK K
  refine awp_seq ?_
  refine awp_reg_seq fun K hK => ?_
  simp [go_sem]
  repeat refine ⟨by omega, ?_⟩
  refine CSk.mk (agreement_Check_cs _ _ _ _ (by first | assumption | omega | simp_all)) ?_
  simp [go_sem]
  repeat refine ⟨by omega, ?_⟩
  refine hK _ ?_; clear hK K
  refine awp_forget [0, 1, 2, 13] (by simp only [restr, List.contains_cons, List.contains_nil, Nat.reduceBEq, Bool.or_false, Bool.or_true, Bool.true_or, Bool.false_or, if_true, if_false, Bool.false_eq_true]; rfl) ?_
  refine awp_cond rfl (fun c0 => ?_) (fun c0 => ?_)
  · have d0 := c0; try simp at d0
    have hz : agrGr n g k d = [] := by unfold agrGr; rw [if_pos d0]
    refine awp_reg_seq fun K hK => ?_
    simp [go_sem, c0, d0]
    repeat refine ⟨by omega, ?_⟩
    refine hK _ ?_; clear hK K
    refine awp_ret ?_
    rw [hz]; simp [go_sem, Tryz.results110]
  · have d0 := c0; try simp at d0
    have hz : agrGr n g k d = gather (agrGf g k d) n := by unfold agrGr; rw [if_neg (by simp [d0])]
    refine awp_skip ?_
    refine awp_reg_seq fun K hK => ?_
    simp [go_sem, c0, d0]
    repeat refine ⟨by omega, ?_⟩
    refine hK _ ?_; clear hK K
    refine awp_reg_seq fun K hK => ?_
    simp [go_sem, c0, d0]
    repeat refine ⟨by omega, ?_⟩
    refine hK _ ?_; clear hK K
    refine awp_seq ?_
    refine awp_thawT 8 4 (fun i => Ground.enc (nth ([] : List Ground) i)) (by simp [go_sem]) (by simp [go_sem]; rfl) ?_
    refine awp_reg_seq fun K hK => ?_
    simp [go_sem, c0, d0]
    repeat refine ⟨by omega, ?_⟩
    refine hK _ ?_; clear hK K
    refine awp_block ?_
    refine awp_forget [1, 2, 7, 8, 14, 15, 16] (by simp [go_sem, restr]; rfl) ?_
    refine awp_mv [σ.length] (by simp) ?_
    refine awp_loopU (α := Nat) (fun i => [(8, .ms σ.length 4 0 (gather (agrGf g k d) i).length), (16, .d (I i))]) (fun i => σ ++ [.arr 4 (gather (agrGf g k d) i).length (fun q => Ground.enc (nth (gather (agrGf g k d) i) q))]) (fun i => i ≤ n) (fun i => n - i) 0 (by simp [go_sem, gather]) rfl (by simp) ?_
    rintro i hi
    refine awp_reg_seq fun K hK => ?_
    simp [go_sem, c0, d0]
    repeat refine ⟨by omega, ?_⟩
    refine hK _ ?_; clear hK K
    refine awp_seq ?_
    refine awp_forget [1, 2, 7, 8, 14, 15, 16, 17] (by simp only [restr, List.contains_cons, List.contains_nil, Nat.reduceBEq, Bool.or_false, Bool.or_true, Bool.true_or, Bool.false_or, if_true, if_false, Bool.false_eq_true]; rfl) ?_
    refine awp_cond rfl (fun c1 => ?_) (fun c1 => ?_)
    · have d1 := c1; try simp at d1
      have hl := gather_len (agrGf_len g k d) i
      refine awp_skip ?_
      refine awp_seq ?_
      refine awp_block ?_
      refine awp_reg_seq fun K hK => ?_
      simp [go_sem, c0, d0, c1, d1]
      repeat refine ⟨by omega, ?_⟩
      refine hK _ ?_; clear hK K
      refine awp_reg_seq fun K hK => ?_
      simp [go_sem, c0, d0, c1, d1]
      repeat refine ⟨by omega, ?_⟩
      refine CSk.mk (agreement_Closes_cs _ _ _ _) ?_
      simp [go_sem, c0, d0, c1, d1]
      repeat refine ⟨by omega, ?_⟩
      refine hK _ ?_; clear hK K
      refine awp_forget [1, 2, 7, 8, 10, 14, 15, 16, 23] (by simp only [restr, List.contains_cons, List.contains_nil, Nat.reduceBEq, Bool.or_false, Bool.or_true, Bool.true_or, Bool.false_or, if_true, if_false, Bool.false_eq_true]; rfl) ?_
      refine awp_cond rfl (fun c2 => ?_) (fun c2 => ?_)
      · have d2 := c2; try simp at d2
        have ha : gather (agrGf g k d) (i + 1) = gather (agrGf g k d) i ++ [agrGd (g i)] := by rw [gather, agrGf, if_pos c2]
        refine awp_reg_end fun K hK => ?_
        simp [go_sem, c0, d0, c1, d1, c2, d2, ha, hwf.one, hwf.zero]
        repeat refine ⟨by omega, ?_⟩
        refine CSk.mk (agreement_Grounds_1_cs _ (g i)) ?_
        simp [go_sem, c0, d0, c1, d1, c2, d2, ha, hwf.one, hwf.zero]
        repeat refine ⟨by omega, ?_⟩
        refine hK _ ?_; clear hK K
        refine awp_rows σ.length (fun q => Ground.enc (nth (gather (agrGf g k d) i ++ [agrGd (g i)]) q)) (by simp [go_sem]; first | exact ⟨rfl, rfl, rfl⟩ | exact ⟨rfl, rfl⟩ | rfl) (by exact fun q hq => cat_nth (enc := Ground.enc) (x := agrGd (g i)) rfl hq) (by simp [go_sem]; rfl) ?_
        refine awp_reg_end fun K hK => ?_
        simp [go_sem, c0, d0, c1, d1, c2, d2, ha]
        try simp (disch := omega) only [wrapI]
        repeat refine ⟨by omega, ?_⟩
        refine hK _ ?_; clear hK K
        refine ⟨i + 1, back_of' (by simp [go_sem, wrap_succ (i := i) (by omega), c0, d0, c1, d1, c2, d2, ha]) ((leaves_app (by simp [go_sem]))) (by (simp [go_sem, wrap_succ (i := i) (by omega), c0, d0, c1, d1, c2, d2, ha] <;> omega)), by omega, by first | omega | (dsimp only; omega)⟩
      · have d2 := c2; try simp at d2
        have ha : gather (agrGf g k d) (i + 1) = gather (agrGf g k d) i := by rw [gather, agrGf, if_neg (by simp [c2])]; simp
        refine awp_skip ?_
        refine awp_reg_end fun K hK => ?_
        simp [go_sem, c0, d0, c1, d1, c2, d2, ha]
        try simp (disch := omega) only [wrapI]
        repeat refine ⟨by omega, ?_⟩
        refine hK _ ?_; clear hK K
        refine ⟨i + 1, back_of' (by simp [go_sem, wrap_succ (i := i) (by omega), c0, d0, c1, d1, c2, d2, ha]) ((leaves_app (by simp [go_sem]))) (by (simp [go_sem, wrap_succ (i := i) (by omega), c0, d0, c1, d1, c2, d2, ha] <;> omega)), by omega, by first | omega | (dsimp only; omega)⟩
    · have d1 := c1; try simp at d1
      obtain rfl : i = n := by omega
      refine awp_exit ?_
      refine awp_reg_seq fun K hK => ?_
      simp [go_sem, c0, d0, c1, d1]
      repeat refine ⟨by omega, ?_⟩
      refine hK _ ?_; clear hK K
      refine awp_freeze (σ.length) (by simp [go_sem]; first | exact ⟨rfl, rfl, rfl⟩ | exact ⟨rfl, rfl⟩ | rfl) (by simp [go_sem]; rfl) (by simp [go_sem, hwf.frz, hwf.frz0]; rfl) ?_
      refine awp_ret ?_
      rw [hz]; simp [go_sem, Tryz.results110]
theorem ref33_Grounds_cs (σ : List Blk) (c : Option Nat) (n : Nat) (g : Nat → Agr) (k d : Int) (hn : n < 1000000000) : CSF Tryz.prog 99 [.d (SL c 6 Agr.enc n g), .d (I k), .d (I d)] σ (.d (SL none 4 Ground.enc (agrGr n g k d).length (nth (agrGr n g k d)))) := by
  refine CSF.of_body T.en99 Tryz.func99 rfl (by simp [Tryz.ntmps99]) (by simp [go_sem]) fun hwf => ?_
  refine awp_reg_seq fun K hK => ?_
  simp [go_sem, Tryz.ntmps99]
  repeat refine ⟨by omega, ?_⟩
  refine hK _ ?_; clear hK K
  refine awp_seq ?_
  refine awp_reg_seq fun K hK => ?_
  simp [go_sem]
  repeat refine ⟨by omega, ?_⟩
  refine CSk.mk (ref33_Check_cs _ _ _ _ (by first | assumption | omega | simp_all)) ?_
  simp [go_sem]
  repeat refine ⟨by omega, ?_⟩
  refine hK _ ?_; clear hK K
  refine awp_forget [0, 1, 2, 12] (by simp only [restr, List.contains_cons, List.contains_nil, Nat.reduceBEq, Bool.or_false, Bool.or_true, Bool.true_or, Bool.false_or, if_true, if_false, Bool.false_eq_true]; rfl) ?_
  refine awp_cond rfl (fun c0 => ?_) (fun c0 => ?_)
  · have d0 := c0; try simp at d0
    have hz : agrGr n g k d = [] := by unfold agrGr; rw [if_pos d0]
    refine awp_reg_seq fun K hK => ?_
    simp [go_sem, c0, d0]
    repeat refine ⟨by omega, ?_⟩
    refine hK _ ?_; clear hK K
    refine awp_ret ?_
    rw [hz]; simp [go_sem, Tryz.results99]
  · have d0 := c0; try simp at d0
    have hz : agrGr n g k d = gather (agrGf g k d) n := by unfold agrGr; rw [if_neg (by simp [d0])]
    refine awp_skip ?_
    refine awp_reg_seq fun K hK => ?_
    simp [go_sem, c0, d0]
    repeat refine ⟨by omega, ?_⟩
    refine hK _ ?_; clear hK K
    refine awp_seq ?_
    refine awp_thawT 7 4 (fun i => Ground.enc (nth ([] : List Ground) i)) (by simp [go_sem]) (by simp [go_sem]; rfl) ?_
    refine awp_reg_seq fun K hK => ?_
    simp [go_sem, c0, d0]
    repeat refine ⟨by omega, ?_⟩
    refine hK _ ?_; clear hK K
    refine awp_block ?_
    refine awp_forget [1, 2, 7, 13, 14, 15] (by simp [go_sem, restr]; rfl) ?_
    refine awp_mv [σ.length] (by simp) ?_
    refine awp_loopU (α := Nat) (fun i => [(7, .ms σ.length 4 0 (gather (agrGf g k d) i).length), (15, .d (I i))]) (fun i => σ ++ [.arr 4 (gather (agrGf g k d) i).length (fun q => Ground.enc (nth (gather (agrGf g k d) i) q))]) (fun i => i ≤ n) (fun i => n - i) 0 (by simp [go_sem, gather]) rfl (by simp) ?_
    rintro i hi
    refine awp_reg_seq fun K hK => ?_
    simp [go_sem, c0, d0]
    repeat refine ⟨by omega, ?_⟩
    refine hK _ ?_; clear hK K
    refine awp_seq ?_
    refine awp_forget [1, 2, 7, 13, 14, 15, 16] (by simp only [restr, List.contains_cons, List.contains_nil, Nat.reduceBEq, Bool.or_false, Bool.or_true, Bool.true_or, Bool.false_or, if_true, if_false, Bool.false_eq_true]; rfl) ?_
    refine awp_cond rfl (fun c1 => ?_) (fun c1 => ?_)
    · have d1 := c1; try simp at d1
      have hl := gather_len (agrGf_len g k d) i
      refine awp_skip ?_
      refine awp_seq ?_
      refine awp_block ?_
      refine awp_reg_seq fun K hK => ?_
      simp [go_sem, c0, d0, c1, d1]
      repeat refine ⟨by omega, ?_⟩
      refine hK _ ?_; clear hK K
      refine awp_reg_seq fun K hK => ?_
      simp [go_sem, c0, d0, c1, d1]
      repeat refine ⟨by omega, ?_⟩
      refine CSk.mk (ref33_Closes_cs _ _ _ _) ?_
      simp [go_sem, c0, d0, c1, d1]
      repeat refine ⟨by omega, ?_⟩
      refine hK _ ?_; clear hK K
      refine awp_forget [1, 2, 7, 9, 13, 14, 15, 22] (by simp only [restr, List.contains_cons, List.contains_nil, Nat.reduceBEq, Bool.or_false, Bool.or_true, Bool.true_or, Bool.false_or, if_true, if_false, Bool.false_eq_true]; rfl) ?_
      refine awp_cond rfl (fun c2 => ?_) (fun c2 => ?_)
      · have d2 := c2; try simp at d2
        have ha : gather (agrGf g k d) (i + 1) = gather (agrGf g k d) i ++ [agrGd (g i)] := by rw [gather, agrGf, if_pos c2]
        refine awp_reg_end fun K hK => ?_
        simp [go_sem, c0, d0, c1, d1, c2, d2, ha, hwf.one, hwf.zero]
        repeat refine ⟨by omega, ?_⟩
        refine hK _ ?_; clear hK K
        refine awp_rows σ.length (fun q => Ground.enc (nth (gather (agrGf g k d) i ++ [agrGd (g i)]) q)) (by simp [go_sem]; first | exact ⟨rfl, rfl, rfl⟩ | exact ⟨rfl, rfl⟩ | rfl) (by exact fun q hq => cat_nth (enc := Ground.enc) (x := agrGd (g i)) rfl hq) (by simp [go_sem]; rfl) ?_
        refine awp_reg_end fun K hK => ?_
        simp [go_sem, c0, d0, c1, d1, c2, d2, ha]
        try simp (disch := omega) only [wrapI]
        repeat refine ⟨by omega, ?_⟩
        refine hK _ ?_; clear hK K
        refine ⟨i + 1, back_of' (by simp [go_sem, wrap_succ (i := i) (by omega), c0, d0, c1, d1, c2, d2, ha]) ((leaves_app (by simp [go_sem]))) (by (simp [go_sem, wrap_succ (i := i) (by omega), c0, d0, c1, d1, c2, d2, ha] <;> omega)), by omega, by first | omega | (dsimp only; omega)⟩
      · have d2 := c2; try simp at d2
        have ha : gather (agrGf g k d) (i + 1) = gather (agrGf g k d) i := by rw [gather, agrGf, if_neg (by simp [c2])]; simp
        refine awp_skip ?_
        refine awp_reg_end fun K hK => ?_
        simp [go_sem, c0, d0, c1, d1, c2, d2, ha]
        try simp (disch := omega) only [wrapI]
        repeat refine ⟨by omega, ?_⟩
        refine hK _ ?_; clear hK K
        refine ⟨i + 1, back_of' (by simp [go_sem, wrap_succ (i := i) (by omega), c0, d0, c1, d1, c2, d2, ha]) ((leaves_app (by simp [go_sem]))) (by (simp [go_sem, wrap_succ (i := i) (by omega), c0, d0, c1, d1, c2, d2, ha] <;> omega)), by omega, by first | omega | (dsimp only; omega)⟩
    · have d1 := c1; try simp at d1
      obtain rfl : i = n := by omega
      refine awp_exit ?_
      refine awp_reg_seq fun K hK => ?_
      simp [go_sem, c0, d0, c1, d1]
      repeat refine ⟨by omega, ?_⟩
      refine hK _ ?_; clear hK K
      refine awp_freeze (σ.length) (by simp [go_sem]; first | exact ⟨rfl, rfl, rfl⟩ | exact ⟨rfl, rfl⟩ | rfl) (by simp [go_sem]; rfl) (by simp [go_sem, hwf.frz, hwf.frz0]; rfl) ?_
      refine awp_ret ?_
      rw [hz]; simp [go_sem, Tryz.results99]
theorem agreement_Strict_1_cs (σ : List Blk) (τ : List Blk) (a : Agr) (k : Int) : CSF Tryz.prog 127 [.agg (a.enc.map .d), .ptr σ.length 0] (σ ++ .var [.d (I k)] :: τ) (.d (B (strP k a))) := by
  refine CSF.of_body T.en127 Tryz.func127 rfl (by simp [Tryz.ntmps127]) (by simp [go_sem]) fun hwf => ?_
  refine awp_reg_seq fun K hK => ?_
  simp [go_sem, Tryz.ntmps127]
  repeat refine ⟨by omega, ?_⟩
  refine hK _ ?_; clear hK K
  refine awp_reg_seq fun K hK => ?_
  simp [go_sem]
  repeat refine ⟨by omega, ?_⟩
  refine hK _ ?_; clear hK K
  refine awp_ret ?_
  simp [go_sem, Tryz.results127, strP] <;> omega
theorem agreement_Strict_cs (σ : List Blk) (c : Option Nat) (n : Nat) (g : Nat → Agr) (k : Int) (hn : n < 1000000000) : CSF Tryz.prog 96 [.d (SL c 6 Agr.enc n g), .d (I k)] σ (.d (B (agrStr n g k))) := by
  refine CSF.of_body T.en96 Tryz.func96 rfl (by simp [Tryz.ntmps96]) (by simp [go_sem]) fun hwf => ?_
  refine awp_reg_seq fun K hK => ?_
  simp [go_sem, Tryz.ntmps96]
  repeat refine ⟨by omega, ?_⟩
  refine hK _ ?_; clear hK K
  refine awp_reg_seq fun K hK => ?_
  simp [go_sem]
  repeat refine ⟨by omega, ?_⟩
  refine CSk.mk (agreement_Check_cs _ _ _ _ (by first | assumption | omega | simp_all)) ?_
  simp [go_sem]
  repeat refine ⟨by omega, ?_⟩
  refine CSm.mk (containsAgr_cs _ c n g _ _ (strP k) hn (fun i hi => agreement_Strict_1_cs σ [] (g i) k)) ?_
  simp [go_sem]
  repeat refine ⟨by omega, ?_⟩
  refine hK _ ?_; clear hK K
  refine awp_ret ?_
  simp [go_sem, Tryz.results96, agrStr]
  rfl
theorem ref33_Strict_cs (σ : List Blk) (c : Option Nat) (n : Nat) (g : Nat → Agr) (k : Int) (hn : n < 1000000000) : CSF Tryz.prog 69 [.d (SL c 6 Agr.enc n g), .d (I k)] σ (.d (B (agrStr n g k))) := by
  refine CSF.of_body T.en69 Tryz.func69 rfl (by simp [Tryz.ntmps69]) (by simp [go_sem]) fun hwf => ?_
  refine awp_reg_seq fun K hK => ?_
  simp [go_sem, Tryz.ntmps69]
  repeat refine ⟨by omega, ?_⟩
  refine hK _ ?_; clear hK K
  refine awp_seq ?_
  refine awp_reg_seq fun K hK => ?_
  simp [go_sem]
  repeat refine ⟨by omega, ?_⟩
  refine CSk.mk (ref33_Check_cs _ _ _ _ (by first | assumption | omega | simp_all)) ?_
  simp [go_sem]
  repeat refine ⟨by omega, ?_⟩
  refine hK _ ?_; clear hK K
  refine awp_forget [0, 1, 9] (by simp only [restr, List.contains_cons, List.contains_nil, Nat.reduceBEq, Bool.or_false, Bool.or_true, Bool.true_or, Bool.false_or, if_true, if_false, Bool.false_eq_true]; rfl) ?_
  refine awp_cond rfl (fun c0 => ?_) (fun c0 => ?_)
  · have d0 := c0; try simp at d0
    have hz : agrStr n g k = false := by unfold agrStr; simp [d0]
    refine awp_reg_seq fun K hK => ?_
    simp [go_sem, c0, d0]
    repeat refine ⟨by omega, ?_⟩
    refine hK _ ?_; clear hK K
    refine awp_ret ?_
    rw [hz]; simp [go_sem, Tryz.results69]
  · have d0 := c0; try simp at d0
    refine awp_skip ?_
    refine awp_seq ?_
    refine awp_reg_seq fun K hK => ?_
    simp [go_sem, c0, d0]
    repeat refine ⟨by omega, ?_⟩
    refine hK _ ?_; clear hK K
    refine awp_block ?_
    refine awp_forget [1, 10, 11, 12] (by simp [go_sem, restr]; rfl) ?_
    refine awp_loopU (α := Nat) (fun i => [(12, .d (I i))]) (fun i => _) (fun i => i ≤ n ∧ ∀ q, q < i → (g q).ID ≠ k) (fun i => n - i) 0 (by simp [go_sem]) rfl (by simp) ?_
    rintro i ⟨hi, hx⟩
    refine awp_reg_seq fun K hK => ?_
    simp [go_sem, c0, d0]
    repeat refine ⟨by omega, ?_⟩
    refine hK _ ?_; clear hK K
    refine awp_seq ?_
    refine awp_forget [1, 10, 11, 12, 13] (by simp only [restr, List.contains_cons, List.contains_nil, Nat.reduceBEq, Bool.or_false, Bool.or_true, Bool.true_or, Bool.false_or, if_true, if_false, Bool.false_eq_true]; rfl) ?_
    refine awp_cond rfl (fun c1 => ?_) (fun c1 => ?_)
    · have d1 := c1; try simp at d1
      refine awp_skip ?_
      refine awp_seq ?_
      refine awp_block ?_
      refine awp_reg_seq fun K hK => ?_
      simp [go_sem, c0, d0, c1, d1]
      repeat refine ⟨by omega, ?_⟩
      refine hK _ ?_; clear hK K
      refine awp_reg_seq fun K hK => ?_
      simp [go_sem, c0, d0, c1, d1]
      repeat refine ⟨by omega, ?_⟩
      refine hK _ ?_; clear hK K
      refine awp_forget [1, 6, 10, 11, 12, 19] (by simp only [restr, List.contains_cons, List.contains_nil, Nat.reduceBEq, Bool.or_false, Bool.or_true, Bool.true_or, Bool.false_or, if_true, if_false, Bool.false_eq_true]; rfl) ?_
      refine awp_cond rfl (fun c2 => ?_) (fun c2 => ?_)
      · have d2 := c2; try simp at d2
        refine awp_reg_seq fun K hK => ?_
        simp [go_sem, c0, d0, c1, d1, c2, d2]
        repeat refine ⟨by omega, ?_⟩
        refine hK _ ?_; clear hK K
        refine awp_ret ?_
        rw [str_at d0 d1 d2]; simp [go_sem, Tryz.results69]
      · have d2 := c2; try simp at d2
        refine awp_skip ?_
        refine awp_reg_end fun K hK => ?_
        simp [go_sem, c0, d0, c1, d1, c2, d2]
        try simp (disch := omega) only [wrapI]
        repeat refine ⟨by omega, ?_⟩
        refine hK _ ?_; clear hK K
        refine ⟨i + 1, back_of' (by simp) (.refl _) (by (simp [go_sem, wrap_succ (i := i) (by omega), c0, d0, c1, d1, c2, d2] <;> omega)), ⟨by omega, fun q hq => by rcases Nat.lt_or_eq_of_le (Nat.le_of_lt_succ hq) with h | h; exact hx q h; rw [h]; simpa using d2⟩, by first | omega | (dsimp only; omega)⟩
    · have d1 := c1; try simp at d1
      obtain rfl : i = n := by omega
      refine awp_exit ?_
      refine awp_reg_seq fun K hK => ?_
      simp [go_sem, c0, d0, c1, d1]
      repeat refine ⟨by omega, ?_⟩
      refine hK _ ?_; clear hK K
      refine awp_ret ?_
      rw [str_no hx]; simp [go_sem, Tryz.results69]
theorem agreement_agreements_step_cs (σ : List Blk) (c : Option Nat) (n : Nat) (g : Nat → Agr) (k d : Int) (hn : n < 1000000000) : CSF Tryz.prog 159 [.d (SL c 6 Agr.enc n g), .d (I k), .d (I d)] σ (.d (I (stepF g k d n))) := by
  refine CSF.of_body T.en159 Tryz.func159 rfl (by simp [Tryz.ntmps159]) (by simp [go_sem]) fun hwf => ?_
  refine awp_reg_seq fun K hK => ?_
  simp [go_sem, Tryz.ntmps159]
  repeat refine ⟨by omega, ?_⟩
  refine hK _ ?_; clear hK K
  refine awp_reg_seq fun K hK => ?_
  simp [go_sem]
  repeat refine ⟨by omega, ?_⟩
  refine hK _ ?_; clear hK K
  refine awp_seq ?_
  refine awp_reg_seq fun K hK => ?_
  simp [go_sem]
  repeat refine ⟨by omega, ?_⟩
  refine hK _ ?_; clear hK K
  refine awp_block ?_
  refine awp_forget [1, 2, 7, 11, 12, 13] (by simp [go_sem, restr]; rfl) ?_
  refine awp_loopU (α := Nat) (fun i => [(7, .d (I (stepF g k d i))), (13, .d (I i))]) (fun i => _) (fun i => i ≤ n) (fun i => n - i) 0 (by simp [go_sem, stepF]) rfl (by simp) ?_
  rintro i hi
  refine awp_reg_seq fun K hK => ?_
  simp [go_sem]
  repeat refine ⟨by omega, ?_⟩
  refine hK _ ?_; clear hK K
  refine awp_seq ?_
  refine awp_forget [1, 2, 7, 11, 12, 13, 14] (by simp only [restr, List.contains_cons, List.contains_nil, Nat.reduceBEq, Bool.or_false, Bool.or_true, Bool.true_or, Bool.false_or, if_true, if_false, Bool.false_eq_true]; rfl) ?_
  refine awp_cond rfl (fun c0 => ?_) (fun c0 => ?_)
  · have d0 := c0; try simp at d0
    refine awp_skip ?_
    refine awp_seq ?_
    refine awp_block ?_
    refine awp_reg_seq fun K hK => ?_
    simp [go_sem, c0, d0]
    repeat refine ⟨by omega, ?_⟩
    refine hK _ ?_; clear hK K
    refine awp_reg_seq fun K hK => ?_
    simp [go_sem, c0, d0]
    repeat refine ⟨by omega, ?_⟩
    refine CSk.mk (agreement_Closes_cs _ _ _ _) ?_
    simp [go_sem, c0, d0]
    repeat refine ⟨by omega, ?_⟩
    refine hK _ ?_; clear hK K
    refine awp_forget [1, 2, 7, 9, 11, 12, 13, 20] (by simp only [restr, List.contains_cons, List.contains_nil, Nat.reduceBEq, Bool.or_false, Bool.or_true, Bool.true_or, Bool.false_or, if_true, if_false, Bool.false_eq_true]; rfl) ?_
    refine awp_cond rfl (fun c1 => ?_) (fun c1 => ?_)
    · have d1 := c1; try simp at d1
      have ha : stepF g k d (i + 1) = max (stepF g k d i) (min (g i).Until (g i).In.Until) := by rw [stepF, if_pos c1]
      refine awp_reg_end fun K hK => ?_
      simp [go_sem, c0, d0, c1, d1, ha]
      repeat refine ⟨by omega, ?_⟩
      refine CSk.mk (agreement_ends_cs _ _) ?_
      simp [go_sem, c0, d0, c1, d1, ha]
      repeat refine ⟨by omega, ?_⟩
      refine hK _ ?_; clear hK K
      refine awp_reg_end fun K hK => ?_
      simp [go_sem, c0, d0, c1, d1, ha]
      try simp (disch := omega) only [wrapI]
      repeat refine ⟨by omega, ?_⟩
      refine hK _ ?_; clear hK K
      refine ⟨i + 1, back_of' (by simp) (.refl _) (by (simp [go_sem, wrap_succ (i := i) (by omega), c0, d0, c1, d1, ha] <;> omega)), by omega, by first | omega | (dsimp only; omega)⟩
    · have d1 := c1; try simp at d1
      have ha : stepF g k d (i + 1) = stepF g k d i := by rw [stepF, if_neg (by simp [c1])]
      refine awp_skip ?_
      refine awp_reg_end fun K hK => ?_
      simp [go_sem, c0, d0, c1, d1, ha]
      try simp (disch := omega) only [wrapI]
      repeat refine ⟨by omega, ?_⟩
      refine hK _ ?_; clear hK K
      refine ⟨i + 1, back_of' (by simp) (.refl _) (by (simp [go_sem, wrap_succ (i := i) (by omega), c0, d0, c1, d1, ha] <;> omega)), by omega, by first | omega | (dsimp only; omega)⟩
  · have d0 := c0; try simp at d0
    obtain rfl : i = n := by omega
    refine awp_exit ?_
    refine awp_reg_seq fun K hK => ?_
    simp [go_sem, c0, d0]
    repeat refine ⟨by omega, ?_⟩
    refine hK _ ?_; clear hK K
    refine awp_ret ?_
    simp [go_sem, Tryz.results159, c0, d0] <;> omega
theorem agreement_agreements_opens_cs (σ : List Blk) (c : Option Nat) (n : Nat) (g : Nat → Agr) (k d : Int) (hn : n < 1000000000) (hd : d ≤ 1048576) : CSF Tryz.prog 143 [.d (SL c 6 Agr.enc n g), .d (I k), .d (I d)] σ (.d (I (opA n g k d))) := by
  refine CSF.of_body T.en143 Tryz.func143 rfl (by simp [Tryz.ntmps143]) (by simp [go_sem]) fun hwf => ?_
  refine awp_reg_seq fun K hK => ?_
  simp [go_sem, Tryz.ntmps143]
  repeat refine ⟨by omega, ?_⟩
  refine hK _ ?_; clear hK K
  refine awp_reg_seq fun K hK => ?_
  simp [go_sem]
  repeat refine ⟨by omega, ?_⟩
  refine hK _ ?_; clear hK K
  refine awp_seq ?_
  refine awp_reg_seq fun K hK => ?_
  simp [go_sem]
  repeat refine ⟨by omega, ?_⟩
  refine CSk.mk (agreement_agreements_step_cs _ c n g k d hn) ?_
  simp [go_sem]
  repeat refine ⟨by omega, ?_⟩
  refine hK _ ?_; clear hK K
  refine awp_block ?_
  refine awp_forget [0, 1, 2, 7, 8] (by simp [go_sem, restr]; rfl) ?_
  refine awp_loopU (α := Int) (fun x => [(2, .d (I x)), (8, .d (I (stepF g k x n)))]) (fun x => _) (fun x => x ≤ 1048576 ∧ opA n g k d = opA n g k x) (fun x => (1048576 - x).toNat) d (by simp [go_sem]) rfl (⟨hd, rfl⟩) ?_
  rintro x ⟨hx, ho⟩
  have h1 := stepF_ge g k x n; have h2 := stepF_le g k x hx n
  refine awp_seq ?_
  refine awp_reg_seq fun K hK => ?_
  simp [go_sem]
  repeat refine ⟨by omega, ?_⟩
  refine hK _ ?_; clear hK K
  refine awp_forget [0, 1, 2, 7, 8, 16] (by simp only [restr, List.contains_cons, List.contains_nil, Nat.reduceBEq, Bool.or_false, Bool.or_true, Bool.true_or, Bool.false_or, if_true, if_false, Bool.false_eq_true]; rfl) ?_
  refine awp_cond rfl (fun c0 => ?_) (fun c0 => ?_)
  · have d0 := c0; try simp at d0
    refine awp_skip ?_
    refine awp_seq ?_
    refine awp_block ?_
    refine awp_reg_end fun K hK => ?_
    simp [go_sem, c0, d0]
    repeat refine ⟨by omega, ?_⟩
    refine hK _ ?_; clear hK K
    refine awp_reg_end fun K hK => ?_
    simp [go_sem, c0, d0]
    repeat refine ⟨by omega, ?_⟩
    refine CSk.mk (agreement_agreements_step_cs _ c n g k (stepF g k x n) hn) ?_
    simp [go_sem, c0, d0]
    repeat refine ⟨by omega, ?_⟩
    refine hK _ ?_; clear hK K
    refine ⟨stepF g k x n, back_of' (by simp) (.refl _) (by (simp [go_sem, c0, d0] <;> omega)), ⟨h2, by rw [ho, opA, dif_pos (by omega)]⟩, by first | omega | (dsimp only; omega)⟩
  · have d0 := c0; try simp at d0
    have hs : opA n g k x = x := by rw [opA, dif_neg (by omega)]
    rw [hs] at ho
    refine awp_exit ?_
    refine awp_reg_seq fun K hK => ?_
    simp [go_sem, c0, d0]
    repeat refine ⟨by omega, ?_⟩
    refine hK _ ?_; clear hK K
    refine awp_ret ?_
    rw [ho]; simp [go_sem, Tryz.results143]
def agrOp (n : Nat) (g : Nat → Agr) (k d : Int) : Int × Int := if agrChk n g ≠ 0 then (0, 1) else if k < 1 ∨ 1073741824 < k ∨ d < 0 ∨ 1048575 < d then (0, 2) else if opA n g k d = 1048576 then (0, 23) else (opA n g k d, 0)
theorem agreement_Opens_cs (σ : List Blk) (c : Option Nat) (n : Nat) (g : Nat → Agr) (k d : Int) (hn : n < 1000000000) : CSF Tryz.prog 112 [.d (SL c 6 Agr.enc n g), .d (I k), .d (I d)] σ (.tup [.d (I (agrOp n g k d).1), .d (I (agrOp n g k d).2)]) := by
  refine CSF.of_body T.en112 Tryz.func112 rfl (by simp [Tryz.ntmps112]) (by simp [go_sem]) fun hwf => ?_
  refine awp_reg_seq fun K hK => ?_
  simp [go_sem, Tryz.ntmps112]
  repeat refine ⟨by omega, ?_⟩
  refine hK _ ?_; clear hK K
  refine awp_seq ?_
  refine awp_block ?_
  refine awp_reg_seq fun K hK => ?_
  simp [go_sem]
  repeat refine ⟨by omega, ?_⟩
  refine CSk.mk (agreement_Check_cs _ _ _ _ (by first | assumption | omega | simp_all)) ?_
  simp [go_sem]
  repeat refine ⟨by omega, ?_⟩
  refine hK _ ?_; clear hK K
  refine awp_forget [0, 1, 2, 9] (by simp only [restr, List.contains_cons, List.contains_nil, Nat.reduceBEq, Bool.or_false, Bool.or_true, Bool.true_or, Bool.false_or, if_true, if_false, Bool.false_eq_true]; rfl) ?_
  refine awp_cond rfl (fun c0 => ?_) (fun c0 => ?_)
  · have d0 := c0; try simp at d0
    have hz : agrOp n g k d = (0, 1) := by unfold agrOp; rw [if_pos d0]
    refine awp_reg_seq fun K hK => ?_
    simp [go_sem, c0, d0]
    repeat refine ⟨by omega, ?_⟩
    refine hK _ ?_; clear hK K
    refine awp_ret ?_
    rw [hz]; simp [go_sem, Tryz.results112]
  · have d0 := c0; try simp at d0
    refine awp_reg_seq fun K hK => ?_
    simp [go_sem, c0, d0]
    repeat refine ⟨by omega, ?_⟩
    refine hK _ ?_; clear hK K
    refine awp_forget [0, 1, 2, 13] (by simp only [restr, List.contains_cons, List.contains_nil, Nat.reduceBEq, Bool.or_false, Bool.or_true, Bool.true_or, Bool.false_or, if_true, if_false, Bool.false_eq_true]; rfl) ?_
    refine awp_cond rfl (fun c1 => ?_) (fun c1 => ?_)
    · have d1 := c1; try simp at d1
      have hz : agrOp n g k d = (0, 2) := by unfold agrOp; rw [if_neg (by simp [d0]), if_pos (by omega)]
      refine awp_reg_seq fun K hK => ?_
      simp [go_sem, c0, d0, c1, d1]
      repeat refine ⟨by omega, ?_⟩
      refine hK _ ?_; clear hK K
      refine awp_ret ?_
      rw [hz]; simp [go_sem, Tryz.results112]
    · have d1 := c1; try simp at d1
      refine awp_skip ?_
      refine awp_reg_seq fun K hK => ?_
      simp [go_sem, c0, d0, c1, d1]
      repeat refine ⟨by omega, ?_⟩
      refine CSk.mk (agreement_agreements_opens_cs _ c n g k d hn (by omega)) ?_
      simp [go_sem, c0, d0, c1, d1]
      repeat refine ⟨by omega, ?_⟩
      refine hK _ ?_; clear hK K
      refine awp_seq ?_
      refine awp_reg_seq fun K hK => ?_
      simp [go_sem, c0, d0, c1, d1]
      repeat refine ⟨by omega, ?_⟩
      refine hK _ ?_; clear hK K
      refine awp_forget [8, 33] (by simp only [restr, List.contains_cons, List.contains_nil, Nat.reduceBEq, Bool.or_false, Bool.or_true, Bool.true_or, Bool.false_or, if_true, if_false, Bool.false_eq_true]; rfl) ?_
      refine awp_cond rfl (fun c2 => ?_) (fun c2 => ?_)
      · have d2 := c2; try simp at d2
        have hz : agrOp n g k d = (0, 23) := by unfold agrOp; rw [if_neg (by simp [d0]), if_neg (by omega), if_pos d2]
        refine awp_reg_seq fun K hK => ?_
        simp [go_sem, c0, d0, c1, d1, c2, d2]
        repeat refine ⟨by omega, ?_⟩
        refine hK _ ?_; clear hK K
        refine awp_ret ?_
        rw [hz]; simp [go_sem, Tryz.results112]
      · have d2 := c2; try simp at d2
        have hz : agrOp n g k d = (opA n g k d, 0) := by unfold agrOp; rw [if_neg (by simp [d0]), if_neg (by omega), if_neg d2]
        refine awp_skip ?_
        refine awp_reg_seq fun K hK => ?_
        simp [go_sem, c0, d0, c1, d1, c2, d2]
        repeat refine ⟨by omega, ?_⟩
        refine hK _ ?_; clear hK K
        refine awp_ret ?_
        rw [hz]; simp [go_sem, Tryz.results112]
end Go.Proofs.YtkochmppmpmddaaGreat

/-! Cc -/
namespace Go.Proofs.YtkochmppmpmddaaGreat
open Go.Abs Go.Arch
set_option linter.unusedVariables false
set_option linter.unusedSimpArgs false
set_option maxRecDepth 100000
set_option maxHeartbeats 400000
structure Pmt where
  ID : Int
  Reader : Int
  Unit : Int
  Kinds : Int
  In : Span
instance : Inhabited Pmt := ⟨⟨0, 0, 0, 0, ⟨0, 0⟩⟩⟩
def Pmt.enc (r : Pmt) : List D := [I r.ID, I r.Reader, I r.Unit, I r.Kinds, I r.In.From, I r.In.Until]
def encI (x : Int) : List D := [I x]
attribute [go_sem] Pmt.enc encI
def idOk (n : Int) : Bool := decide (1 ≤ n) && decide (n ≤ 1073741824)
def pmtOk (a : Pmt) : Bool := idOk a.ID && idOk a.Reader && idOk a.Unit && decide (1 ≤ a.Kinds) && decide (a.Kinds ≤ 7) && spanOk a.In
def pmtE (g : Nat → Pmt) (i : Nat) : Int := if pmtOk (g i) = false then 2 else if 0 < i ∧ (g i).ID ≤ (g (i - 1)).ID then 5 else 0
def pmtChk (n : Nat) (g : Nat → Pmt) : Int := if 64 < n then 8 else firstE (pmtE g) 0 n
theorem permit_id_cs (σ : List Blk) (n : Int) : CSF Tryz.prog 119 [.d (I n)] σ (.d (B (idOk n))) := by
  refine CSF.of_body T.en119 Tryz.func119 rfl (by simp [Tryz.ntmps119]) (by simp [go_sem]) fun hwf => ?_
  refine awp_reg_seq fun K hK => ?_
  simp [go_sem, Tryz.ntmps119]
  repeat refine ⟨by omega, ?_⟩
  refine hK _ ?_; clear hK K
  refine awp_reg_seq fun K hK => ?_
  simp [go_sem]
  repeat refine ⟨by omega, ?_⟩
  refine hK _ ?_; clear hK K
  refine awp_ret ?_
  simp [go_sem, Tryz.results119, idOk] <;> omega
theorem policy_id_cs (σ : List Blk) (n : Int) : CSF Tryz.prog 45 [.d (I n)] σ (.d (B (idOk n))) := by
  refine CSF.of_body T.en45 Tryz.func45 rfl (by simp [Tryz.ntmps45]) (by simp [go_sem]) fun hwf => ?_
  refine awp_reg_seq fun K hK => ?_
  simp [go_sem, Tryz.ntmps45]
  repeat refine ⟨by omega, ?_⟩
  refine hK _ ?_; clear hK K
  refine awp_reg_seq fun K hK => ?_
  simp [go_sem]
  repeat refine ⟨by omega, ?_⟩
  refine hK _ ?_; clear hK K
  refine awp_ret ?_
  simp [go_sem, Tryz.results45, idOk] <;> omega
theorem permit_formed_cs (σ : List Blk) (a : Pmt) : CSF Tryz.prog 83 [.agg (a.enc.map .d)] σ (.d (B (pmtOk a))) := by
  refine CSF.of_body T.en83 Tryz.func83 rfl (by simp [Tryz.ntmps83]) (by simp [go_sem]) fun hwf => ?_
  refine awp_reg_seq fun K hK => ?_
  simp [go_sem, Tryz.ntmps83]
  repeat refine ⟨by omega, ?_⟩
  refine hK _ ?_; clear hK K
  refine awp_reg_seq fun K hK => ?_
  simp [go_sem]
  repeat refine ⟨by omega, ?_⟩
  refine CSk.mk (permit_id_cs _ _) ?_
  simp [go_sem]
  repeat refine ⟨by omega, ?_⟩
  refine CSm.mk (permit_id_cs _ _) ?_
  simp [go_sem]
  repeat refine ⟨by omega, ?_⟩
  refine CSm.mk (permit_id_cs _ _) ?_
  simp [go_sem]
  repeat refine ⟨by omega, ?_⟩
  refine hK _ ?_; clear hK K
  refine awp_ret ?_
  simp [go_sem, Tryz.results83, pmtOk, spanOk, Bool.and_assoc] <;> omega
theorem ref34_Form_cs (σ : List Blk) (a : Pmt) : CSF Tryz.prog 91 [.agg (a.enc.map .d)] σ (.d (B (pmtOk a))) := by
  refine CSF.of_body T.en91 Tryz.func91 rfl (by simp [Tryz.ntmps91]) (by simp [go_sem]) fun hwf => ?_
  refine awp_reg_seq fun K hK => ?_
  simp [go_sem, Tryz.ntmps91]
  repeat refine ⟨by omega, ?_⟩
  refine hK _ ?_; clear hK K
  refine awp_reg_seq fun K hK => ?_
  simp [go_sem]
  repeat refine ⟨by omega, ?_⟩
  refine CSm.mk (ref31_Spanned_cs _ a.In) ?_
  simp [go_sem]
  repeat refine ⟨by omega, ?_⟩
  refine hK _ ?_; clear hK K
  refine awp_ret ?_
  simp [go_sem, Tryz.results91, pmtOk, idOk, Bool.and_assoc] <;> omega
theorem permit_Check_cs (σ : List Blk) (c : Option Nat) (n : Nat) (g : Nat → Pmt) (hn : n < 1000000000) : CSF Tryz.prog 50 [.d (SL c 6 Pmt.enc n g)] σ (.d (I (pmtChk n g))) := by
  refine CSF.of_body T.en50 Tryz.func50 rfl (by simp [Tryz.ntmps50]) (by simp [go_sem]) fun hwf => ?_
  refine awp_reg_seq fun K hK => ?_
  simp [go_sem, Tryz.ntmps50]
  repeat refine ⟨by omega, ?_⟩
  refine hK _ ?_; clear hK K
  refine awp_seq ?_
  refine awp_reg_seq fun K hK => ?_
  simp [go_sem]
  repeat refine ⟨by omega, ?_⟩
  refine hK _ ?_; clear hK K
  refine awp_forget [0, 7] (by simp only [restr, List.contains_cons, List.contains_nil, Nat.reduceBEq, Bool.or_false, Bool.or_true, Bool.true_or, Bool.false_or, if_true, if_false, Bool.false_eq_true]; rfl) ?_
  refine awp_cond rfl (fun c0 => ?_) (fun c0 => ?_)
  · have d0 := c0; try simp at d0
    refine awp_reg_seq fun K hK => ?_
    simp [go_sem, c0, d0]
    repeat refine ⟨by omega, ?_⟩
    refine hK _ ?_; clear hK K
    refine awp_ret ?_
    simp [go_sem, Tryz.results50, pmtChk, c0, d0] <;> omega
  · have d0 := c0; try simp at d0
    refine awp_skip ?_
    refine awp_seq ?_
    refine awp_reg_seq fun K hK => ?_
    simp [go_sem, c0, d0]
    repeat refine ⟨by omega, ?_⟩
    refine hK _ ?_; clear hK K
    refine awp_block ?_
    refine awp_forget [0, 8, 9, 10] (by simp [go_sem, restr]; rfl) ?_
    refine awp_loopU (α := Nat) (fun i => [(10, .d (I i))]) (fun i => _) (fun i => i ≤ n ∧ firstE (pmtE g) 0 n = firstE (pmtE g) i (n - i)) (fun i => n - i) 0 (by simp [go_sem]) rfl (by simp) ?_
    rintro i ⟨hi, hx⟩
    refine awp_reg_seq fun K hK => ?_
    simp [go_sem, c0, d0, hi, wrap_pred (i := i) (by omega)]
    repeat refine ⟨by omega, ?_⟩
    refine hK _ ?_; clear hK K
    refine awp_seq ?_
    refine awp_forget [0, 8, 9, 10, 11] (by simp only [restr, List.contains_cons, List.contains_nil, Nat.reduceBEq, Bool.or_false, Bool.or_true, Bool.true_or, Bool.false_or, if_true, if_false, Bool.false_eq_true]; rfl) ?_
    refine awp_cond rfl (fun c1 => ?_) (fun c1 => ?_)
    · have d1 := c1; try simp at d1
      obtain ⟨k, hk⟩ : ∃ k, n - i = k + 1 := ⟨n - i - 1, by omega⟩
      have hk' : n - (i + 1) = k := by omega
      rw [hk, firstE] at hx
      refine awp_skip ?_
      refine awp_seq ?_
      refine awp_block ?_
      refine awp_reg_seq fun K hK => ?_
      simp [go_sem, c0, d0, hi, wrap_pred (i := i) (by omega), c1, d1]
      repeat refine ⟨by omega, ?_⟩
      refine hK _ ?_; clear hK K
      refine awp_block ?_
      refine awp_reg_seq fun K hK => ?_
      simp [go_sem, c0, d0, hi, wrap_pred (i := i) (by omega), c1, d1]
      repeat refine ⟨by omega, ?_⟩
      refine CSk.mk (permit_formed_cs _ _) ?_
      simp [go_sem, c0, d0, hi, wrap_pred (i := i) (by omega), c1, d1]
      repeat refine ⟨by omega, ?_⟩
      refine hK _ ?_; clear hK K
      refine awp_forget [0, 3, 4, 8, 9, 10, 15] (by simp only [restr, List.contains_cons, List.contains_nil, Nat.reduceBEq, Bool.or_false, Bool.or_true, Bool.true_or, Bool.false_or, if_true, if_false, Bool.false_eq_true]; rfl) ?_
      refine awp_cond rfl (fun c2 => ?_) (fun c2 => ?_)
      · have d2 := c2; try simp at d2
        have he : pmtE g i = 2 := by unfold pmtE; rw [if_pos d2]
        rw [he] at hx; simp at hx
        refine awp_reg_seq fun K hK => ?_
        simp [go_sem, c0, d0, hi, wrap_pred (i := i) (by omega), c1, d1, c2, d2]
        repeat refine ⟨by omega, ?_⟩
        refine hK _ ?_; clear hK K
        refine awp_ret ?_
        simp [go_sem, Tryz.results50, pmtChk, hx, c0, d0, hi, wrap_pred (i := i) (by omega), c1, d1, c2, d2] <;> omega
      · have d2 := c2; try simp at d2
        refine awp_draw_seq 14 T.mixed (by kernel_rfl) fun K hK => ?_
        simp [go_sem, c0, d0, hi, wrap_pred (i := i) (by omega), c1, d1, c2, d2]
        try simp (disch := omega) only [wrapI]
        repeat refine ⟨by omega, ?_⟩
        refine hK _ ?_; clear hK K
        refine awp_forget [0, 8, 9, 10, 19] (by simp only [restr, List.contains_cons, List.contains_nil, Nat.reduceBEq, Bool.or_false, Bool.or_true, Bool.true_or, Bool.false_or, if_true, if_false, Bool.false_eq_true]; rfl) ?_
        refine awp_cond rfl (fun c3 => ?_) (fun c3 => ?_)
        · have d3 := c3; try simp at d3
          have he : pmtE g i = 5 := by unfold pmtE; rw [if_neg (by simp [d2]), if_pos d3]
          rw [he] at hx; simp at hx
          refine awp_reg_seq fun K hK => ?_
          simp [go_sem, c0, d0, hi, wrap_pred (i := i) (by omega), c1, d1, c2, d2, c3, d3]
          repeat refine ⟨by omega, ?_⟩
          refine hK _ ?_; clear hK K
          refine awp_ret ?_
          simp [go_sem, Tryz.results50, pmtChk, hx, c0, d0, hi, wrap_pred (i := i) (by omega), c1, d1, c2, d2, c3, d3] <;> omega
        · have d3 := c3; try simp at d3
          have he : pmtE g i = 0 := by unfold pmtE; rw [if_neg (by simp [d2]), if_neg (by omega)]
          rw [he] at hx; simp at hx
          refine awp_skip ?_
          refine awp_reg_end fun K hK => ?_
          simp [go_sem, c0, d0, hi, wrap_pred (i := i) (by omega), c1, d1, c2, d2, c3, d3]
          try simp (disch := omega) only [wrapI]
          repeat refine ⟨by omega, ?_⟩
          refine hK _ ?_; clear hK K
          refine ⟨i + 1, back_of' (by simp) (.refl _) (by (simp [go_sem, wrap_succ (i := i) (by omega), c0, d0, hi, wrap_pred (i := i) (by omega), c1, d1, c2, d2, c3, d3] <;> omega)), ⟨by omega, by rw [hx, hk']⟩, by first | omega | (dsimp only; omega)⟩
    · have d1 := c1; try simp at d1
      obtain rfl : i = n := by omega
      rw [Nat.sub_self, firstE] at hx
      refine awp_exit ?_
      refine awp_reg_seq fun K hK => ?_
      simp [go_sem, c0, d0, hi, wrap_pred (i := i) (by omega), c1, d1]
      repeat refine ⟨by omega, ?_⟩
      refine hK _ ?_; clear hK K
      refine awp_ret ?_
      simp [go_sem, Tryz.results50, pmtChk, hx, c0, d0, hi, wrap_pred (i := i) (by omega), c1, d1] <;> omega
theorem ref34_Check_cs (σ : List Blk) (c : Option Nat) (n : Nat) (g : Nat → Pmt) (hn : n < 1000000000) : CSF Tryz.prog 60 [.d (SL c 6 Pmt.enc n g)] σ (.d (I (pmtChk n g))) := by
  refine CSF.of_body T.en60 Tryz.func60 rfl (by simp [Tryz.ntmps60]) (by simp [go_sem]) fun hwf => ?_
  refine awp_reg_seq fun K hK => ?_
  simp [go_sem, Tryz.ntmps60]
  repeat refine ⟨by omega, ?_⟩
  refine hK _ ?_; clear hK K
  refine awp_seq ?_
  refine awp_reg_seq fun K hK => ?_
  simp [go_sem]
  repeat refine ⟨by omega, ?_⟩
  refine hK _ ?_; clear hK K
  refine awp_forget [0, 7] (by simp only [restr, List.contains_cons, List.contains_nil, Nat.reduceBEq, Bool.or_false, Bool.or_true, Bool.true_or, Bool.false_or, if_true, if_false, Bool.false_eq_true]; rfl) ?_
  refine awp_cond rfl (fun c0 => ?_) (fun c0 => ?_)
  · have d0 := c0; try simp at d0
    refine awp_reg_seq fun K hK => ?_
    simp [go_sem, c0, d0]
    repeat refine ⟨by omega, ?_⟩
    refine hK _ ?_; clear hK K
    refine awp_ret ?_
    simp [go_sem, Tryz.results60, pmtChk, c0, d0] <;> omega
  · have d0 := c0; try simp at d0
    refine awp_skip ?_
    refine awp_seq ?_
    refine awp_reg_seq fun K hK => ?_
    simp [go_sem, c0, d0]
    repeat refine ⟨by omega, ?_⟩
    refine hK _ ?_; clear hK K
    refine awp_block ?_
    refine awp_forget [0, 8, 9, 10] (by simp [go_sem, restr]; rfl) ?_
    refine awp_loopU (α := Nat) (fun i => [(10, .d (I i))]) (fun i => _) (fun i => i ≤ n ∧ firstE (pmtE g) 0 n = firstE (pmtE g) i (n - i)) (fun i => n - i) 0 (by simp [go_sem]) rfl (by simp) ?_
    rintro i ⟨hi, hx⟩
    refine awp_reg_seq fun K hK => ?_
    simp [go_sem, c0, d0, hi, wrap_pred (i := i) (by omega)]
    repeat refine ⟨by omega, ?_⟩
    refine hK _ ?_; clear hK K
    refine awp_seq ?_
    refine awp_forget [0, 8, 9, 10, 11] (by simp only [restr, List.contains_cons, List.contains_nil, Nat.reduceBEq, Bool.or_false, Bool.or_true, Bool.true_or, Bool.false_or, if_true, if_false, Bool.false_eq_true]; rfl) ?_
    refine awp_cond rfl (fun c1 => ?_) (fun c1 => ?_)
    · have d1 := c1; try simp at d1
      obtain ⟨k, hk⟩ : ∃ k, n - i = k + 1 := ⟨n - i - 1, by omega⟩
      have hk' : n - (i + 1) = k := by omega
      rw [hk, firstE] at hx
      refine awp_skip ?_
      refine awp_seq ?_
      refine awp_block ?_
      refine awp_reg_seq fun K hK => ?_
      simp [go_sem, c0, d0, hi, wrap_pred (i := i) (by omega), c1, d1]
      repeat refine ⟨by omega, ?_⟩
      refine hK _ ?_; clear hK K
      refine awp_seq ?_
      refine awp_reg_seq fun K hK => ?_
      simp [go_sem, c0, d0, hi, wrap_pred (i := i) (by omega), c1, d1]
      repeat refine ⟨by omega, ?_⟩
      refine CSk.mk (ref34_Form_cs _ _) ?_
      simp [go_sem, c0, d0, hi, wrap_pred (i := i) (by omega), c1, d1]
      repeat refine ⟨by omega, ?_⟩
      refine hK _ ?_; clear hK K
      refine awp_forget [0, 3, 4, 8, 9, 10, 17] (by simp only [restr, List.contains_cons, List.contains_nil, Nat.reduceBEq, Bool.or_false, Bool.or_true, Bool.true_or, Bool.false_or, if_true, if_false, Bool.false_eq_true]; rfl) ?_
      refine awp_cond rfl (fun c2 => ?_) (fun c2 => ?_)
      · have d2 := c2; try simp at d2
        have he : pmtE g i = 2 := by unfold pmtE; rw [if_pos d2]
        rw [he] at hx; simp at hx
        refine awp_reg_seq fun K hK => ?_
        simp [go_sem, c0, d0, hi, wrap_pred (i := i) (by omega), c1, d1, c2, d2]
        repeat refine ⟨by omega, ?_⟩
        refine hK _ ?_; clear hK K
        refine awp_ret ?_
        simp [go_sem, Tryz.results60, pmtChk, hx, c0, d0, hi, wrap_pred (i := i) (by omega), c1, d1, c2, d2] <;> omega
      · have d2 := c2; try simp at d2
        refine awp_skip ?_
        refine awp_draw_seq 13 T.mixed (by kernel_rfl) fun K hK => ?_
        simp [go_sem, c0, d0, hi, wrap_pred (i := i) (by omega), c1, d1, c2, d2]
        try simp (disch := omega) only [wrapI]
        repeat refine ⟨by omega, ?_⟩
        refine hK _ ?_; clear hK K
        refine awp_forget [0, 8, 9, 10, 30] (by simp only [restr, List.contains_cons, List.contains_nil, Nat.reduceBEq, Bool.or_false, Bool.or_true, Bool.true_or, Bool.false_or, if_true, if_false, Bool.false_eq_true]; rfl) ?_
        refine awp_cond rfl (fun c3 => ?_) (fun c3 => ?_)
        · have d3 := c3; try simp at d3
          have he : pmtE g i = 5 := by unfold pmtE; rw [if_neg (by simp [d2]), if_pos d3]
          rw [he] at hx; simp at hx
          refine awp_reg_seq fun K hK => ?_
          simp [go_sem, c0, d0, hi, wrap_pred (i := i) (by omega), c1, d1, c2, d2, c3, d3]
          repeat refine ⟨by omega, ?_⟩
          refine hK _ ?_; clear hK K
          refine awp_ret ?_
          simp [go_sem, Tryz.results60, pmtChk, hx, c0, d0, hi, wrap_pred (i := i) (by omega), c1, d1, c2, d2, c3, d3] <;> omega
        · have d3 := c3; try simp at d3
          have he : pmtE g i = 0 := by unfold pmtE; rw [if_neg (by simp [d2]), if_neg (by omega)]
          rw [he] at hx; simp at hx
          refine awp_skip ?_
          refine awp_reg_end fun K hK => ?_
          simp [go_sem, c0, d0, hi, wrap_pred (i := i) (by omega), c1, d1, c2, d2, c3, d3]
          try simp (disch := omega) only [wrapI]
          repeat refine ⟨by omega, ?_⟩
          refine hK _ ?_; clear hK K
          refine ⟨i + 1, back_of' (by simp) (.refl _) (by (simp [go_sem, wrap_succ (i := i) (by omega), c0, d0, hi, wrap_pred (i := i) (by omega), c1, d1, c2, d2, c3, d3] <;> omega)), ⟨by omega, by rw [hx, hk']⟩, by first | omega | (dsimp only; omega)⟩
    · have d1 := c1; try simp at d1
      obtain rfl : i = n := by omega
      rw [Nat.sub_self, firstE] at hx
      refine awp_exit ?_
      refine awp_reg_seq fun K hK => ?_
      simp [go_sem, c0, d0, hi, wrap_pred (i := i) (by omega), c1, d1]
      repeat refine ⟨by omega, ?_⟩
      refine hK _ ?_; clear hK K
      refine awp_ret ?_
      simp [go_sem, Tryz.results60, pmtChk, hx, c0, d0, hi, wrap_pred (i := i) (by omega), c1, d1] <;> omega
theorem ref34_Few_cs (σ : List Blk) (c c' : Option Nat) (n n' : Nat) (g : Nat → Pmt) (g' : Nat → Int) : CSF Tryz.prog 41 [.d (SL c 6 Pmt.enc n g), .d (SL c' 1 encI n' g')] σ (.d (B (decide ((n : Int) ≤ 20) && decide ((n' : Int) ≤ 20)))) := by
  refine CSF.of_body T.en41 Tryz.func41 rfl (by simp [Tryz.ntmps41]) (by simp [go_sem]) fun hwf => ?_
  refine awp_reg_seq fun K hK => ?_
  simp [go_sem, Tryz.ntmps41]
  repeat refine ⟨by omega, ?_⟩
  refine hK _ ?_; clear hK K
  refine awp_reg_seq fun K hK => ?_
  simp [go_sem]
  repeat refine ⟨by omega, ?_⟩
  refine hK _ ?_; clear hK K
  refine awp_ret ?_
  simp [go_sem, Tryz.results41] <;> omega
end Go.Proofs.YtkochmppmpmddaaGreat

/-! Cd -/
namespace Go.Proofs.YtkochmppmpmddaaGreat
open Go.Abs Go.Arch
set_option linter.unusedVariables false
set_option linter.unusedSimpArgs false
set_option maxRecDepth 100000
set_option maxHeartbeats 400000
theorem indexOf_cs (σ : List Blk) (c : Option Nat) (n : Nat) (g : Nat → Int) (k : Int) (hn : n < 1000000000) : CSF Tryz.prog 178 [.d (SL c 1 encI n g), .d (I k)] σ (.d (I (idxFrom (fun x => k == x) (lst n g) 0))) := by
  refine CSF.of_body T.en178 Tryz.func178 rfl (by simp [Tryz.ntmps178]) (by simp [go_sem]) fun hwf => ?_
  refine awp_reg_seq fun K hK => ?_
  simp [go_sem, Tryz.ntmps178]
  repeat refine ⟨by omega, ?_⟩
  refine hK _ ?_; clear hK K
  refine awp_seq ?_
  refine awp_reg_seq fun K hK => ?_
  simp [go_sem]
  repeat refine ⟨by omega, ?_⟩
  refine hK _ ?_; clear hK K
  refine awp_block ?_
  refine awp_forget [0, 1, 7, 8] (by simp [go_sem, restr]; rfl) ?_
  refine awp_loopU (α := Nat) (fun i => [(8, .d (I i))]) (fun i => _) (fun i => i ≤ n ∧ idxFrom (fun x => k == x) (lst n g) 0 = idxFrom (fun x => k == x) ((lst n g).drop i) i) (fun i => n - i) 0 (by simp [go_sem]) rfl (by simp) ?_
  rintro i ⟨hi, hx⟩
  refine awp_reg_seq fun K hK => ?_
  simp [go_sem]
  repeat refine ⟨by omega, ?_⟩
  refine hK _ ?_; clear hK K
  refine awp_seq ?_
  refine awp_forget [0, 1, 7, 8, 9] (by simp only [restr, List.contains_cons, List.contains_nil, Nat.reduceBEq, Bool.or_false, Bool.or_true, Bool.true_or, Bool.false_or, if_true, if_false, Bool.false_eq_true]; rfl) ?_
  refine awp_cond rfl (fun c0 => ?_) (fun c0 => ?_)
  · have d0 := c0; try simp at d0
    rw [drop_lst d0, idxFrom] at hx
    refine awp_skip ?_
    refine awp_seq ?_
    refine awp_block ?_
    refine awp_reg_seq fun K hK => ?_
    simp [go_sem, c0, d0]
    repeat refine ⟨by omega, ?_⟩
    refine hK _ ?_; clear hK K
    refine awp_reg_seq fun K hK => ?_
    simp [go_sem, c0, d0]
    repeat refine ⟨by omega, ?_⟩
    refine hK _ ?_; clear hK K
    refine awp_forget [0, 1, 5, 7, 8, 16] (by simp only [restr, List.contains_cons, List.contains_nil, Nat.reduceBEq, Bool.or_false, Bool.or_true, Bool.true_or, Bool.false_or, if_true, if_false, Bool.false_eq_true]; rfl) ?_
    refine awp_cond rfl (fun c1 => ?_) (fun c1 => ?_)
    · have d1 := c1; try simp at d1
      refine awp_reg_seq fun K hK => ?_
      simp [go_sem, c0, d0, c1, d1]
      repeat refine ⟨by omega, ?_⟩
      refine hK _ ?_; clear hK K
      refine awp_ret ?_
      rw [hx, if_pos c1]; simp [go_sem, Tryz.results178]
    · have d1 := c1; try simp at d1
      refine awp_skip ?_
      refine awp_reg_end fun K hK => ?_
      simp [go_sem, c0, d0, c1, d1]
      try simp (disch := omega) only [wrapI]
      repeat refine ⟨by omega, ?_⟩
      refine hK _ ?_; clear hK K
      refine ⟨i + 1, back_of' (by simp) (.refl _) (by (simp [go_sem, wrap_succ (i := i) (by omega), c0, d0, c1, d1] <;> omega)), ⟨by omega, by rw [hx, c1]; simp⟩, by first | omega | (dsimp only; omega)⟩
  · have d0 := c0; try simp at d0
    rw [drop_all d0, idxFrom] at hx
    refine awp_exit ?_
    refine awp_reg_seq fun K hK => ?_
    simp [go_sem, c0, d0]
    repeat refine ⟨by omega, ?_⟩
    refine hK _ ?_; clear hK K
    refine awp_ret ?_
    simp [go_sem, Tryz.results178, hx, c0, d0] <;> omega
theorem containsOf_cs (σ : List Blk) (c : Option Nat) (n : Nat) (g : Nat → Int) (k : Int) (hn : n < 1000000000) : CSF Tryz.prog 162 [.d (SL c 1 encI n g), .d (I k)] σ (.d (B ((lst n g).any fun x => k == x))) := by
  refine CSF.of_body T.en162 Tryz.func162 rfl (by simp [Tryz.ntmps162]) (by simp [go_sem]) fun hwf => ?_
  refine awp_reg_seq fun K hK => ?_
  simp [go_sem, Tryz.ntmps162]
  repeat refine ⟨by omega, ?_⟩
  refine hK _ ?_; clear hK K
  refine awp_reg_seq fun K hK => ?_
  simp [go_sem]
  repeat refine ⟨by omega, ?_⟩
  refine CSk.mk (indexOf_cs _ _ _ _ _ (by first | assumption | omega | simp_all)) ?_
  simp [go_sem]
  repeat refine ⟨by omega, ?_⟩
  refine hK _ ?_; clear hK K
  refine awp_ret ?_
  simp [go_sem, Tryz.results162, idx_any] <;> omega
theorem inOf_cs (σ : List Blk) (c : Option Nat) (n : Nat) (g : Nat → Int) (k : Int) (hn : n < 1000000000) : CSF Tryz.prog 132 [.d (SL c 1 encI n g), .d (I k)] σ (.d (B ((lst n g).any fun x => k == x))) := by
  have hq := idx_any (fun x => k == x) (lst n g) 0
  refine CSF.of_body T.en132 Tryz.func132 rfl (by simp [Tryz.ntmps132]) (by simp [go_sem]) fun hwf => ?_
  refine awp_reg_seq fun K hK => ?_
  simp [go_sem, Tryz.ntmps132]
  repeat refine ⟨by omega, ?_⟩
  refine hK _ ?_; clear hK K
  refine awp_seq ?_
  refine awp_reg_seq fun K hK => ?_
  simp [go_sem]
  repeat refine ⟨by omega, ?_⟩
  refine hK _ ?_; clear hK K
  refine awp_block ?_
  refine awp_forget [1, 7, 8, 9] (by simp [go_sem, restr]; rfl) ?_
  refine awp_loopU (α := Nat) (fun i => [(9, .d (I i))]) (fun i => _) (fun i => i ≤ n ∧ idxFrom (fun x => k == x) (lst n g) 0 = idxFrom (fun x => k == x) ((lst n g).drop i) i) (fun i => n - i) 0 (by simp [go_sem]) rfl (by simp) ?_
  rintro i ⟨hi, hx⟩
  refine awp_reg_seq fun K hK => ?_
  simp [go_sem]
  repeat refine ⟨by omega, ?_⟩
  refine hK _ ?_; clear hK K
  refine awp_seq ?_
  refine awp_forget [1, 7, 8, 9, 10] (by simp only [restr, List.contains_cons, List.contains_nil, Nat.reduceBEq, Bool.or_false, Bool.or_true, Bool.true_or, Bool.false_or, if_true, if_false, Bool.false_eq_true]; rfl) ?_
  refine awp_cond rfl (fun c0 => ?_) (fun c0 => ?_)
  · have d0 := c0; try simp at d0
    rw [drop_lst d0, idxFrom] at hx
    refine awp_skip ?_
    refine awp_seq ?_
    refine awp_block ?_
    refine awp_reg_seq fun K hK => ?_
    simp [go_sem, c0, d0]
    repeat refine ⟨by omega, ?_⟩
    refine hK _ ?_; clear hK K
    refine awp_reg_seq fun K hK => ?_
    simp [go_sem, c0, d0]
    repeat refine ⟨by omega, ?_⟩
    refine hK _ ?_; clear hK K
    refine awp_forget [1, 7, 8, 9, 15] (by simp only [restr, List.contains_cons, List.contains_nil, Nat.reduceBEq, Bool.or_false, Bool.or_true, Bool.true_or, Bool.false_or, if_true, if_false, Bool.false_eq_true]; rfl) ?_
    refine awp_cond rfl (fun c1 => ?_) (fun c1 => ?_)
    · have d1 := c1; try simp at d1
      refine awp_reg_seq fun K hK => ?_
      simp [go_sem, c0, d0, c1, d1]
      repeat refine ⟨by omega, ?_⟩
      refine hK _ ?_; clear hK K
      refine awp_ret ?_
      rw [← hq, hx, if_pos (by simp [d1])]; simp [go_sem, Tryz.results132]
    · have d1 := c1; try simp at d1
      refine awp_skip ?_
      refine awp_reg_end fun K hK => ?_
      simp [go_sem, c0, d0, c1, d1]
      try simp (disch := omega) only [wrapI]
      repeat refine ⟨by omega, ?_⟩
      refine hK _ ?_; clear hK K
      refine ⟨i + 1, back_of' (by simp) (.refl _) (by (simp [go_sem, wrap_succ (i := i) (by omega), c0, d0, c1, d1] <;> omega)), ⟨by omega, by rw [hx, if_neg (fun h => d1 (beq_iff_eq.1 h).symm)]⟩, by first | omega | (dsimp only; omega)⟩
  · have d0 := c0; try simp at d0
    rw [drop_all d0, idxFrom] at hx
    refine awp_exit ?_
    refine awp_reg_seq fun K hK => ?_
    simp [go_sem, c0, d0]
    repeat refine ⟨by omega, ?_⟩
    refine hK _ ?_; clear hK K
    refine awp_ret ?_
    rw [← hq, hx]; simp [go_sem, Tryz.results132]
def pmtOpen (a : Pmt) (n : Nat) (g : Nat → Int) (d : Int) : Bool := pmtOk a && ((lst n g).any fun x => a.Unit == x) && decide (a.In.From ≤ d) && decide (d < a.In.Until)
theorem permit_open_cs (σ : List Blk) (a : Pmt) (c : Option Nat) (n : Nat) (g : Nat → Int) (d : Int) (hn : n < 1000000000) : CSF Tryz.prog 148 [.agg (a.enc.map .d), .d (SL c 1 encI n g), .d (I d)] σ (.d (B (pmtOpen a n g d))) := by
  refine CSF.of_body T.en148 Tryz.func148 rfl (by simp [Tryz.ntmps148]) (by simp [go_sem]) fun hwf => ?_
  refine awp_reg_seq fun K hK => ?_
  simp [go_sem, Tryz.ntmps148]
  repeat refine ⟨by omega, ?_⟩
  refine hK _ ?_; clear hK K
  refine awp_reg_seq fun K hK => ?_
  simp [go_sem]
  repeat refine ⟨by omega, ?_⟩
  refine CSk.mk (permit_formed_cs _ a) ?_
  simp [go_sem]
  repeat refine ⟨by omega, ?_⟩
  refine CSm.mk (containsOf_cs _ c n g a.Unit hn) ?_
  simp [go_sem]
  repeat refine ⟨by omega, ?_⟩
  refine hK _ ?_; clear hK K
  refine awp_ret ?_
  simp [go_sem, Tryz.results148, pmtOpen] <;> omega
def kindBit (K k : Int) : Int := IntKind.i64.wrap ↑(BitVec.ofInt 64 (K.fdiv (2 ^ min (IntKind.i64.wrap (k - 1)).toNat 64)) &&& 1#64).toNat
def isForB (a : Pmt) (k : Int) : Bool := decide (1 ≤ k) && decide (k ≤ 3) && (kindBit a.Kinds k == 1)
theorem permit_isFor_cs (σ : List Blk) (a : Pmt) (k : Int) : CSF Tryz.prog 149 [.agg (a.enc.map .d), .d (I k)] σ (.d (B (isForB a k))) := by
  refine CSF.of_body T.en149 Tryz.func149 rfl (by simp [Tryz.ntmps149]) (by simp [go_sem]) fun hwf => ?_
  refine awp_reg_seq fun K hK => ?_
  simp [go_sem, Tryz.ntmps149]
  repeat refine ⟨by omega, ?_⟩
  refine hK _ ?_; clear hK K
  refine awp_reg_seq fun K hK => ?_
  simp [go_sem]
  try simp (disch := omega) only [wrapI]
  refine ⟨fun h1 h2 => by rw [wrapI (by omega) (by omega)]; omega, ?_⟩
  repeat refine ⟨by omega, ?_⟩
  refine hK _ ?_; clear hK K
  refine awp_ret ?_
  simp [go_sem, Tryz.results149]
  rfl
def covB (a : Pmt) (r : Int) (n : Nat) (g : Nat → Int) (k d : Int) : Bool := (a.Reader == r) && pmtOpen a n g d && isForB a k
theorem permit_Covers_cs (σ : List Blk) (a : Pmt) (r : Int) (c : Option Nat) (n : Nat) (g : Nat → Int) (k d : Int) (hn : n < 1000000000) : CSF Tryz.prog 125 [.agg (a.enc.map .d), .d (I r), .d (SL c 1 encI n g), .d (I k), .d (I d)] σ (.d (B (covB a r n g k d))) := by
  refine CSF.of_body T.en125 Tryz.func125 rfl (by simp [Tryz.ntmps125]) (by simp [go_sem]) fun hwf => ?_
  refine awp_reg_seq fun K hK => ?_
  simp [go_sem, Tryz.ntmps125]
  repeat refine ⟨by omega, ?_⟩
  refine hK _ ?_; clear hK K
  refine awp_reg_seq fun K hK => ?_
  simp [go_sem]
  repeat refine ⟨by omega, ?_⟩
  refine CSm.mk (permit_open_cs _ a c n g d hn) ?_
  simp [go_sem]
  repeat refine ⟨by omega, ?_⟩
  refine CSm.mk (permit_isFor_cs _ a k) ?_
  simp [go_sem]
  repeat refine ⟨by omega, ?_⟩
  refine hK _ ?_; clear hK K
  refine awp_ret ?_
  simp [go_sem, Tryz.results125, covB] <;> omega
theorem indexPmt_cs (σ : List Blk) (c : Option Nat) (n : Nat) (g : Nat → Pmt) (f : FuncId) (cap : List AV) (p : Pmt → Bool) (hn : n < 1000000000) (hf : ∀ i, i < n → CSF Tryz.prog f (.agg ((g i).enc.map .d) :: cap) σ (.d (B (p (g i))))) : CSF Tryz.prog 123 [.d (SL c 6 Pmt.enc n g), .clo (.func f) [] cap] σ (.d (I (idxFrom p (lst n g) 0))) := by
  refine CSF.of_body T.en123 Tryz.func123 rfl (by simp [Tryz.ntmps123]) (by simp [go_sem]) fun hwf => ?_
  refine awp_reg_seq fun K hK => ?_
  simp [go_sem, Tryz.ntmps123]
  repeat refine ⟨by omega, ?_⟩
  refine hK _ ?_; clear hK K
  refine awp_seq ?_
  refine awp_reg_seq fun K hK => ?_
  simp [go_sem]
  repeat refine ⟨by omega, ?_⟩
  refine hK _ ?_; clear hK K
  refine awp_block ?_
  refine awp_forget [0, 1, 7, 8] (by simp [go_sem, restr]; rfl) ?_
  refine awp_loopU (α := Nat) (fun i => [(8, .d (I i))]) (fun i => _) (fun i => i ≤ n ∧ idxFrom p (lst n g) 0 = idxFrom p ((lst n g).drop i) i) (fun i => n - i) 0 (by simp [go_sem]) rfl (by simp) ?_
  rintro i ⟨hi, hx⟩
  refine awp_reg_seq fun K hK => ?_
  simp [go_sem]
  repeat refine ⟨by omega, ?_⟩
  refine hK _ ?_; clear hK K
  refine awp_seq ?_
  refine awp_forget [0, 1, 7, 8, 9] (by simp only [restr, List.contains_cons, List.contains_nil, Nat.reduceBEq, Bool.or_false, Bool.or_true, Bool.true_or, Bool.false_or, if_true, if_false, Bool.false_eq_true]; rfl) ?_
  refine awp_cond rfl (fun c0 => ?_) (fun c0 => ?_)
  · have d0 := c0; try simp at d0
    rw [drop_lst d0, idxFrom] at hx
    refine awp_skip ?_
    refine awp_seq ?_
    refine awp_block ?_
    refine awp_reg_seq fun K hK => ?_
    simp [go_sem, c0, d0]
    repeat refine ⟨by omega, ?_⟩
    refine hK _ ?_; clear hK K
    refine awp_reg_seq fun K hK => ?_
    simp [go_sem, c0, d0]
    repeat refine ⟨by omega, ?_⟩
    refine CSk.mk (hf i d0) ?_
    simp [go_sem, c0, d0]
    repeat refine ⟨by omega, ?_⟩
    refine hK _ ?_; clear hK K
    refine awp_forget [0, 1, 5, 7, 8, 16] (by simp only [restr, List.contains_cons, List.contains_nil, Nat.reduceBEq, Bool.or_false, Bool.or_true, Bool.true_or, Bool.false_or, if_true, if_false, Bool.false_eq_true]; rfl) ?_
    refine awp_cond rfl (fun c1 => ?_) (fun c1 => ?_)
    · have d1 := c1; try simp at d1
      refine awp_reg_seq fun K hK => ?_
      simp [go_sem, c0, d0, c1, d1]
      repeat refine ⟨by omega, ?_⟩
      refine hK _ ?_; clear hK K
      refine awp_ret ?_
      simp [go_sem, Tryz.results123, hx, c0, d0, c1, d1] <;> omega
    · have d1 := c1; try simp at d1
      refine awp_skip ?_
      refine awp_reg_end fun K hK => ?_
      simp [go_sem, c0, d0, c1, d1]
      try simp (disch := omega) only [wrapI]
      repeat refine ⟨by omega, ?_⟩
      refine hK _ ?_; clear hK K
      refine ⟨i + 1, back_of' (by simp) (.refl _) (by (simp [go_sem, wrap_succ (i := i) (by omega), c0, d0, c1, d1] <;> omega)), ⟨by omega, by rw [hx, c1]; simp⟩, by first | omega | (dsimp only; omega)⟩
  · have d0 := c0; try simp at d0
    rw [drop_all d0, idxFrom] at hx
    refine awp_exit ?_
    refine awp_reg_seq fun K hK => ?_
    simp [go_sem, c0, d0]
    repeat refine ⟨by omega, ?_⟩
    refine hK _ ?_; clear hK K
    refine awp_ret ?_
    simp [go_sem, Tryz.results123, hx, c0, d0] <;> omega
theorem permit_First_1_cs (σ : List Blk) (τ : List Blk) (a : Pmt) (r : Int) (c : Option Nat) (n : Nat) (g : Nat → Int) (k d : Int) (hn : n < 1000000000) : CSF Tryz.prog 124 [.agg (a.enc.map .d), .ptr σ.length 0, .ptr (σ.length + 1) 0, .ptr (σ.length + 2) 0, .ptr (σ.length + 3) 0] (σ ++ .var [.d (I r)] :: .var [.d (SL c 1 encI n g)] :: .var [.d (I k)] :: .var [.d (I d)] :: τ) (.d (B (covB a r n g k d))) := by
  refine CSF.of_body T.en124 Tryz.func124 rfl (by simp [Tryz.ntmps124]) (by simp [go_sem]) fun hwf => ?_
  refine awp_reg_seq fun K hK => ?_
  simp [go_sem, Tryz.ntmps124]
  repeat refine ⟨by omega, ?_⟩
  refine hK _ ?_; clear hK K
  refine awp_reg_seq fun K hK => ?_
  simp [go_sem]
  repeat refine ⟨by omega, ?_⟩
  refine CSk.mk (permit_Covers_cs _ a r c n g k d hn) ?_
  simp [go_sem]
  repeat refine ⟨by omega, ?_⟩
  refine hK _ ?_; clear hK K
  refine awp_ret ?_
  simp [go_sem, Tryz.results124] <;> omega
def firstR (N : Nat) (G : Nat → Pmt) (r : Int) (n : Nat) (g : Nat → Int) (k d : Int) : Int × Bool :=
  if idxFrom (fun a => covB a r n g k d) (lst N G) 0 < 0 ∨ pmtChk N G ≠ 0 then (0, false) else ((G (idxFrom (fun a => covB a r n g k d) (lst N G) 0).toNat).ID, true)
theorem permit_First_cs (σ : List Blk) (C : Option Nat) (N : Nat) (G : Nat → Pmt) (r : Int) (c : Option Nat) (n : Nat) (g : Nat → Int) (k d : Int) (hN : N < 1000000000) (hn : n < 1000000000) : CSF Tryz.prog 95 [.d (SL C 6 Pmt.enc N G), .d (I r), .d (SL c 1 encI n g), .d (I k), .d (I d)] σ (.tup [.d (I (firstR N G r n g k d).1), .d (B (firstR N G r n g k d).2)]) := by
  have hlt := idx_lt' (fun a => covB a r n g k d) N G
  refine CSF.of_body T.en95 Tryz.func95 rfl (by simp [Tryz.ntmps95]) (by simp [go_sem]) fun hwf => ?_
  refine awp_reg_seq fun K hK => ?_
  simp [go_sem, Tryz.ntmps95]
  repeat refine ⟨by omega, ?_⟩
  refine hK _ ?_; clear hK K
  refine awp_reg_seq fun K hK => ?_
  simp [go_sem]
  repeat refine ⟨by omega, ?_⟩
  refine CSk.mk (indexPmt_cs _ C N G _ _ (fun a => covB a r n g k d) hN (fun i hi => permit_First_1_cs σ [] (G i) r c n g k d hn)) ?_
  simp [go_sem]
  repeat refine ⟨by omega, ?_⟩
  refine hK _ ?_; clear hK K
  refine awp_seq ?_
  refine awp_reg_seq fun K hK => ?_
  simp [go_sem]
  repeat refine ⟨by omega, ?_⟩
  refine CSm.mk (permit_Check_cs _ C N G hN) ?_
  simp [go_sem]
  repeat refine ⟨by omega, ?_⟩
  refine hK _ ?_; clear hK K
  refine awp_forget [0, 12, 22] (by simp only [restr, List.contains_cons, List.contains_nil, Nat.reduceBEq, Bool.or_false, Bool.or_true, Bool.true_or, Bool.false_or, if_true, if_false, Bool.false_eq_true]; rfl) ?_
  refine awp_cond rfl (fun c0 => ?_) (fun c0 => ?_)
  · have d0 := c0; try simp at d0
    have hz : firstR N G r n g k d = (0, false) := by unfold firstR; rw [if_pos d0]
    refine awp_reg_seq fun K hK => ?_
    simp [go_sem, c0, d0]
    repeat refine ⟨by omega, ?_⟩
    refine hK _ ?_; clear hK K
    refine awp_ret ?_
    rw [hz]; simp [go_sem, Tryz.results95]
  · have d0 := c0; try simp at d0
    have hz : firstR N G r n g k d = ((G (idxFrom (fun a => covB a r n g k d) (lst N G) 0).toNat).ID, true) := by unfold firstR; rw [if_neg (by omega)]
    refine awp_skip ?_
    refine awp_reg_seq fun K hK => ?_
    simp [go_sem, c0, d0]
    repeat refine ⟨by omega, ?_⟩
    refine hK _ ?_; clear hK K
    refine awp_ret ?_
    rw [hz]; simp [go_sem, Tryz.results95]
theorem kind_bit {K k : Int} (h1 : 1 ≤ K) (h2 : K ≤ 7) (h3 : 1 ≤ k) (h4 : k ≤ 3) : kindBit K k = K / (if k = 1 then 1 else if k = 2 then 2 else 4) % 2 := by
  have hK : K = 1 ∨ K = 2 ∨ K = 3 ∨ K = 4 ∨ K = 5 ∨ K = 6 ∨ K = 7 := by omega
  have hk : k = 1 ∨ k = 2 ∨ k = 3 := by omega
  rcases hK with rfl | rfl | rfl | rfl | rfl | rfl | rfl <;> rcases hk with rfl | rfl | rfl <;> decide
def kd (k : Int) : Int := if k = 1 then 1 else if k = 2 then 2 else 4
theorem pmtOk_iff {a : Pmt} : pmtOk a = true ↔ 1 ≤ a.ID ∧ a.ID ≤ 1073741824 ∧ 1 ≤ a.Reader ∧ a.Reader ≤ 1073741824 ∧ 1 ≤ a.Unit ∧ a.Unit ≤ 1073741824 ∧ 1 ≤ a.Kinds ∧ a.Kinds ≤ 7 ∧ 0 ≤ a.In.From ∧ a.In.From < a.In.Until ∧ a.In.Until ≤ 1048576 := by
  unfold pmtOk idOk spanOk; simp; omega
theorem kind_at {K k : Int} (h1 : 1 ≤ K) (h2 : K ≤ 7) (h3 : 1 ≤ k) (h4 : k ≤ 3) : (IntKind.i64.wrap (K.tdiv (kd k))).tmod 2 = kindBit K k := by
  have hK : K = 1 ∨ K = 2 ∨ K = 3 ∨ K = 4 ∨ K = 5 ∨ K = 6 ∨ K = 7 := by omega
  have hk : k = 1 ∨ k = 2 ∨ k = 3 := by omega
  rcases hK with rfl | rfl | rfl | rfl | rfl | rfl | rfl <;> rcases hk with rfl | rfl | rfl <;> decide
theorem ref34_Covers_cs (σ : List Blk) (a : Pmt) (r : Int) (c : Option Nat) (n : Nat) (g : Nat → Int) (k d : Int) (hn : n < 1000000000) : CSF Tryz.prog 100 [.agg (a.enc.map .d), .d (I r), .d (SL c 1 encI n g), .d (I k), .d (I d)] σ (.d (B (covB a r n g k d))) := by
  refine CSF.of_body T.en100 Tryz.func100 rfl (by simp [Tryz.ntmps100]) (by simp [go_sem]) fun hwf => ?_
  refine awp_reg_seq fun K hK => ?_
  simp [go_sem, Tryz.ntmps100]
  repeat refine ⟨by omega, ?_⟩
  refine hK _ ?_; clear hK K
  refine awp_seq ?_
  refine awp_reg_seq fun K hK => ?_
  simp [go_sem]
  repeat refine ⟨by omega, ?_⟩
  refine CSk.mk (ref34_Form_cs _ a) ?_
  simp [go_sem]
  repeat refine ⟨by omega, ?_⟩
  refine hK _ ?_; clear hK K
  refine awp_forget [1, 2, 3, 4, 5, 21] (by simp only [restr, List.contains_cons, List.contains_nil, Nat.reduceBEq, Bool.or_false, Bool.or_true, Bool.true_or, Bool.false_or, if_true, if_false, Bool.false_eq_true]; rfl) ?_
  refine awp_cond rfl (fun c0 => ?_) (fun c0 => ?_)
  · have d0 := c0; try simp at d0
    have hz : covB a r n g k d = false := by unfold covB pmtOpen isForB; rcases d0 with (h | h) | h <;> simp [h] <;> omega
    refine awp_reg_seq fun K hK => ?_
    simp [go_sem, c0, d0]
    repeat refine ⟨by omega, ?_⟩
    refine hK _ ?_; clear hK K
    refine awp_ret ?_
    rw [hz]; simp [go_sem, Tryz.results100]
  · have d0 := c0; try simp at d0
    have hpo := d0.1.1
    have hp := pmtOk_iff.1 d0.1.1
    have hrow : rowsOf 1 [D.v (Value.int IntKind.i64 1), D.v (Value.int IntKind.i64 2), D.v (Value.int IntKind.i64 4)] (k.toNat - 1) = [I (kd k)] := by
      have hk : k = 1 ∨ k = 2 ∨ k = 3 := by omega
      rcases hk with rfl | rfl | rfl <;> rfl
    have hkd : 1 ≤ kd k ∧ kd k ≤ 4 := by unfold kd; split <;> (try split) <;> omega
    have hwk : IntKind.i64.wrap (k - 1) = k - 1 := wrapI (by omega) (by omega)
    have hb := kind_at hp.2.2.2.2.2.2.1 hp.2.2.2.2.2.2.2.1 d0.1.2 d0.2
    refine awp_skip ?_
    refine awp_draw_seq 36 T.mixed (by kernel_rfl) fun K hK => ?_
    simp [go_sem, c0, d0, hwk, hrow, hb, hpo]
    try simp (disch := omega) only [tdivI, tmodI, wrapI]
    repeat refine ⟨by omega, ?_⟩
    refine CSg.mk (inOf_cs _ c n g a.Unit hn) ?_
    simp [go_sem, c0, d0, hwk, hrow, hb, hpo]
    try simp (disch := omega) only [tdivI, tmodI, wrapI]
    refine ⟨fun h1 h2 => by omega, ?_⟩
    repeat refine ⟨by omega, ?_⟩
    refine hK _ ?_; clear hK K
    refine awp_ret ?_
    simp [go_sem, Tryz.results100, covB, pmtOpen, isForB, hpo, d0, Bool.and_assoc, Bool.and_comm, Bool.and_left_comm]
theorem ref34_First_cs (σ : List Blk) (C : Option Nat) (N : Nat) (G : Nat → Pmt) (r : Int) (c : Option Nat) (n : Nat) (g : Nat → Int) (k d : Int) (hN : N < 1000000000) (hn : n < 1000000000) : CSF Tryz.prog 68 [.d (SL C 6 Pmt.enc N G), .d (I r), .d (SL c 1 encI n g), .d (I k), .d (I d)] σ (.tup [.d (I (firstR N G r n g k d).1), .d (B (firstR N G r n g k d).2)]) := by
  refine CSF.of_body T.en68 Tryz.func68 rfl (by simp [Tryz.ntmps68]) (by simp [go_sem]) fun hwf => ?_
  refine awp_reg_seq fun K hK => ?_
  simp [go_sem, Tryz.ntmps68]
  repeat refine ⟨by omega, ?_⟩
  refine hK _ ?_; clear hK K
  refine awp_seq ?_
  refine awp_reg_seq fun K hK => ?_
  simp [go_sem]
  repeat refine ⟨by omega, ?_⟩
  refine CSk.mk (ref34_Check_cs _ C N G hN) ?_
  simp [go_sem]
  repeat refine ⟨by omega, ?_⟩
  refine hK _ ?_; clear hK K
  refine awp_forget [0, 1, 2, 3, 4, 16] (by simp only [restr, List.contains_cons, List.contains_nil, Nat.reduceBEq, Bool.or_false, Bool.or_true, Bool.true_or, Bool.false_or, if_true, if_false, Bool.false_eq_true]; rfl) ?_
  refine awp_cond rfl (fun c0 => ?_) (fun c0 => ?_)
  · have d0 := c0; try simp at d0
    have hz : firstR N G r n g k d = (0, false) := by unfold firstR; rw [if_pos (.inr d0)]
    refine awp_reg_seq fun K hK => ?_
    simp [go_sem, c0, d0]
    repeat refine ⟨by omega, ?_⟩
    refine hK _ ?_; clear hK K
    refine awp_ret ?_
    rw [hz]; simp [go_sem, Tryz.results68]
  · have d0 := c0; try simp at d0
    refine awp_skip ?_
    refine awp_seq ?_
    refine awp_reg_seq fun K hK => ?_
    simp [go_sem, c0, d0]
    repeat refine ⟨by omega, ?_⟩
    refine hK _ ?_; clear hK K
    refine awp_block ?_
    refine awp_forget [1, 2, 3, 4, 17, 18, 19] (by simp [go_sem, restr]; rfl) ?_
    refine awp_loopU (α := Nat) (fun i => [(19, .d (I i))]) (fun i => _) (fun i => i ≤ N ∧ idxFrom (fun a => covB a r n g k d) (lst N G) 0 = idxFrom (fun a => covB a r n g k d) ((lst N G).drop i) i) (fun i => N - i) 0 (by simp [go_sem]) rfl (by simp) ?_
    rintro i ⟨hi, hx⟩
    refine awp_reg_seq fun K hK => ?_
    simp [go_sem, c0, d0]
    repeat refine ⟨by omega, ?_⟩
    refine hK _ ?_; clear hK K
    refine awp_seq ?_
    refine awp_forget [1, 2, 3, 4, 17, 18, 19, 20] (by simp only [restr, List.contains_cons, List.contains_nil, Nat.reduceBEq, Bool.or_false, Bool.or_true, Bool.true_or, Bool.false_or, if_true, if_false, Bool.false_eq_true]; rfl) ?_
    refine awp_cond rfl (fun c1 => ?_) (fun c1 => ?_)
    · have d1 := c1; try simp at d1
      rw [drop_lst d1, idxFrom] at hx
      refine awp_skip ?_
      refine awp_seq ?_
      refine awp_block ?_
      refine awp_reg_seq fun K hK => ?_
      simp [go_sem, c0, d0, c1, d1]
      repeat refine ⟨by omega, ?_⟩
      refine hK _ ?_; clear hK K
      refine awp_reg_seq fun K hK => ?_
      simp [go_sem, c0, d0, c1, d1]
      repeat refine ⟨by omega, ?_⟩
      refine CSk.mk (ref34_Covers_cs _ (G i) r c n g k d hn) ?_
      simp [go_sem, c0, d0, c1, d1]
      repeat refine ⟨by omega, ?_⟩
      refine hK _ ?_; clear hK K
      refine awp_forget [1, 2, 3, 4, 13, 17, 18, 19, 28] (by simp only [restr, List.contains_cons, List.contains_nil, Nat.reduceBEq, Bool.or_false, Bool.or_true, Bool.true_or, Bool.false_or, if_true, if_false, Bool.false_eq_true]; rfl) ?_
      refine awp_cond rfl (fun c2 => ?_) (fun c2 => ?_)
      · have d2 := c2; try simp at d2
        rw [if_pos c2] at hx
        have hz : firstR N G r n g k d = ((G i).ID, true) := by unfold firstR; rw [hx, if_neg (by omega)]; simp
        refine awp_reg_seq fun K hK => ?_
        simp [go_sem, c0, d0, c1, d1, c2, d2]
        repeat refine ⟨by omega, ?_⟩
        refine hK _ ?_; clear hK K
        refine awp_ret ?_
        rw [hz]; simp [go_sem, Tryz.results68]
      · have d2 := c2; try simp at d2
        refine awp_skip ?_
        refine awp_reg_end fun K hK => ?_
        simp [go_sem, c0, d0, c1, d1, c2, d2]
        try simp (disch := omega) only [wrapI]
        repeat refine ⟨by omega, ?_⟩
        refine hK _ ?_; clear hK K
        refine ⟨i + 1, back_of' (by simp) (.refl _) (by (simp [go_sem, wrap_succ (i := i) (by omega), c0, d0, c1, d1, c2, d2] <;> omega)), ⟨by omega, by rw [hx, if_neg (by simp [d2])]⟩, by first | omega | (dsimp only; omega)⟩
    · have d1 := c1; try simp at d1
      rw [drop_all d1, idxFrom] at hx
      refine awp_exit ?_
      refine awp_reg_seq fun K hK => ?_
      simp [go_sem, c0, d0, c1, d1]
      repeat refine ⟨by omega, ?_⟩
      refine hK _ ?_; clear hK K
      refine awp_ret ?_
      have hz : firstR N G r n g k d = (0, false) := by unfold firstR; rw [hx, if_pos (by omega)]
      rw [hz]; simp [go_sem, Tryz.results68]
end Go.Proofs.YtkochmppmpmddaaGreat

/-! Ce -/
namespace Go.Proofs.YtkochmppmpmddaaGreat
open Go.Abs Go.Arch
set_option linter.unusedVariables false
set_option linter.unusedSimpArgs false
set_option maxRecDepth 100000
set_option maxHeartbeats 400000
structure Row where
  Unit : Int
  Parent : Int
  Accession : Int
instance : Inhabited Row := ⟨⟨0, 0, 0⟩⟩
def Row.enc (r : Row) : List D := [I r.Unit, I r.Parent, I r.Accession]
attribute [go_sem] Row.enc
def findR (n : Nat) (g : Nat → Row) (u : Int) : Int := idxFrom (fun r => r.Unit == u) (lst n g) 0
theorem indexRow_cs (σ : List Blk) (c : Option Nat) (n : Nat) (g : Nat → Row) (f : FuncId) (cap : List AV) (p : Row → Bool) (hn : n < 1000000000) (hf : ∀ i, i < n → CSF Tryz.prog f (.agg ((g i).enc.map .d) :: cap) σ (.d (B (p (g i))))) : CSF Tryz.prog 75 [.d (SL c 3 Row.enc n g), .clo (.func f) [] cap] σ (.d (I (idxFrom p (lst n g) 0))) := by
  refine CSF.of_body T.en75 Tryz.func75 rfl (by simp [Tryz.ntmps75]) (by simp [go_sem]) fun hwf => ?_
  refine awp_reg_seq fun K hK => ?_
  simp [go_sem, Tryz.ntmps75]
  repeat refine ⟨by omega, ?_⟩
  refine hK _ ?_; clear hK K
  refine awp_seq ?_
  refine awp_reg_seq fun K hK => ?_
  simp [go_sem]
  repeat refine ⟨by omega, ?_⟩
  refine hK _ ?_; clear hK K
  refine awp_block ?_
  refine awp_forget [0, 1, 7, 8] (by simp [go_sem, restr]; rfl) ?_
  refine awp_loopU (α := Nat) (fun i => [(8, .d (I i))]) (fun i => _) (fun i => i ≤ n ∧ idxFrom p (lst n g) 0 = idxFrom p ((lst n g).drop i) i) (fun i => n - i) 0 (by simp [go_sem]) rfl (by simp) ?_
  rintro i ⟨hi, hx⟩
  refine awp_reg_seq fun K hK => ?_
  simp [go_sem]
  repeat refine ⟨by omega, ?_⟩
  refine hK _ ?_; clear hK K
  refine awp_seq ?_
  refine awp_forget [0, 1, 7, 8, 9] (by simp only [restr, List.contains_cons, List.contains_nil, Nat.reduceBEq, Bool.or_false, Bool.or_true, Bool.true_or, Bool.false_or, if_true, if_false, Bool.false_eq_true]; rfl) ?_
  refine awp_cond rfl (fun c0 => ?_) (fun c0 => ?_)
  · have d0 := c0; try simp at d0
    rw [drop_lst d0, idxFrom] at hx
    refine awp_skip ?_
    refine awp_seq ?_
    refine awp_block ?_
    refine awp_reg_seq fun K hK => ?_
    simp [go_sem, c0, d0]
    repeat refine ⟨by omega, ?_⟩
    refine hK _ ?_; clear hK K
    refine awp_reg_seq fun K hK => ?_
    simp [go_sem, c0, d0]
    repeat refine ⟨by omega, ?_⟩
    refine CSk.mk (hf i d0) ?_
    simp [go_sem, c0, d0]
    repeat refine ⟨by omega, ?_⟩
    refine hK _ ?_; clear hK K
    refine awp_forget [0, 1, 5, 7, 8, 16] (by simp only [restr, List.contains_cons, List.contains_nil, Nat.reduceBEq, Bool.or_false, Bool.or_true, Bool.true_or, Bool.false_or, if_true, if_false, Bool.false_eq_true]; rfl) ?_
    refine awp_cond rfl (fun c1 => ?_) (fun c1 => ?_)
    · have d1 := c1; try simp at d1
      refine awp_reg_seq fun K hK => ?_
      simp [go_sem, c0, d0, c1, d1]
      repeat refine ⟨by omega, ?_⟩
      refine hK _ ?_; clear hK K
      refine awp_ret ?_
      simp [go_sem, Tryz.results75, hx, c0, d0, c1, d1] <;> omega
    · have d1 := c1; try simp at d1
      refine awp_skip ?_
      refine awp_reg_end fun K hK => ?_
      simp [go_sem, c0, d0, c1, d1]
      try simp (disch := omega) only [wrapI]
      repeat refine ⟨by omega, ?_⟩
      refine hK _ ?_; clear hK K
      refine ⟨i + 1, back_of' (by simp) (.refl _) (by (simp [go_sem, wrap_succ (i := i) (by omega), c0, d0, c1, d1] <;> omega)), ⟨by omega, by rw [hx, c1]; simp⟩, by first | omega | (dsimp only; omega)⟩
  · have d0 := c0; try simp at d0
    rw [drop_all d0, idxFrom] at hx
    refine awp_exit ?_
    refine awp_reg_seq fun K hK => ?_
    simp [go_sem, c0, d0]
    repeat refine ⟨by omega, ?_⟩
    refine hK _ ?_; clear hK K
    refine awp_ret ?_
    simp [go_sem, Tryz.results75, hx, c0, d0] <;> omega
theorem cloneRow_cs (σ : List Blk) (c : Option Nat) (n : Nat) (g : Nat → Row) (hn : n < 1000000000) : CSF Tryz.prog 14 [.d (SL c 3 Row.enc n g)] σ (.d (SL none 3 Row.enc n g)) := by
  refine CSF.of_body T.en14 Tryz.func14 rfl (by simp [Tryz.ntmps14]) (by simp [go_sem]) fun hwf => ?_
  refine awp_reg_seq fun K hK => ?_
  simp [go_sem, Tryz.ntmps14]
  repeat refine ⟨by omega, ?_⟩
  refine hK _ ?_; clear hK K
  refine awp_seq ?_
  refine awp_reg_seq fun K hK => ?_
  simp [go_sem, -Bool.forall_bool]
  intro b1 hb1
  repeat refine ⟨by omega, ?_⟩
  refine hK _ ?_; clear hK K
  refine awp_cond rfl (fun c0 => ?_) (fun c0 => ?_)
  · have d0 := c0; try simp at d0
    refine awp_reg_seq fun K hK => ?_
    simp [go_sem, c0, d0]
    repeat refine ⟨by omega, ?_⟩
    refine hK _ ?_; clear hK K
    refine awp_ret ?_
    have := hb1 c0
    simp [go_sem, Tryz.results14, this]
  · have d0 := c0; try simp at d0
    refine awp_skip ?_
    refine awp_reg_seq fun K hK => ?_
    simp [go_sem, c0, d0, hwf.one, hwf.zero]
    repeat refine ⟨by omega, ?_⟩
    refine hK _ ?_; clear hK K
    refine awp_freeze (σ.length) (by simp [go_sem]; first | exact ⟨rfl, rfl, rfl⟩ | exact ⟨rfl, rfl⟩ | rfl) (by simp [go_sem]; rfl) (by simp [go_sem, hwf.frz, hwf.frz0]; rfl) ?_
    refine awp_ret ?_
    simp [go_sem, Tryz.results14, c0, d0] <;> omega
theorem policy_find_1_cs (σ : List Blk) (τ : List Blk) (r : Row) (u : Int) : CSF Tryz.prog 76 [.agg (r.enc.map .d), .ptr σ.length 0] (σ ++ .var [.d (I u)] :: τ) (.d (B (r.Unit == u))) := by
  refine CSF.of_body T.en76 Tryz.func76 rfl (by simp [Tryz.ntmps76]) (by simp [go_sem]) fun hwf => ?_
  refine awp_reg_seq fun K hK => ?_
  simp [go_sem, Tryz.ntmps76]
  repeat refine ⟨by omega, ?_⟩
  refine hK _ ?_; clear hK K
  refine awp_reg_seq fun K hK => ?_
  simp [go_sem]
  repeat refine ⟨by omega, ?_⟩
  refine hK _ ?_; clear hK K
  refine awp_ret ?_
  simp [go_sem, Tryz.results76] <;> omega
theorem policy_find_cs (σ : List Blk) (c : Option Nat) (n : Nat) (g : Nat → Row) (u : Int) (hn : n < 1000000000) : CSF Tryz.prog 42 [.d (SL c 3 Row.enc n g), .d (I u)] σ (.d (I (findR n g u))) := by
  refine CSF.of_body T.en42 Tryz.func42 rfl (by simp [Tryz.ntmps42]) (by simp [go_sem]) fun hwf => ?_
  refine awp_reg_seq fun K hK => ?_
  simp [go_sem, Tryz.ntmps42]
  repeat refine ⟨by omega, ?_⟩
  refine hK _ ?_; clear hK K
  refine awp_reg_seq fun K hK => ?_
  simp [go_sem]
  repeat refine ⟨by omega, ?_⟩
  refine CSk.mk (indexRow_cs _ c n g _ _ (fun r => r.Unit == u) hn (fun i hi => policy_find_1_cs σ [] (g i) u)) ?_
  simp [go_sem]
  repeat refine ⟨by omega, ?_⟩
  refine hK _ ?_; clear hK K
  refine awp_ret ?_
  simp [go_sem, Tryz.results42, findR] <;> omega
theorem ref35_index_cs (σ : List Blk) (c : Option Nat) (n : Nat) (g : Nat → Row) (u : Int) (hn : n < 1000000000) : CSF Tryz.prog 44 [.d (SL c 3 Row.enc n g), .d (I u)] σ (.d (I (findR n g u))) := by
  refine CSF.of_body T.en44 Tryz.func44 rfl (by simp [Tryz.ntmps44]) (by simp [go_sem]) fun hwf => ?_
  refine awp_reg_seq fun K hK => ?_
  simp [go_sem, Tryz.ntmps44]
  repeat refine ⟨by omega, ?_⟩
  refine hK _ ?_; clear hK K
  refine awp_seq ?_
  refine awp_reg_seq fun K hK => ?_
  simp [go_sem]
  repeat refine ⟨by omega, ?_⟩
  refine hK _ ?_; clear hK K
  refine awp_block ?_
  refine awp_forget [1, 7, 8, 9] (by simp [go_sem, restr]; rfl) ?_
  refine awp_loopU (α := Nat) (fun i => [(9, .d (I i))]) (fun i => _) (fun i => i ≤ n ∧ idxFrom (fun r => r.Unit == u) (lst n g) 0 = idxFrom (fun r => r.Unit == u) ((lst n g).drop i) i) (fun i => n - i) 0 (by simp [go_sem]) rfl (by simp) ?_
  rintro i ⟨hi, hx⟩
  refine awp_reg_seq fun K hK => ?_
  simp [go_sem]
  repeat refine ⟨by omega, ?_⟩
  refine hK _ ?_; clear hK K
  refine awp_seq ?_
  refine awp_forget [1, 7, 8, 9, 10] (by simp only [restr, List.contains_cons, List.contains_nil, Nat.reduceBEq, Bool.or_false, Bool.or_true, Bool.true_or, Bool.false_or, if_true, if_false, Bool.false_eq_true]; rfl) ?_
  refine awp_cond rfl (fun c0 => ?_) (fun c0 => ?_)
  · have d0 := c0; try simp at d0
    rw [drop_lst d0, idxFrom] at hx
    refine awp_skip ?_
    refine awp_seq ?_
    refine awp_block ?_
    refine awp_reg_seq fun K hK => ?_
    simp [go_sem, c0, d0]
    repeat refine ⟨by omega, ?_⟩
    refine hK _ ?_; clear hK K
    refine awp_reg_seq fun K hK => ?_
    simp [go_sem, c0, d0]
    repeat refine ⟨by omega, ?_⟩
    refine hK _ ?_; clear hK K
    refine awp_forget [1, 5, 7, 8, 9, 17] (by simp only [restr, List.contains_cons, List.contains_nil, Nat.reduceBEq, Bool.or_false, Bool.or_true, Bool.true_or, Bool.false_or, if_true, if_false, Bool.false_eq_true]; rfl) ?_
    refine awp_cond rfl (fun c1 => ?_) (fun c1 => ?_)
    · have d1 := c1; try simp at d1
      refine awp_reg_seq fun K hK => ?_
      simp [go_sem, c0, d0, c1, d1]
      repeat refine ⟨by omega, ?_⟩
      refine hK _ ?_; clear hK K
      refine awp_ret ?_
      unfold findR; rw [hx, if_pos (by simp [d1])]; simp [go_sem, Tryz.results44]
    · have d1 := c1; try simp at d1
      refine awp_skip ?_
      refine awp_reg_end fun K hK => ?_
      simp [go_sem, c0, d0, c1, d1]
      try simp (disch := omega) only [wrapI]
      repeat refine ⟨by omega, ?_⟩
      refine hK _ ?_; clear hK K
      refine ⟨i + 1, back_of' (by simp) (.refl _) (by (simp [go_sem, wrap_succ (i := i) (by omega), c0, d0, c1, d1] <;> omega)), ⟨by omega, by rw [hx, if_neg (by simp [d1])]⟩, by first | omega | (dsimp only; omega)⟩
  · have d0 := c0; try simp at d0
    rw [drop_all d0, idxFrom] at hx
    refine awp_exit ?_
    refine awp_reg_seq fun K hK => ?_
    simp [go_sem, c0, d0]
    repeat refine ⟨by omega, ?_⟩
    refine hK _ ?_; clear hK K
    refine awp_ret ?_
    unfold findR; rw [hx]; simp [go_sem, Tryz.results44]
theorem policy_above_cs (σ : List Blk) (c : Option Nat) (n : Nat) (g : Nat → Row) (u : Int) : CS Tryz.prog 46 [.d (SL c 3 Row.enc n g), .d (I u)] σ (fun r σ' X => r = .clo (.func 77) [] [.ptr σ.length 0, .ptr (σ.length + 1) 0] ∧ σ' = σ ++ [.var [.d (SL c 3 Row.enc n g)], .var [.d (I u)]] ∧ X = []) := by
  refine CS.of_bodyW T.en46 Tryz.func46 rfl (by simp [Tryz.ntmps46]) fun hwf => ?_
  refine awp_reg_seq fun K hK => ?_
  simp [go_sem, Tryz.ntmps46]
  repeat refine ⟨by omega, ?_⟩
  refine hK _ ?_; clear hK K
  refine awp_reg_seq fun K hK => ?_
  simp [go_sem]
  repeat refine ⟨by omega, ?_⟩
  refine hK _ ?_; clear hK K
  refine awp_ret ?_
  simp [go_sem, Tryz.results46] <;> omega
end Go.Proofs.YtkochmppmpmddaaGreat

/-! Cf -/
namespace Go.Proofs.YtkochmppmpmddaaGreat
open Go.Abs Go.Arch
set_option linter.unusedVariables false
set_option linter.unusedSimpArgs false
set_option maxRecDepth 100000
set_option maxHeartbeats 400000
structure Ways (S : Nat → List Blk) (c : Option Nat) (n : Nat) (g : Nat → Row) (u : Int) (K : Nat) (x : Nat → Nat) (t : Bool) (y a b o : Nat) : Prop where
  ha : ∀ i, (S i)[a]? = some (.var [.d (SL c 3 Row.enc n g)])
  ha0 : ∀ i, (S i)[a]? = some (.var [.d (SL c 3 Row.enc n g)])
  hb : ∀ i, (S i)[b]? = some (.var [.d (I u)])
  hb0 : ∀ i, (S i)[b]? = some (.var [.d (I u)])
  hlv : ∀ i, Abs.Leaves (S 0) (S i)
  hls : ∀ i, Abs.Leaves (S i) (S (i + 1))
  hol : ∀ i, ¬ (S i).length = o
  hyo : ¬ y = o
  hao : ¬ a = o
  hbo : ¬ b = o
  first : findR n g u = if 0 = K then -1 else (x 0 : Int)
  lt : ∀ i, i < K → x i < n
  mid : ∀ i, i + 1 < K → (g (x i)).Parent ≠ 0 ∧ findR n g (g (x i)).Parent = (x (i + 1) : Int)
  yes : ∀ i, i + 1 < K → YS Tryz.prog y [.agg ((g (x i)).enc.map .d)] (S i) (fun r σ' X => X = [o] ∧ r = .d (B true) ∧ σ' = S (i + 1))
  last : ∀ i, i + 1 = K → YS Tryz.prog y [.agg ((g (x i)).enc.map .d)] (S i) (fun r σ' X => X = [o] ∧ r = .d (B t) ∧ σ' = S (i + 1))
  fin : ∀ i, i + 1 = K → t = true → (g (x i)).Parent ≠ 0 → findR n g (g (x i)).Parent = -1
theorem policy_above_1_cs (σ : List Blk) (S : Nat → List Blk) (c : Option Nat) (n : Nat) (g : Nat → Row) (u : Int) (K' : Nat) (x : Nat → Nat) (t : Bool) (y a b o : Nat) (h : Ways S c n g u K' x t y a b o) (hn : n < 1000000000) : CS Tryz.prog 77 [.yld y, .ptr a 0, .ptr b 0] (S 0) (fun r σ' X' => X' = [o] ∧ r = .tup [] ∧ σ' = S K') := by
  refine CS.of_bodyD [o] T.en77 Tryz.func77 rfl (by simp [Tryz.ntmps77]) fun hwf => ?_
  refine awp_reg_seq fun K hK => ?_
  simp [go_sem, Tryz.ntmps77, h.hol, h.ha, h.ha0, h.hb, h.hb0, h.hyo, h.hao, h.hbo]
  repeat refine ⟨by omega, ?_⟩
  refine CSk.mk (policy_find_cs _ c n g u hn) ?_
  simp [go_sem, h.hol, h.ha, h.ha0, h.hb, h.hb0, h.hyo, h.hao, h.hbo]
  repeat refine ⟨by omega, ?_⟩
  refine hK _ ?_; clear hK K
  refine awp_block ?_
  refine awp_forget [0, 1, 4] (by simp [go_sem, restr]; rfl) ?_
  refine awp_mv [o] (by simp) ?_
  refine awp_loopU (α := Nat) (fun i => [(4, .d (I (if i = K' then -1 else (x i : Int))))]) (fun i => S i) (fun i => i ≤ K') (fun i => K' - i) 0 (by simp [go_sem, h.hol, h.ha, h.ha0, h.hb, h.hb0, h.hyo, h.hao, h.hbo, h.first]) rfl (by simp) ?_
  rintro i hi
  refine awp_seq ?_
  refine awp_reg_seq fun K hK => ?_
  simp [go_sem, h.hol, h.ha, h.ha0, h.hb, h.hb0, h.hyo, h.hao, h.hbo]
  repeat refine ⟨by omega, ?_⟩
  refine hK _ ?_; clear hK K
  refine awp_forget [0, 1, 4, 9] (by simp only [restr, List.contains_cons, List.contains_nil, Nat.reduceBEq, Bool.or_false, Bool.or_true, Bool.true_or, Bool.false_or, if_true, if_false, Bool.false_eq_true]; rfl) ?_
  refine awp_cond rfl (fun c0 => ?_) (fun c0 => ?_)
  · have hik : ¬ i = K' := fun he => by rw [if_pos he] at c0; simp at c0
    have hxl := h.lt i (by omega)
    refine awp_skip ?_
    refine awp_seq ?_
    refine awp_block ?_
    refine awp_reg_seq fun K hK => ?_
    simp [go_sem, h.hol, h.ha, h.ha0, h.hb, h.hb0, h.hyo, h.hao, h.hbo, c0, hik]
    repeat refine ⟨by omega, ?_⟩
    by_cases hl : i + 1 = K'
    · have hl1 := h.last i hl
      refine YSk.gen hl1 ?_
      rintro r σ' X ⟨rfl, rfl, rfl⟩
      simp [go_sem, h.hol, h.ha, h.ha0, h.hb, h.hb0, h.hyo, h.hao, h.hbo, c0, hik]
      repeat refine ⟨by omega, ?_⟩
      refine hK _ ?_; clear hK K
      refine awp_forget [0, 1, 4, 31] (by simp only [restr, List.contains_cons, List.contains_nil, Nat.reduceBEq, Bool.or_false, Bool.or_true, Bool.true_or, Bool.false_or, if_true, if_false, Bool.false_eq_true]; rfl) ?_
      refine awp_cond rfl (fun c1 => ?_) (fun c1 => ?_)
      · refine awp_ret ?_
        rw [hl]
        simp [go_sem, Tryz.results77]
        exact h.hlv _
      · have d1 := c1; simp at d1
        have hf := h.fin i hl d1.1 d1.2
        refine awp_skip ?_
        refine awp_draw_end 7 T.mixed (by kernel_rfl) fun K hK => ?_
        simp [go_sem, h.hol, h.ha, h.ha0, h.hb, h.hb0, h.hyo, h.hao, h.hbo, c0, hik]
        repeat refine ⟨by omega, ?_⟩
        refine CSg.mk (policy_find_cs _ c n g _ hn) ?_
        simp [go_sem, h.hol, h.ha, h.ha0, h.hb, h.hb0, h.hyo, h.hao, h.hbo, c0, hik, hf]
        repeat refine ⟨by omega, ?_⟩
        refine hK _ ?_; clear hK K
        refine ⟨i + 1, back_of' (by simp) (h.hls i) (by (simp [go_sem, h.hol, h.ha, h.ha0, h.hb, h.hb0, h.hyo, h.hao, h.hbo, c0, hik, hf, hl] <;> omega)), by omega, by first | omega | (dsimp only; omega)⟩
    · obtain ⟨hp, hf⟩ := h.mid i (by omega)
      have hl1 := h.yes i (by omega)
      refine YSk.gen hl1 ?_
      rintro r σ' X ⟨rfl, rfl, rfl⟩
      simp [go_sem, h.hol, h.ha, h.ha0, h.hb, h.hb0, h.hyo, h.hao, h.hbo, c0, hik, hp]
      repeat refine ⟨by omega, ?_⟩
      refine hK _ ?_; clear hK K
      refine awp_forget [0, 1, 4, 31] (by simp only [restr, List.contains_cons, List.contains_nil, Nat.reduceBEq, Bool.or_false, Bool.or_true, Bool.true_or, Bool.false_or, if_true, if_false, Bool.false_eq_true]; rfl) ?_
      refine awp_cond rfl (fun c1 => ?_) (fun c1 => ?_)
      · simp [hp] at c1
      · refine awp_skip ?_
        refine awp_draw_end 7 T.mixed (by kernel_rfl) fun K hK => ?_
        simp [go_sem, h.hol, h.ha, h.ha0, h.hb, h.hb0, h.hyo, h.hao, h.hbo, c0, hik]
        repeat refine ⟨by omega, ?_⟩
        refine CSg.mk (policy_find_cs _ c n g _ hn) ?_
        simp [go_sem, h.hol, h.ha, h.ha0, h.hb, h.hb0, h.hyo, h.hao, h.hbo, c0, hik, hf]
        repeat refine ⟨by omega, ?_⟩
        refine hK _ ?_; clear hK K
        refine ⟨i + 1, back_of' (by simp) (h.hls i) (by (simp [go_sem, h.hol, h.ha, h.ha0, h.hb, h.hb0, h.hyo, h.hao, h.hbo, c0, hik, hf, hl] <;> omega)), by omega, by first | omega | (dsimp only; omega)⟩
  · have he : i = K' := Classical.byContradiction fun hn => by rw [if_neg hn] at c0; simp at c0
    subst he
    refine awp_exit ?_
    simp [go_sem, Tryz.results77]
    exact h.hlv _
end Go.Proofs.YtkochmppmpmddaaGreat

/-! Cg -/
namespace Go.Proofs.YtkochmppmpmddaaGreat
open Go.Abs Go.Arch
set_option linter.unusedVariables false
set_option linter.unusedSimpArgs false
set_option maxRecDepth 100000
set_option maxHeartbeats 400000
structure PathOf (n : Nat) (g : Nat → Row) (u : Int) (K : Nat) (x : Nat → Nat) : Prop where
  first : findR n g u = if 0 = K then -1 else (x 0 : Int)
  lt : ∀ i, i < K → x i < n
  mid : ∀ i, i + 1 < K → (g (x i)).Parent ≠ 0 ∧ findR n g (g (x i)).Parent = (x (i + 1) : Int)
  fin : ∀ i, i + 1 = K → (g (x i)).Parent ≠ 0 → findR n g (g (x i)).Parent = -1
theorem cat_fun {f : Nat → Int} {k : Nat} {ds : List D} (h : ds.take 1 = encI (f k)) {q : Nat} (hq : q < k + 1) : catRows k (fun q => encI (f q)) (rowsOf 1 ds) q = encI (f q) := by
  unfold catRows
  split
  · rfl
  · have : q = k := by omega
    subst this
    simp [rowsOf, h]
theorem policy_path_cs (σ : List Blk) (c : Option Nat) (n : Nat) (g : Nat → Row) (u : Int) (K' : Nat) (x : Nat → Nat) (hP : PathOf n g u K' x) (hn : n < 1000000000) (hK : K' < 1000000000) : CSF Tryz.prog 43 [.d (SL c 3 Row.enc n g), .d (I u)] σ (.d (SL none 1 encI K' (fun i => (g (x i)).Unit))) := by
  refine CSF.of_body T.en43 Tryz.func43 rfl (by simp [Tryz.ntmps43]) (by simp [go_sem]) fun hwf => ?_
  refine awp_reg_seq fun K hK => ?_
  simp [go_sem, Tryz.ntmps43]
  refine hK _ ?_; clear hK K
  refine awp_reg_seq fun K hK => ?_
  simp [go_sem]
  refine hK _ ?_; clear hK K
  refine awp_thawV σ.length 1 (fun i => encI (g (x i)).Unit) (by simp [go_sem]) (by simp [go_sem]; rfl) ?_
  refine awp_seq ?_
  refine awp_reg_seq fun K hK => ?_
  simp [go_sem]
  have hcl := policy_above_cs (σ ++ [.var [.ms (σ.length + 1) 1 0 0], .arr 1 0 (fun i => encI (g (x i)).Unit)]) c n g u
  simp only [List.append_assoc, List.cons_append, List.nil_append, List.length_append, List.length_cons, List.length_nil, Nat.zero_add, Nat.reduceAdd] at hcl
  refine CSk.gen hcl ?_
  rintro r σ' X ⟨rfl, rfl, rfl⟩
  simp [go_sem]
  refine hK _ ?_; clear hK K
  refine awp_block ?_
  refine awp_rangeL rfl [(5, .ptr σ.length 0)] (by simp [go_sem]) ?_
  intro La hLa
  have hround : ∀ i, i < K' → YS Tryz.prog (σ.length + 4) [.agg ((g (x i)).enc.map .d)] (σ ++ [.var [.ms (σ.length + 1) 1 0 i], .arr 1 i (fun q => encI (g (x q)).Unit), .var [.d (SL c 3 Row.enc n g)], .var [.d (I u)], .lp La .ready none]) (fun r σ' X => X = [σ.length + 1] ∧ r = .d (B true) ∧ σ' = σ ++ [.var [.ms (σ.length + 1) 1 0 (i + 1)], .arr 1 (i + 1) (fun q => encI (g (x q)).Unit), .var [.d (SL c 3 Row.enc n g)], .var [.d (I u)], .lp La .ready none]) := by
    intro i hi
    refine YS.of_awp (L := La) (pd := none) (by simp [go_sem]) (by rw [hLa]; rfl) ?_
    intro hwf'
    have eN := congrArg LoopA.N hLa
    have et := congrArg LoopA.t hLa
    have ep := congrArg LoopA.ps hLa
    have ea := congrArg LoopA.assign hLa
    have eb := congrArg LoopA.body hLa
    dsimp only at eN et ep ea eb
    have h1 : scrub' [σ.length + 1] La.t = La.t := by rw [et]; simp [scrub', AV.avoids]
    rw [eN, et, ep, ea, eb]
    clear eN et ep ea eb hLa hcl
    refine awp_reg_end fun K hK => ?_
    simp [go_sem, St.putL]
    refine hK _ ?_; clear hK K
    simp [begunQ, go_sem, mvNot]
    refine awp_block ?_
    refine awp_post ?_
    refine awp_reg_end fun K hK => ?_
    simp [go_sem, hwf.one, hwf.zero, h1]
    repeat refine ⟨by omega, ?_⟩
    refine hK _ ?_; clear hK K
    refine ⟨_, sub_rows (σ.length + 1) (fun q => encI (g (x q)).Unit) (by simp [go_sem]; first | exact ⟨rfl, rfl, rfl⟩ | exact ⟨rfl, rfl⟩ | rfl) (by exact fun q hq => cat_fun (f := fun q => (g (x q)).Unit) rfl hq) (by simp [go_sem]; rfl), ?_⟩
    simp [go_sem, roundQ, jumpOf, mvNot, mvIn]
    exact leaves_app (by simp [go_sem, leavesL_refl])
  have hR : Ways (fun i => σ ++ [.var [.ms (σ.length + 1) 1 0 i], .arr 1 i (fun q => encI (g (x q)).Unit), .var [.d (SL c 3 Row.enc n g)], .var [.d (I u)], .lp La .ready none]) c n g u K' x true (σ.length + 4) (σ.length + 2) (σ.length + 3) (σ.length + 1) := by
    refine ⟨fun i => by simp [go_sem], fun i => by simp [go_sem], fun i => by simp [go_sem], fun i => by simp [go_sem], fun i => leaves_app (by simp [go_sem]), fun i => leaves_app (by simp [go_sem]), fun i => by simp, by omega, by omega, by omega, hP.first, hP.lt, hP.mid, fun i hi => hround i (by omega), fun i hi => hround i (by omega), fun i hi _ => hP.fin i hi⟩
  have h3 := policy_above_1_cs σ _ c n g u K' x true _ _ _ _ hR hn
  refine CS.mono (Q := fun r σ' X' => X' = [σ.length + 1] ∧ r = .tup [] ∧ σ' = _) (by simpa [go_sem] using h3) ?_
  rintro r σ' X ⟨rfl, rfl, rfl⟩
  clear h3 hR hround hLa hcl
  refine ⟨σ ++ [.var [.ms (σ.length + 1) 1 0 K'], .arr 1 K' (fun q => encI (g (x q)).Unit), .var [.d (SL c 3 Row.enc n g)], .var [.d (I u)]], La, .ready, none, by simp [go_sem], leaves_app (by simp [go_sem]), by simp, by simp [mvNot], ?_⟩
  simp [jumpQ, go_sem, scrub', AV.avoids, avoidsL]
  refine awp_reg_seq fun K hK => ?_
  simp [go_sem]
  refine hK _ ?_; clear hK K
  refine awp_freeze (σ.length + 1) (by simp [go_sem]; first | exact ⟨rfl, rfl, rfl⟩ | exact ⟨rfl, rfl⟩ | rfl) (by simp [go_sem]; rfl) (by simp [go_sem, hwf.frz, hwf.frz0]; rfl) ?_
  refine awp_ret ?_
  simp [go_sem, Tryz.results43]
end Go.Proofs.YtkochmppmpmddaaGreat

/-! Ch -/
namespace Go.Proofs.YtkochmppmpmddaaGreat
open Go.Abs Go.Arch
set_option linter.unusedVariables false
set_option linter.unusedSimpArgs false
set_option maxRecDepth 100000
set_option maxHeartbeats 400000
def ascB (g : Nat → Int) : Nat → Bool
  | 0 => true
  | 1 => true
  | i + 2 => ascB g (i + 1) && decide (g i < g (i + 1))
theorem ascB_iff (g : Nat → Int) : ∀ n, ascB g n = true ↔ ∀ i, 0 < i → i < n → g (i - 1) < g i
  | 0 => by simp [ascB]
  | 1 => by simp only [ascB, true_iff]; intro i h1 h2; omega
  | n + 2 => by
    rw [ascB, Bool.and_eq_true, ascB_iff g (n + 1)]
    constructor
    · rintro ⟨h1, h2⟩ i hp hi
      by_cases he : i = n + 1
      · subst he; simpa using h2
      · exact h1 i hp (by omega)
    · intro h
      exact ⟨fun i hp hi => h i hp (by omega), by simpa using h (n + 1) (by omega) (by omega)⟩
theorem asc_step {g : Nat → Int} {i : Nat} (hx : ∀ q, 0 < q → q < i → g (q - 1) < g q) (h : 0 < i → g (i - 1) < g i) : ∀ q, 0 < q → q < i + 1 → g (q - 1) < g q := by
  intro q hp hq
  by_cases hqi : q = i
  · subst hqi; exact h hp
  · exact hx q hp (by omega)
theorem asc_yes {g : Nat → Int} {n : Nat} (h : ∀ q, 0 < q → q < n → g (q - 1) < g q) : ascB g n = true := (ascB_iff g n).2 h
theorem asc_no {g : Nat → Int} {n i : Nat} (hi : i < n) (hp : 0 < i) (h : g i ≤ g (i - 1)) : ascB g n = false := by
  cases hb : ascB g n with
  | false => rfl
  | true => have := (ascB_iff g n).1 hb i hp hi; omega
theorem policy_increase_cs (σ : List Blk) (c : Option Nat) (n : Nat) (g : Nat → Int) (hn : n < 1000000000) : CSF Tryz.prog 84 [.d (SL c 1 encI n g)] σ (.d (B (ascB g n))) := by
  refine CSF.of_body T.en84 Tryz.func84 rfl (by simp [Tryz.ntmps84]) (by simp [go_sem]) fun hwf => ?_
  refine awp_reg_seq fun K hK => ?_
  simp [go_sem, Tryz.ntmps84]
  repeat refine ⟨by omega, ?_⟩
  refine hK _ ?_; clear hK K
  refine awp_seq ?_
  refine awp_reg_seq fun K hK => ?_
  simp [go_sem]
  repeat refine ⟨by omega, ?_⟩
  refine hK _ ?_; clear hK K
  refine awp_block ?_
  refine awp_forget [0, 5, 6] (by simp [go_sem, restr]; rfl) ?_
  refine awp_loopU (α := Nat) (fun i => [(6, .d (I i))]) (fun i => _) (fun i => i ≤ n ∧ ∀ q, 0 < q → q < i → g (q - 1) < g q) (fun i => n - i) 0 (by simp [go_sem]) rfl (by simp) ?_
  rintro i ⟨hi, hx⟩
  refine awp_reg_seq fun K hK => ?_
  simp [go_sem, wrap_pred (i := i) (by omega)]
  repeat refine ⟨by omega, ?_⟩
  refine hK _ ?_; clear hK K
  refine awp_seq ?_
  refine awp_forget [0, 5, 6, 7] (by simp only [restr, List.contains_cons, List.contains_nil, Nat.reduceBEq, Bool.or_false, Bool.or_true, Bool.true_or, Bool.false_or, if_true, if_false, Bool.false_eq_true]; rfl) ?_
  refine awp_cond rfl (fun c0 => ?_) (fun c0 => ?_)
  · have d0 := c0; try simp at d0
    refine awp_skip ?_
    refine awp_seq ?_
    refine awp_block ?_
    refine awp_reg_seq fun K hK => ?_
    simp [go_sem, wrap_pred (i := i) (by omega), c0, d0]
    repeat refine ⟨by omega, ?_⟩
    refine hK _ ?_; clear hK K
    refine awp_draw_seq 14 T.mixed (by kernel_rfl) fun K hK => ?_
    simp [go_sem, wrap_pred (i := i) (by omega), c0, d0]
    try simp (disch := omega) only [wrapI]
    repeat refine ⟨by omega, ?_⟩
    refine hK _ ?_; clear hK K
    refine awp_forget [0, 5, 6, 22] (by simp only [restr, List.contains_cons, List.contains_nil, Nat.reduceBEq, Bool.or_false, Bool.or_true, Bool.true_or, Bool.false_or, if_true, if_false, Bool.false_eq_true]; rfl) ?_
    refine awp_cond rfl (fun c1 => ?_) (fun c1 => ?_)
    · have d1 := c1; try simp at d1
      refine awp_reg_seq fun K hK => ?_
      simp [go_sem, wrap_pred (i := i) (by omega), c0, d0, c1, d1]
      repeat refine ⟨by omega, ?_⟩
      refine hK _ ?_; clear hK K
      refine awp_ret ?_
      rw [asc_no d0 d1.1 d1.2]; simp [go_sem, Tryz.results84]
    · have d1 := c1; try simp at d1
      refine awp_skip ?_
      refine awp_reg_end fun K hK => ?_
      simp [go_sem, wrap_pred (i := i) (by omega), c0, d0, c1, d1]
      try simp (disch := omega) only [wrapI]
      repeat refine ⟨by omega, ?_⟩
      refine hK _ ?_; clear hK K
      refine ⟨i + 1, back_of' (by simp) (.refl _) (by (simp [go_sem, wrap_succ (i := i) (by omega), wrap_pred (i := i) (by omega), c0, d0, c1, d1] <;> omega)), ⟨by omega, asc_step hx d1⟩, by first | omega | (dsimp only; omega)⟩
  · have d0 := c0; try simp at d0
    obtain rfl : i = n := by omega
    refine awp_exit ?_
    refine awp_reg_seq fun K hK => ?_
    simp [go_sem, wrap_pred (i := i) (by omega), c0, d0]
    repeat refine ⟨by omega, ?_⟩
    refine hK _ ?_; clear hK K
    refine awp_ret ?_
    rw [asc_yes hx]; simp [go_sem, Tryz.results84]
theorem ref35_rising_cs (σ : List Blk) (c : Option Nat) (n : Nat) (g : Nat → Int) (hn : n < 1000000000) : CSF Tryz.prog 93 [.d (SL c 1 encI n g)] σ (.d (B (ascB g n))) := by
  refine CSF.of_body T.en93 Tryz.func93 rfl (by simp [Tryz.ntmps93]) (by simp [go_sem]) fun hwf => ?_
  refine awp_reg_seq fun K hK => ?_
  simp [go_sem, Tryz.ntmps93]
  repeat refine ⟨by omega, ?_⟩
  refine hK _ ?_; clear hK K
  refine awp_seq ?_
  refine awp_reg_seq fun K hK => ?_
  simp [go_sem]
  repeat refine ⟨by omega, ?_⟩
  refine hK _ ?_; clear hK K
  refine awp_block ?_
  refine awp_forget [0, 5, 6] (by simp [go_sem, restr]; rfl) ?_
  refine awp_loopU (α := Nat) (fun i => [(6, .d (I i))]) (fun i => _) (fun i => i ≤ n ∧ ∀ q, 0 < q → q < i → g (q - 1) < g q) (fun i => n - i) 0 (by simp [go_sem]) rfl (by simp) ?_
  rintro i ⟨hi, hx⟩
  refine awp_reg_seq fun K hK => ?_
  simp [go_sem, wrap_pred (i := i) (by omega)]
  repeat refine ⟨by omega, ?_⟩
  refine hK _ ?_; clear hK K
  refine awp_seq ?_
  refine awp_forget [0, 5, 6, 7] (by simp only [restr, List.contains_cons, List.contains_nil, Nat.reduceBEq, Bool.or_false, Bool.or_true, Bool.true_or, Bool.false_or, if_true, if_false, Bool.false_eq_true]; rfl) ?_
  refine awp_cond rfl (fun c0 => ?_) (fun c0 => ?_)
  · have d0 := c0; try simp at d0
    refine awp_skip ?_
    refine awp_seq ?_
    refine awp_block ?_
    refine awp_reg_seq fun K hK => ?_
    simp [go_sem, wrap_pred (i := i) (by omega), c0, d0]
    repeat refine ⟨by omega, ?_⟩
    refine hK _ ?_; clear hK K
    refine awp_draw_seq 14 T.mixed (by kernel_rfl) fun K hK => ?_
    simp [go_sem, wrap_pred (i := i) (by omega), c0, d0]
    try simp (disch := omega) only [wrapI]
    repeat refine ⟨by omega, ?_⟩
    refine hK _ ?_; clear hK K
    refine awp_forget [0, 5, 6, 22] (by simp only [restr, List.contains_cons, List.contains_nil, Nat.reduceBEq, Bool.or_false, Bool.or_true, Bool.true_or, Bool.false_or, if_true, if_false, Bool.false_eq_true]; rfl) ?_
    refine awp_cond rfl (fun c1 => ?_) (fun c1 => ?_)
    · have d1 := c1; try simp at d1
      refine awp_reg_seq fun K hK => ?_
      simp [go_sem, wrap_pred (i := i) (by omega), c0, d0, c1, d1]
      repeat refine ⟨by omega, ?_⟩
      refine hK _ ?_; clear hK K
      refine awp_ret ?_
      rw [asc_no d0 d1.1 d1.2]; simp [go_sem, Tryz.results93]
    · have d1 := c1; try simp at d1
      refine awp_skip ?_
      refine awp_reg_end fun K hK => ?_
      simp [go_sem, wrap_pred (i := i) (by omega), c0, d0, c1, d1]
      try simp (disch := omega) only [wrapI]
      repeat refine ⟨by omega, ?_⟩
      refine hK _ ?_; clear hK K
      refine ⟨i + 1, back_of' (by simp) (.refl _) (by (simp [go_sem, wrap_succ (i := i) (by omega), wrap_pred (i := i) (by omega), c0, d0, c1, d1] <;> omega)), ⟨by omega, asc_step hx d1⟩, by first | omega | (dsimp only; omega)⟩
  · have d0 := c0; try simp at d0
    obtain rfl : i = n := by omega
    refine awp_exit ?_
    refine awp_reg_seq fun K hK => ?_
    simp [go_sem, wrap_pred (i := i) (by omega), c0, d0]
    repeat refine ⟨by omega, ?_⟩
    refine hK _ ?_; clear hK K
    refine awp_ret ?_
    rw [asc_yes hx]; simp [go_sem, Tryz.results93]
theorem cloneAgr_cs (σ : List Blk) (c : Option Nat) (n : Nat) (g : Nat → Agr) (hn : n < 1000000000) : CSF Tryz.prog 55 [.d (SL c 6 Agr.enc n g)] σ (.d (SL none 6 Agr.enc n g)) := by
  refine CSF.of_body T.en55 Tryz.func55 rfl (by simp [Tryz.ntmps55]) (by simp [go_sem]) fun hwf => ?_
  refine awp_reg_seq fun K hK => ?_
  simp [go_sem, Tryz.ntmps55]
  repeat refine ⟨by omega, ?_⟩
  refine hK _ ?_; clear hK K
  refine awp_seq ?_
  refine awp_reg_seq fun K hK => ?_
  simp [go_sem, -Bool.forall_bool]
  intro b1 hb1
  repeat refine ⟨by omega, ?_⟩
  refine hK _ ?_; clear hK K
  refine awp_cond rfl (fun c0 => ?_) (fun c0 => ?_)
  · have d0 := c0; try simp at d0
    refine awp_reg_seq fun K hK => ?_
    simp [go_sem, c0, d0]
    repeat refine ⟨by omega, ?_⟩
    refine hK _ ?_; clear hK K
    refine awp_ret ?_
    have := hb1 c0
    simp [go_sem, Tryz.results55, this]
  · have d0 := c0; try simp at d0
    refine awp_skip ?_
    refine awp_reg_seq fun K hK => ?_
    simp [go_sem, c0, d0, hwf.one, hwf.zero]
    repeat refine ⟨by omega, ?_⟩
    refine hK _ ?_; clear hK K
    refine awp_freeze (σ.length) (by simp [go_sem]; first | exact ⟨rfl, rfl, rfl⟩ | exact ⟨rfl, rfl⟩ | rfl) (by simp [go_sem]; rfl) (by simp [go_sem, hwf.frz, hwf.frz0]; rfl) ?_
    refine awp_ret ?_
    simp [go_sem, Tryz.results55, c0, d0] <;> omega
theorem clonePmt_cs (σ : List Blk) (c : Option Nat) (n : Nat) (g : Nat → Pmt) (hn : n < 1000000000) : CSF Tryz.prog 56 [.d (SL c 6 Pmt.enc n g)] σ (.d (SL none 6 Pmt.enc n g)) := by
  refine CSF.of_body T.en56 Tryz.func56 rfl (by simp [Tryz.ntmps56]) (by simp [go_sem]) fun hwf => ?_
  refine awp_reg_seq fun K hK => ?_
  simp [go_sem, Tryz.ntmps56]
  repeat refine ⟨by omega, ?_⟩
  refine hK _ ?_; clear hK K
  refine awp_seq ?_
  refine awp_reg_seq fun K hK => ?_
  simp [go_sem, -Bool.forall_bool]
  intro b1 hb1
  repeat refine ⟨by omega, ?_⟩
  refine hK _ ?_; clear hK K
  refine awp_cond rfl (fun c0 => ?_) (fun c0 => ?_)
  · have d0 := c0; try simp at d0
    refine awp_reg_seq fun K hK => ?_
    simp [go_sem, c0, d0]
    repeat refine ⟨by omega, ?_⟩
    refine hK _ ?_; clear hK K
    refine awp_ret ?_
    have := hb1 c0
    simp [go_sem, Tryz.results56, this]
  · have d0 := c0; try simp at d0
    refine awp_skip ?_
    refine awp_reg_seq fun K hK => ?_
    simp [go_sem, c0, d0, hwf.one, hwf.zero]
    repeat refine ⟨by omega, ?_⟩
    refine hK _ ?_; clear hK K
    refine awp_freeze (σ.length) (by simp [go_sem]; first | exact ⟨rfl, rfl, rfl⟩ | exact ⟨rfl, rfl⟩ | rfl) (by simp [go_sem]; rfl) (by simp [go_sem, hwf.frz, hwf.frz0]; rfl) ?_
    refine awp_ret ?_
    simp [go_sem, Tryz.results56, c0, d0] <;> omega
theorem cloneInt_cs (σ : List Blk) (c : Option Nat) (n : Nat) (g : Nat → Int) (hn : n < 1000000000) : CSF Tryz.prog 53 [.d (SL c 1 encI n g)] σ (.d (SL none 1 encI n g)) := by
  refine CSF.of_body T.en53 Tryz.func53 rfl (by simp [Tryz.ntmps53]) (by simp [go_sem]) fun hwf => ?_
  refine awp_reg_seq fun K hK => ?_
  simp [go_sem, Tryz.ntmps53]
  repeat refine ⟨by omega, ?_⟩
  refine hK _ ?_; clear hK K
  refine awp_seq ?_
  refine awp_reg_seq fun K hK => ?_
  simp [go_sem, -Bool.forall_bool]
  intro b1 hb1
  repeat refine ⟨by omega, ?_⟩
  refine hK _ ?_; clear hK K
  refine awp_cond rfl (fun c0 => ?_) (fun c0 => ?_)
  · have d0 := c0; try simp at d0
    refine awp_reg_seq fun K hK => ?_
    simp [go_sem, c0, d0]
    repeat refine ⟨by omega, ?_⟩
    refine hK _ ?_; clear hK K
    refine awp_ret ?_
    have := hb1 c0
    simp [go_sem, Tryz.results53, this]
  · have d0 := c0; try simp at d0
    refine awp_skip ?_
    refine awp_reg_seq fun K hK => ?_
    simp [go_sem, c0, d0, hwf.one, hwf.zero]
    repeat refine ⟨by omega, ?_⟩
    refine hK _ ?_; clear hK K
    refine awp_freeze (σ.length) (by simp [go_sem]; first | exact ⟨rfl, rfl, rfl⟩ | exact ⟨rfl, rfl⟩ | rfl) (by simp [go_sem]; rfl) (by simp [go_sem, hwf.frz, hwf.frz0]; rfl) ?_
    refine awp_ret ?_
    simp [go_sem, Tryz.results53, c0, d0] <;> omega
end Go.Proofs.YtkochmppmpmddaaGreat

/-! Ci -/
namespace Go.Proofs.YtkochmppmpmddaaGreat
open Go.Abs Go.Arch
set_option linter.unusedVariables false
set_option linter.unusedSimpArgs false
set_option maxRecDepth 100000
set_option maxHeartbeats 400000
theorem pigeon : ∀ (n K : Nat) (x : Nat → Nat), (∀ i, i < K → x i < n) → (∀ i j, i < j → j < K → x i ≠ x j) → K ≤ n
  | 0, K, x, h1, _ => by
    cases K with
    | zero => omega
    | succ K => exact absurd (h1 0 (by omega)) (by omega)
  | n + 1, K, x, h1, h2 => by
    by_cases he : ∃ i, i < K ∧ x i = n
    · obtain ⟨i, hi, hx⟩ := he
      have := pigeon n (K - 1) (fun k => if k < i then x k else x (k + 1)) (fun k hk => by
        by_cases hki : k < i
        · simp only [hki, if_true]
          have := h1 k (by omega); have := h2 k i hki hi; omega
        · simp only [hki, if_false]
          have := h1 (k + 1) (by omega); have := h2 i (k + 1) (by omega) (by omega); omega) (fun a b hab hb => by
        by_cases ha : a < i
        · by_cases hbi : b < i
          · simp only [ha, hbi, if_true]; exact h2 a b hab (by omega)
          · simp only [ha, hbi, if_true, if_false]; exact h2 a (b + 1) (by omega) (by omega)
        · simp only [ha, show ¬ b < i by omega, if_false]; exact h2 (a + 1) (b + 1) (by omega) (by omega))
      omega
    · have := pigeon n K x (fun k hk => by
        have := h1 k hk
        have : x k ≠ n := fun h => he ⟨k, hk, h⟩
        omega) h2
      omega
def parI (n : Nat) (g : Nat → Row) (i : Nat) : Nat := (findR n g (g i).Parent).toNat
def chainX (n : Nat) (g : Nat → Row) (i : Nat) : Nat → Nat
  | 0 => i
  | k + 1 => parI n g (chainX n g i k)
theorem chain_add (n : Nat) (g : Nat → Row) (i a : Nat) : ∀ b, chainX n g i (a + b) = chainX n g (chainX n g i a) b
  | 0 => rfl
  | b + 1 => by rw [← Nat.add_assoc, chainX, chain_add n g i a b, chainX]
def rowOk (r : Row) : Bool := idOk r.Unit && decide (0 ≤ r.Parent) && decide (r.Parent ≤ 1073741824) && decide (0 ≤ r.Accession) && decide (r.Accession ≤ 1073741824)
def rowE (g : Nat → Row) (i : Nat) : Int := if rowOk (g i) = false then 2 else if 0 < i ∧ (g i).Unit ≤ (g (i - 1)).Unit then 5 else 0
def parE (n : Nat) (g : Nat → Row) (i : Nat) : Int := if (g i).Parent ≠ 0 ∧ findR n g (g i).Parent < 0 then 7 else 0
def Cyc (n : Nat) (g : Nat → Row) (i : Nat) : Prop := ∀ k, k ≤ n → (g (chainX n g i k)).Parent ≠ 0
open Classical in
noncomputable def rowsChk (n : Nat) (g : Nat → Row) : Int :=
  if 256 < n then 8 else if firstE (rowE g) 0 n ≠ 0 then firstE (rowE g) 0 n else if firstE (parE n g) 0 n ≠ 0 then firstE (parE n g) 0 n
  else if ∃ i, i < n ∧ Cyc n g i then 17 else 0
theorem findR_lt (n : Nat) (g : Nat → Row) (u : Int) : findR n g u < n := idx_lt' _ n g
theorem findR_at {n : Nat} {g : Nat → Row} {u : Int} (h : 0 ≤ findR n g u) : (findR n g u).toNat < n ∧ (g (findR n g u).toNat).Unit = u ∧ findR n g u = ((findR n g u).toNat : Int) := by
  have h1 := findR_lt n g u
  refine ⟨by omega, ?_, by omega⟩
  rcases idx_spec (fun r : Row => r.Unit == u) (lst n g) 0 with ⟨h2, _⟩ | ⟨q, h2, h3, x, h4, h5, _⟩
  · unfold findR at h; omega
  · have e : (findR n g u).toNat = q := by unfold findR; rw [h3]; omega
    rw [lst_length] at h2
    rw [lst_get h2] at h4
    rw [e]; cases h4; simpa using h5
theorem findR_ge (n : Nat) (g : Nat → Row) (u : Int) : -1 ≤ findR n g u := by
  rcases idx_spec (fun r : Row => r.Unit == u) (lst n g) 0 with ⟨h2, _⟩ | ⟨q, h2, h3, _⟩ <;> unfold findR <;> omega
structure Good (n : Nat) (g : Nat → Row) : Prop where
  le : n ≤ 256
  ok : ∀ i, i < n → rowOk (g i) = true
  asc : ∀ i j, j < i → i < n → (g j).Unit < (g i).Unit
  par : ∀ i, i < n → (g i).Parent ≠ 0 → 0 ≤ findR n g (g i).Parent
theorem good_of {n : Nat} {g : Nat → Row} (h0 : n ≤ 256) (h1 : firstE (rowE g) 0 n = 0) (h2 : firstE (parE n g) 0 n = 0) : Good n g := by
  have he : ∀ i, i < n → rowOk (g i) = true ∧ (0 < i → (g (i - 1)).Unit < (g i).Unit) := fun i hi => by
    have := firstE_zero h1 i (by omega) (by omega)
    unfold rowE at this
    split at this
    · omega
    · rename_i h1
      split at this
      · omega
      · exact ⟨by simpa using h1, fun hp => by omega⟩
  refine ⟨h0, fun i hi => (he i hi).1, ?_, fun i hi hp => ?_⟩
  · intro i
    induction i with
    | zero => intro j hj; omega
    | succ i ih =>
      intro j hj hi
      have h1 := (he (i + 1) hi).2 (by omega)
      simp only [Nat.add_sub_cancel] at h1
      rcases Nat.lt_or_eq_of_le (Nat.le_of_lt_succ hj) with h | h
      · have := ih j h (by omega); omega
      · rw [h]; exact h1
  · have := firstE_zero h2 i (by omega) (by omega)
    unfold parE at this
    split at this
    · omega
    · rename_i h; omega
theorem Good.find {n : Nat} {g : Nat → Row} (h : Good n g) {i : Nat} (hi : i < n) : findR n g (g i).Unit = (i : Int) := by
  have h1 : 0 ≤ findR n g (g i).Unit := by
    rcases idx_spec (fun r : Row => r.Unit == (g i).Unit) (lst n g) 0 with ⟨h2, h3⟩ | ⟨q, h2, h3, _⟩
    · have := h3 (g i) (by simp only [lst, List.mem_map, List.mem_range]; exact ⟨i, hi, rfl⟩)
      simp at this
    · unfold findR; omega
  obtain ⟨h2, h3, h4⟩ := findR_at h1
  rw [h4]
  congr 1
  rcases Nat.lt_trichotomy (findR n g (g i).Unit).toNat i with h5 | h5 | h5
  · have := h.asc _ _ h5 hi; omega
  · exact h5
  · have := h.asc _ _ h5 h2; omega
theorem Good.chain_lt {n : Nat} {g : Nat → Row} (h : Good n g) {i : Nat} (hi : i < n) : ∀ k, (∀ q, q < k → (g (chainX n g i q)).Parent ≠ 0) → chainX n g i k < n
  | 0, _ => hi
  | k + 1, hk => by
    have h1 := h.chain_lt hi k fun q hq => hk q (by omega)
    rw [chainX, parI]
    exact (findR_at (h.par _ h1 (hk k (by omega)))).1
theorem Good.chain_next {n : Nat} {g : Nat → Row} (h : Good n g) {i : Nat} (hi : i < n) {k : Nat} (hk : ∀ q, q ≤ k → (g (chainX n g i q)).Parent ≠ 0) : findR n g (g (chainX n g i k)).Parent = (chainX n g i (k + 1) : Int) ∧ (g (chainX n g i (k + 1))).Unit = (g (chainX n g i k)).Parent := by
  have h1 := h.chain_lt hi k fun q hq => hk q (by omega)
  have h2 := findR_at (h.par _ h1 (hk k (by omega)))
  exact ⟨h2.2.2, h2.2.1⟩
theorem first_of {p : Nat → Prop} : ∀ (k : Nat), p k → ∃ q, q ≤ k ∧ p q ∧ ∀ r, r < q → ¬ p r
  | 0, h => ⟨0, by omega, h, fun r hr => by omega⟩
  | k + 1, h => by
    by_cases h0 : ∃ r, r ≤ k ∧ p r
    · obtain ⟨r, hr, hp⟩ := h0
      obtain ⟨q, h1, h2, h3⟩ := first_of (p := fun j => p j ∧ j ≤ r) r ⟨hp, by omega⟩
      exact ⟨q, by omega, h2.1, fun j hj hpj => h3 j hj ⟨hpj, by omega⟩⟩
    · exact ⟨k + 1, by omega, h, fun r hr hp => h0 ⟨r, by omega, hp⟩⟩
theorem Good.ends {n : Nat} {g : Nat → Row} (h : Good n g) {i : Nat} (hi : i < n) {k : Nat} (hk : (g (chainX n g i k)).Parent = 0) : ∃ K, K < n ∧ K ≤ k ∧ (g (chainX n g i K)).Parent = 0 ∧ ∀ q, q < K → (g (chainX n g i q)).Parent ≠ 0 := by
  obtain ⟨K, h1, h2, h3⟩ := first_of (p := fun k => (g (chainX n g i k)).Parent = 0) k hk
  refine ⟨K, ?_, h1, h2, h3⟩
  have := pigeon n (K + 1) (chainX n g i) (fun q hq => h.chain_lt hi q fun r hr => h3 r (by omega)) (fun a b hab hb he => by
    have e1 := chain_add n g i b (K - b)
    have e2 := chain_add n g i a (K - b)
    rw [← he, ← e2, show b + (K - b) = K by omega] at e1
    rw [e1] at h2
    exact h3 _ (by omega) h2)
  omega
theorem rows_good {n : Nat} {g : Nat → Row} (h : rowsChk n g = 0) : Good n g ∧ ∀ i, i < n → ∃ K, K < n ∧ (g (chainX n g i K)).Parent = 0 ∧ ∀ q, q < K → (g (chainX n g i q)).Parent ≠ 0 := by
  unfold rowsChk at h
  split at h
  · omega
  rename_i h0
  split at h
  · omega
  rename_i h1
  split at h
  · omega
  rename_i h2
  split at h
  · omega
  rename_i h3
  have hg := good_of (by omega) (Decidable.not_not.1 h1) (Decidable.not_not.1 h2)
  refine ⟨hg, fun i hi => ?_⟩
  apply Classical.byContradiction
  intro hn
  refine h3 ⟨i, hi, fun k hk he => ?_⟩
  obtain ⟨K, h4, _, h5, h6⟩ := hg.ends hi he
  exact hn ⟨K, h4, h5, h6⟩
def wayX (n : Nat) (g : Nat → Row) (u : Int) : Nat → Nat := chainX n g (findR n g u).toNat
noncomputable def wayK (n : Nat) (g : Nat → Row) (u : Int) : Nat := Classical.epsilon fun K => K ≤ n ∧ PathOf n g u K (wayX n g u)
theorem way_of {n : Nat} {g : Nat → Row} (h : rowsChk n g = 0) (u : Int) : wayK n g u ≤ n ∧ PathOf n g u (wayK n g u) (wayX n g u) := by
  obtain ⟨hg, hc⟩ := rows_good h
  refine Classical.epsilon_spec (p := fun K => K ≤ n ∧ PathOf n g u K (wayX n g u)) ?_
  by_cases hf : 0 ≤ findR n g u
  · obtain ⟨h1, h2, h3⟩ := findR_at hf
    obtain ⟨K, h4, h5, h6⟩ := hc _ h1
    refine ⟨K + 1, by omega, ?_, fun i hi => hg.chain_lt h1 i fun q hq => h6 q (by omega), fun i hi => ⟨h6 i (by omega), (hg.chain_next h1 fun q hq => h6 q (by omega)).1⟩, fun i hi he => ?_⟩
    · rw [if_neg (by omega)]; exact h3
    · obtain rfl : i = K := by omega
      exact absurd h5 he
  · have := findR_ge n g u
    refine ⟨0, by omega, by rw [if_pos rfl]; omega, fun i hi => by omega, fun i hi => by omega, fun i hi => by omega⟩
theorem way_zero {n : Nat} {g : Nat → Row} (h : rowsChk n g = 0) (u : Int) : wayK n g u = 0 ↔ findR n g u < 0 := by
  have h1 := (way_of h u).2.first
  by_cases hk : 0 = wayK n g u
  · rw [if_pos hk] at h1; omega
  · rw [if_neg hk] at h1; omega
theorem way_units {n : Nat} {g : Nat → Row} (h : rowsChk n g = 0) (u : Int) : (0 < wayK n g u → (g (wayX n g u 0)).Unit = u) ∧ (∀ i, i + 1 < wayK n g u → (g (wayX n g u (i + 1))).Unit = (g (wayX n g u i)).Parent ∧ (g (wayX n g u i)).Parent ≠ 0) ∧ ∀ i, i + 1 = wayK n g u → (g (wayX n g u i)).Parent = 0 := by
  obtain ⟨hk, hp⟩ := way_of h u
  obtain ⟨hg, hc⟩ := rows_good h
  refine ⟨fun h0 => ?_, fun i hi => ?_, fun i hi => ?_⟩
  · have h1 := hp.first
    rw [if_neg (by omega)] at h1
    have h2 := findR_at (n := n) (g := g) (u := u) (by omega)
    have : wayX n g u 0 = (findR n g u).toNat := by omega
    rw [this]; exact h2.2.1
  · have h1 := hp.mid i hi
    have h2 := findR_at (n := n) (g := g) (u := (g (wayX n g u i)).Parent) (by omega)
    have : wayX n g u (i + 1) = (findR n g (g (wayX n g u i)).Parent).toNat := by omega
    rw [this]; exact ⟨h2.2.1, h1.1⟩
  · apply Classical.byContradiction
    intro hn
    have h1 := hp.fin i hi hn
    have h2 := hg.par _ (hp.lt i (by omega)) hn
    omega
end Go.Proofs.YtkochmppmpmddaaGreat

/-! St -/
namespace Go.Proofs
open Go.Shelf
def Tryz.strContains_ren : Go.Shelf.Ren := ⟨fun | 144 => 146 | 143 => 160 | 219 => 176 | 217 => 186 | 225 => 187 | 224 => 188 | 267 => 189 | 266 => 200 | 314 => 201 | n => n, fun | 9 => 9 | 4 => 4 | 3 => 3 | 5 => 5 | 46 => 206 | 146 => 219 | 51 => 216 | n => n, fun | 1 => 0 | n => n⟩
theorem Tryz.strContains : Go.Proofs.Lays.n144 Tryz.prog Tryz.strContains_ren := {
  mixed := by kernel_rfl
  f143 := Tryz.func160.trans (congrArg some (by kernel_rfl))
  f144 := Tryz.func146.trans (congrArg some (by kernel_rfl))
  f217 := Tryz.func186.trans (congrArg some (by kernel_rfl))
  f219 := Tryz.func176.trans (congrArg some (by kernel_rfl))
  f224 := Tryz.func188.trans (congrArg some (by kernel_rfl))
  f225 := Tryz.func187.trans (congrArg some (by kernel_rfl))
  f266 := Tryz.func200.trans (congrArg some (by kernel_rfl))
  f267 := Tryz.func189.trans (congrArg some (by kernel_rfl))
  f314 := Tryz.func201.trans (congrArg some (by kernel_rfl))
  t3 := Tryz.underlying3
  a3 := Tryz.isAgg3
  z3 := Tryz.sizeOf3
  v3 := Tryz.zeroValue3
  t4 := Tryz.underlying4
  a4 := Tryz.isAgg4
  z4 := Tryz.sizeOf4
  v4 := Tryz.zeroValue4
  t5 := Tryz.underlying5
  a5 := Tryz.isAgg5
  z5 := Tryz.sizeOf5
  v5 := Tryz.zeroValue5
  t9 := Tryz.underlying9
  a9 := Tryz.isAgg9
  z9 := Tryz.sizeOf9
  v9 := Tryz.zeroValue9
  t46 := Tryz.underlying206
  a46 := Tryz.isAgg206
  z46 := Tryz.sizeOf206
  v46 := Tryz.zeroValue206
  t51 := Tryz.underlying216
  a51 := Tryz.isAgg216
  z51 := Tryz.sizeOf216
  v51 := Tryz.zeroValue216
  t146 := Tryz.underlying219
  a146 := Tryz.isAgg219
  z146 := Tryz.sizeOf219
  v146 := Tryz.zeroValue219
  g1 := by kernel_rfl }
def Tryz.strContainsFunc_ren : Go.Shelf.Ren := ⟨fun | 17 => 147 | 15 => 161 | 20 => 177 | n => n, fun | 9 => 9 | 23 => 178 | 4 => 4 | 3 => 3 | 0 => 0 | 21 => 21 | n => n, fun | n => n⟩
theorem Tryz.strContainsFunc : Go.Proofs.LaysGw.n17 Tryz.prog Tryz.strContainsFunc_ren := {
  mixed := by kernel_rfl
  f15 := Tryz.func161.trans (congrArg some (by kernel_rfl))
  f17 := Tryz.func147.trans (congrArg some (by kernel_rfl))
  f20 := Tryz.func177.trans (congrArg some (by kernel_rfl))
  t0 := Tryz.underlying0
  a0 := Tryz.isAgg0
  z0 := Tryz.sizeOf0
  v0 := Tryz.zeroValue0
  i0 := by kernel_rfl
  t3 := Tryz.underlying3
  a3 := Tryz.isAgg3
  z3 := Tryz.sizeOf3
  v3 := Tryz.zeroValue3
  i3 := by kernel_rfl
  t4 := Tryz.underlying4
  a4 := Tryz.isAgg4
  z4 := Tryz.sizeOf4
  v4 := Tryz.zeroValue4
  i4 := by kernel_rfl
  t9 := Tryz.underlying9
  a9 := Tryz.isAgg9
  z9 := Tryz.sizeOf9
  v9 := Tryz.zeroValue9
  i9 := by kernel_rfl
  t21 := Tryz.underlying21
  a21 := Tryz.isAgg21
  z21 := Tryz.sizeOf21
  v21 := Tryz.zeroValue21
  i21 := by kernel_rfl
  t23 := Tryz.underlying178
  a23 := Tryz.isAgg178
  z23 := Tryz.sizeOf178
  v23 := Tryz.zeroValue178
  i23 := by kernel_rfl }
end Go.Proofs

/-! Pn -/
namespace Go.Arch
set_option linter.unusedVariables false
set_option linter.unusedSimpArgs false
def bt (s : ByteArray) (i : Nat) : Nat := ((s[i]?).getD 0).toNat
theorem bt_lt {s : ByteArray} {i : Nat} (h : i < s.size) : bt s i = (s[i]'h).toNat := by unfold bt; rw [getElem?_pos s i h]; rfl
def outB (c : Nat) : Bool := decide (c < 32) || decide (126 < c)
theorem idx_out (s : ByteArray) : ∀ f pos, s.size ≤ pos + f → (0 ≤ Lib.idxFuncFrom outB true s f pos ↔ ∃ i, pos ≤ i ∧ i < s.size ∧ outB (bt s i) = true)
  | 0, pos, h => by
    simp only [Lib.idxFuncFrom]
    constructor
    · intro h0; omega
    · rintro ⟨i, h1, h2, _⟩; omega
  | f + 1, pos, h => by
    simp only [Lib.idxFuncFrom]
    by_cases hp : pos < s.size
    · rw [if_pos hp]
      by_cases ha : (s[pos]'hp).toNat < 128
      · rw [Go.decode_ascii s pos hp ha]
        simp only
        rw [← bt_lt hp]
        by_cases ho : outB (bt s pos) = true
        · rw [if_pos ho]
          exact ⟨fun _ => ⟨pos, Nat.le_refl _, hp, ho⟩, fun _ => by omega⟩
        · rw [if_neg ho, idx_out s f (pos + 1) (by omega)]
          constructor
          · rintro ⟨i, h1, h2, h3⟩; exact ⟨i, by omega, h2, h3⟩
          · rintro ⟨i, h1, h2, h3⟩
            have : i ≠ pos := fun e => ho (e ▸ h3)
            exact ⟨i, by omega, h2, h3⟩
      · have hd := (Go.decode_high s pos hp (by omega)).1
        have ho : outB (Utf8.decode s pos).1 = true := by unfold outB; simp; omega
        rw [if_pos ho]
        refine ⟨fun _ => ⟨pos, Nat.le_refl _, hp, ?_⟩, fun _ => by omega⟩
        rw [bt_lt hp]; unfold outB; simp; omega
    · rw [if_neg hp]
      constructor
      · intro h0; omega
      · rintro ⟨i, h1, h2, _⟩; omega
theorem idx_two : ∀ (l : List UInt8) (c : UInt8), 0 ≤ Lib.index l [c, c] ↔ ∃ i, l[i]? = some c ∧ l[i + 1]? = some c
  | [], c => by simp [Lib.index]
  | b :: l, c => by
    have ih := idx_two l c
    rw [Lib.index]
    by_cases hp : [c, c].isPrefixOf (b :: l) = true
    · rw [if_pos hp]
      simp only [Int.le_refl, true_iff]
      cases l with
      | nil => simp [List.isPrefixOf] at hp
      | cons d l =>
        simp [List.isPrefixOf] at hp
        exact ⟨0, by simp [hp.1], by simp [hp.2]⟩
    · rw [if_neg hp]
      have hge : ∀ (l : List UInt8) (sub : List UInt8), -1 ≤ Lib.index l sub := by
        intro l sub
        induction l with
        | nil => rw [Lib.index]; split <;> omega
        | cons b l ih => rw [Lib.index]; split; · omega
                         split <;> omega
      have h1 := hge l [c, c]
      have h2 : 0 ≤ (if (Lib.index l [c, c] == -1) = true then (-1 : Int) else Lib.index l [c, c] + 1) ↔ 0 ≤ Lib.index l [c, c] := by
        by_cases he : Lib.index l [c, c] = -1
        · rw [he]; simp
        · rw [if_neg (by simpa using he)]; omega
      rw [h2, ih]
      constructor
      · rintro ⟨i, h3, h4⟩; exact ⟨i + 1, by simpa using h3, by simpa using h4⟩
      · rintro ⟨i, h3, h4⟩
        cases i with
        | zero =>
          exfalso
          apply hp
          simp at h3 h4
          cases l with
          | nil => simp at h4
          | cons d l => simp at h4; subst h3; subst h4; simp [List.isPrefixOf]
        | succ i => exact ⟨i, by simpa using h3, by simpa using h4⟩
theorem bt_list (s : ByteArray) (i : Nat) (hi : i < s.size) (c : UInt8) : s.data.toList[i]? = some c ↔ bt s i = c.toNat := by
  have e : s.data.toList[i]? = some (s[i]'hi) := by
    rw [Array.getElem?_toList]
    have : i < s.data.size := hi
    rw [Array.getElem?_eq_getElem this]; rfl
  rw [e, bt_lt hi, Option.some.injEq]
  exact ⟨fun h => by rw [h], fun h => UInt8.toNat_inj.1 h⟩
theorem contains_two (s : ByteArray) : Lib.contains s.data.toList [32, 32] = true ↔ ∃ i, i + 1 < s.size ∧ bt s i = 32 ∧ bt s (i + 1) = 32 := by
  unfold Lib.contains
  rw [decide_eq_true_iff, idx_two]
  have hs : s.data.toList.length = s.size := by rw [Array.length_toList]; rfl
  constructor
  · rintro ⟨i, h1, h2⟩
    have h3 : i + 1 < s.size := by rw [← hs]; exact (List.getElem?_eq_some_iff.1 h2).1
    exact ⟨i, h3, (bt_list s i (by omega) 32).1 h1, (bt_list s (i + 1) h3 32).1 h2⟩
  · rintro ⟨i, h1, h2, h3⟩
    exact ⟨i, (bt_list s i (by omega) 32).2 h2, (bt_list s (i + 1) h1 32).2 h3⟩
def nameAt (s : ByteArray) (i : Nat) : Bool := decide (32 ≤ bt s i) && decide (bt s i ≤ 126) && !(decide (0 < i) && decide (bt s i = 32) && decide (bt s (i - 1) = 32))
def namedB (s : ByteArray) : Bool := decide (1 ≤ s.size) && decide (s.size ≤ 64) && !decide (bt s 0 = 32) && !decide (bt s (s.size - 1) = 32) && (List.range s.size).all (nameAt s)
theorem named_iff (s : ByteArray) : namedB s = true ↔ 1 ≤ s.size ∧ s.size ≤ 64 ∧ bt s 0 ≠ 32 ∧ bt s (s.size - 1) ≠ 32 ∧ (∀ i, i < s.size → nameAt s i = true) := by
  unfold namedB; simp [and_assoc]
theorem named_prog (s : ByteArray) : namedB s = (decide (1 ≤ s.size) && decide (s.size ≤ 64) && !decide (bt s 0 = 32) && !decide (bt s (s.size - 1) = 32) && !Lib.contains s.data.toList [32, 32] && !decide (0 ≤ Lib.idxFunc outB true s)) := by
  have h1 := idx_out s s.size 0 (by omega)
  have h2 := contains_two s
  have key : (List.range s.size).all (nameAt s) = (!Lib.contains s.data.toList [32, 32] && !decide (0 ≤ Lib.idxFunc outB true s)) := by
    rw [Bool.eq_iff_iff]
    simp only [List.all_eq_true, List.mem_range, Bool.and_eq_true, Bool.not_eq_true', decide_eq_false_iff_not]
    unfold Lib.idxFunc
    rw [h1, ← Bool.not_eq_true, h2]
    constructor
    · intro h
      refine ⟨?_, ?_⟩
      · rintro ⟨i, h3, h4, h5⟩
        have := h (i + 1) h3
        simp [nameAt, h4, h5] at this
      · rintro ⟨i, _, h3, h4⟩
        have := h i h3
        simp [nameAt] at this
        simp [outB] at h4
        omega
    · rintro ⟨h3, h4⟩ i hi
      have h5 : ¬ outB (bt s i) = true := fun h => h4 ⟨i, by omega, hi, h⟩
      simp [outB] at h5
      simp only [nameAt, Bool.and_eq_true, decide_eq_true_eq, Bool.not_eq_true', Bool.and_eq_false_iff, decide_eq_false_iff_not]
      refine ⟨⟨by omega, by omega⟩, ?_⟩
      by_cases h0 : 0 < i
      · by_cases h6 : bt s i = 32
        · right; intro h7
          exact h3 ⟨i - 1, by omega, h7, by rw [show i - 1 + 1 = i by omega]; exact h6⟩
        · left; right; exact h6
      · left; left; exact h0
  unfold namedB
  rw [key]
  simp only [Bool.and_assoc]
end Go.Arch

/-! Su -/
namespace Go.Proofs.YtkochmppmpmddaaGreat
open Go.Abs Go.Arch Go.Shelf Go.RowKit Go.Lib Go.Proofs
set_option linter.unusedVariables false
set_option linter.unusedSimpArgs false
set_option maxRecDepth 100000
set_option maxHeartbeats 400000
abbrev Sb (s : ByteArray) : D := .v (.string s)
theorem strContains_cs (σ : List Blk) (hσ : σ[0]? = some (.loc 0)) (s t : ByteArray) (hs : s.size < 4294967281) : CSF Tryz.prog 146 [.d (Sb s), .d (Sb t)] σ (.d (B (Lib.contains s.data.toList t.data.toList))) := by
  refine CSF.of_calls T.en146 #[.string s, .string t] (fun w j vs hr => rs_vals2 hr (fun _ h => R_v h) (fun _ h => R_v h)) (fun w j hS => ?_)
  obtain ⟨m, hm⟩ := loc_cell hS hσ
  exact (Any.strings_Contains Tryz.strContains s t m w hs hm).mono fun e w' ⟨he, hw⟩ => ⟨he, by rw [hw]; exact Below.refl _ _⟩
set_option maxHeartbeats 1000000 in
theorem isName1_gives (W : World) (x : Nat) (hx : x ≤ 1114111) : FnGives Tryz.prog 145 #[] #[encR x] (.bool (outB x)) W := by
  unfold FnGives encR outB
  go_enter Tryz.func145, Tryz.ntmps145
  go_wp2
  all_goals (go_ret; refine ⟨congrArg Ending.returned (congrArg Value.bool (?_ : _ = _)), 0, rfl⟩; rw [Bool.eq_iff_iff]; simp; omega)
theorem containsOut_cs (σ : List Blk) (s : ByteArray) : CSF Tryz.prog 147 [.d (Sb s), .clo (.func 145) [] []] σ (.d (B (decide (0 ≤ Lib.idxFunc outB true s)))) := by
  refine CSF.of_calls T.en147 #[.string s, .func (.func 145) #[] #[]] (fun w j vs hr => rs_vals2 hr (fun _ h => R_v h) (fun _ h => R_clo0 h)) (fun w j hS => ?_)
  exact Any.strings_ContainsFunc_runes Tryz.strContainsFunc 145 #[] (fun args w => callFunc_enters T.en145 args w) outB s w fun W x hx _ => isName1_gives W x hx
end Go.Proofs.YtkochmppmpmddaaGreat
