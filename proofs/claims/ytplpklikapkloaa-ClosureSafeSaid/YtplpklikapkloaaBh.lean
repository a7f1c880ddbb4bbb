/- Contracts: a class's own rules, written by a program along closure2.spec. -/
import Derived.Test.YtplpklikapkloaaBg
namespace Go.Proofs.Ytplpklikapkloaa
open Go.Abs Go.Arch
set_option linter.unusedVariables false
set_option linter.unusedSimpArgs false
set_option maxRecDepth 100000
set_option maxHeartbeats 400000

theorem lst_succ {α : Type} (n : Nat) (f : Nat → α) : lst (n + 1) f = lst n f ++ [f n] := by simp [lst, List.range_succ]
def kept {α : Type} (p : α → Bool) (g : Nat → α) (j : Nat) : List α := (lst j g).filter fun r => !p r
theorem kept_succ {α : Type} (p : α → Bool) (g : Nat → α) (j : Nat) : kept p g (j + 1) = if p (g j) = true then kept p g j else kept p g j ++ [g j] := by
  unfold kept; rw [lst_succ, List.filter_append]
  by_cases h : p (g j) = true <;> simp [h]
theorem kept_len {α : Type} (p : α → Bool) (g : Nat → α) (j : Nat) : (kept p g j).length ≤ j := by
  unfold kept; have := List.length_filter_le (fun r => !p r) (lst j g); rw [lst_length] at this; exact this
theorem idx_kept {α : Type} {p : α → Bool} {g : Nat → α} {n : Nat} (h : idxFrom p (lst n g) 0 ≠ -1) : ∃ i0 : Nat, i0 < n ∧ idxFrom p (lst n g) 0 = (i0 : Int) ∧ kept p g (i0 + 1) = lst i0 g := by
  rcases idx_spec p (lst n g) 0 with ⟨h1, _⟩ | ⟨q, h1, h2, x, h3, h4, h5⟩
  · exact absurd h1 h
  · rw [lst_length] at h1
    refine ⟨q, h1, by rw [h2]; simp, ?_⟩
    rw [lst_get h1] at h3
    cases h3
    rw [kept_succ, if_pos h4]
    unfold kept
    rw [List.filter_eq_self]
    intro y hy
    simp only [lst, List.mem_map, List.mem_range] at hy
    obtain ⟨r, hr, rfl⟩ := hy
    have := h5 r (g r) hr (lst_get (by omega))
    simp [this]
theorem idx_none {α : Type} {p : α → Bool} {g : Nat → α} {n : Nat} (h : idxFrom p (lst n g) 0 = -1) : kept p g n = lst n g := by
  rcases idx_spec p (lst n g) 0 with ⟨_, h1⟩ | ⟨q, _, h2, _⟩
  · unfold kept; rw [List.filter_eq_self]; intro x hx; simp [h1 x hx]
  · omega
theorem nth_lst {α : Type} [Inhabited α] {n : Nat} {g : Nat → α} {i : Nat} (h : i < n) : nth (lst n g) i = g i := by simp [nth, lst_get h]
theorem nth_app {α : Type} [Inhabited α] {l : List α} {x : α} {i : Nat} : nth (l ++ [x]) i = if i < l.length then nth l i else if i = l.length then x else default := by
  unfold nth
  by_cases h : i < l.length
  · rw [if_pos h, List.getElem?_append_left h]
  · rw [if_neg h, List.getElem?_append_right (by omega)]
    by_cases e : i = l.length
    · subst e; simp
    · simp [e, List.getElem?_eq_none (show [x].length ≤ i - l.length by simp; omega)]


theorem indexRuleM_cs (σ : List Blk) (τ : List Blk) (n : Nat) (g : Nat → Rule) (f : FuncId) (cap : List AV) (p : Rule → Bool) (hn : n < 1000000000) (hf : ∀ i, i < n → CSF Try.prog f (.agg ((g i).enc.map .d) :: cap) (σ ++ .arr 6 n (fun i => Rule.enc (g i)) :: τ) (.d (B (p (g i))))) : CSF Try.prog 30 [.ms σ.length 6 0 n, .clo (.func f) [] cap] (σ ++ .arr 6 n (fun i => Rule.enc (g i)) :: τ) (.d (I (idxFrom p (lst n g) 0))) := by
  refine CSF.of_body T.en30 Try.func30 rfl (by simp [Try.ntmps30]) (by simp [go_sem]) fun hwf => ?_
  refine awp_reg_seq fun K hK => ?_
  simp [go_sem, Try.ntmps30]
  repeat refine ⟨by omega, ?_⟩
  refine hK _ ?_; clear hK K
  refine awp_seq ?_
  refine awp_reg_seq fun K hK => ?_
  simp [go_sem]
  repeat refine ⟨by omega, ?_⟩
  refine hK _ ?_; clear hK K
  refine awp_block ?_
  refine awp_forget [0, 1, 7, 8] (by simp [go_sem, restr]; rfl) ?_
  refine awp_loopU (α := Nat) (fun i => [(8, .d (I i))]) (fun i => _) (fun i => i ≤ n ∧ idxFrom p (lst n g) 0 = idxFrom p ((lst n g).drop i) i) (fun i => n - i) 0 (by simp [go_sem]) rfl (by simp) ?_
  rintro i ⟨hi, hx⟩
  refine awp_reg_seq fun K hK => ?_
  simp [go_sem]
  repeat refine ⟨by omega, ?_⟩
  refine hK _ ?_; clear hK K
  refine awp_seq ?_
  refine awp_forget [0, 1, 7, 8, 9] (by simp only [restr, List.contains_cons, List.contains_nil, Nat.reduceBEq, Bool.or_false, Bool.or_true, Bool.true_or, Bool.false_or, if_true, if_false, Bool.false_eq_true]; rfl) ?_
  refine awp_cond rfl (fun c0 => ?_) (fun c0 => ?_)
  · have d0 := c0; try simp at d0
    rw [drop_lst d0, idxFrom] at hx
    refine awp_skip ?_
    refine awp_seq ?_
    refine awp_block ?_
    refine awp_reg_seq fun K hK => ?_
    simp [go_sem, c0, d0]
    repeat refine ⟨by omega, ?_⟩
    refine hK _ ?_; clear hK K
    refine awp_reg_seq fun K hK => ?_
    simp [go_sem, c0, d0]
    repeat refine ⟨by omega, ?_⟩
    refine CSk.mk (hf i d0) ?_
    simp [go_sem, c0, d0]
    repeat refine ⟨by omega, ?_⟩
    refine hK _ ?_; clear hK K
    refine awp_forget [0, 1, 5, 7, 8, 16] (by simp only [restr, List.contains_cons, List.contains_nil, Nat.reduceBEq, Bool.or_false, Bool.or_true, Bool.true_or, Bool.false_or, if_true, if_false, Bool.false_eq_true]; rfl) ?_
    refine awp_cond rfl (fun c1 => ?_) (fun c1 => ?_)
    · have d1 := c1; try simp at d1
      refine awp_reg_seq fun K hK => ?_
      simp [go_sem, c0, d0, c1, d1]
      repeat refine ⟨by omega, ?_⟩
      refine hK _ ?_; clear hK K
      refine awp_ret ?_
      simp [go_sem, Try.results30, hx, c0, d0, c1, d1] <;> omega
    · have d1 := c1; try simp at d1
      refine awp_skip ?_
      refine awp_reg_end fun K hK => ?_
      simp [go_sem, c0, d0, c1, d1]
      try simp (disch := omega) only [wrapI]
      repeat refine ⟨by omega, ?_⟩
      refine hK _ ?_; clear hK K
      refine ⟨i + 1, back_of' (by simp) (.refl _) (by (simp [go_sem, wrap_succ (i := i) (by omega), c0, d0, c1, d1] <;> omega)), ⟨by omega, by rw [hx, c1]; simp⟩, by first | omega | (dsimp only; omega)⟩
  · have d0 := c0; try simp at d0
    rw [drop_all d0, idxFrom] at hx
    refine awp_exit ?_
    refine awp_reg_seq fun K hK => ?_
    simp [go_sem, c0, d0]
    repeat refine ⟨by omega, ?_⟩
    refine hK _ ?_; clear hK K
    refine awp_ret ?_
    simp [go_sem, Try.results30, hx, c0, d0] <;> omega

theorem deleteRule_cs (σ : List Blk) (τ : List Blk) (n : Nat) (g : Nat → Rule) (f : FuncId) (cap : List AV) (p : Rule → Bool) (hn : n < 1000000000) (hf : ∀ (h : Nat → Rule) (r : Rule) (υ : List Blk), CSF Try.prog f (.agg (r.enc.map .d) :: cap) (σ ++ .arr 6 n (fun i => Rule.enc (h i)) :: (τ ++ υ)) (.d (B (p r)))) : CS Try.prog 62 [.ms σ.length 6 0 n, .clo (.func f) [] cap] (σ ++ .arr 6 n (fun i => Rule.enc (g i)) :: τ) (fun r σ' X' => X' = [] ∧ r = .ms σ.length 6 0 (kept p g n).length ∧ σ' = σ ++ .arr 6 (kept p g n).length (fun i => Rule.enc (nth (kept p g n) i)) :: τ) := by
  have hlen := kept_len p g
  refine CS.of_bodyD [] T.en62 Try.func62 rfl (by simp [Try.ntmps62]) fun hwf => ?_
  refine awp_reg_seq fun K hK => ?_
  simp [go_sem, Try.ntmps62]
  repeat refine ⟨by omega, ?_⟩
  refine hK _ ?_; clear hK K
  refine awp_reg_seq fun K hK => ?_
  simp [go_sem]
  repeat refine ⟨by omega, ?_⟩
  refine CSk.mk (indexRuleM_cs σ τ n g f cap p hn (fun i hi => by simpa using hf g (g i) [])) ?_
  simp [go_sem]
  repeat refine ⟨by omega, ?_⟩
  refine hK _ ?_; clear hK K
  refine awp_seq ?_
  refine awp_reg_seq fun K hK => ?_
  simp [go_sem]
  repeat refine ⟨by omega, ?_⟩
  refine hK _ ?_; clear hK K
  refine awp_forget [0, 1, 5, 12] (by simp only [restr, List.contains_cons, List.contains_nil, Nat.reduceBEq, Bool.or_false, Bool.or_true, Bool.true_or, Bool.false_or, if_true, if_false, Bool.false_eq_true]; rfl) ?_
  refine awp_cond rfl (fun c0 => ?_) (fun c0 => ?_)
  · have d0 := c0; try simp at d0
    have hk := idx_none d0
    have hkl : (kept p g n).length = n := by rw [hk, lst_length]
    refine awp_reg_seq fun K hK => ?_
    simp [go_sem, c0, d0]
    repeat refine ⟨by omega, ?_⟩
    refine hK _ ?_; clear hK K
    refine awp_shrink σ.length (kept p g n).length (fun i => Rule.enc (nth (kept p g n) i)) (by simp [go_sem]; first | exact ⟨rfl, rfl, rfl⟩ | exact ⟨rfl, rfl⟩ | rfl) (by omega) (by exact fun i hi => by rw [hk, nth_lst (by omega)]; rfl) (by simp [go_sem]; rfl) ?_
    refine awp_ret ?_
    simp [go_sem, Try.results62, hkl]
    exact leaves_app (by simp [go_sem])
  · have d0 := c0; try simp at d0
    obtain ⟨i0, hi0, he, hk0⟩ := idx_kept d0
    refine awp_skip ?_
    refine awp_seq ?_
    refine awp_reg_seq fun K hK => ?_
    simp [go_sem, c0, d0, he]
    try simp (disch := omega) only [wrapI]
    repeat refine ⟨by omega, ?_⟩
    refine hK _ ?_; clear hK K
    refine awp_block ?_
    refine awp_forget [0, 1, 5, 6] (by simp [go_sem, restr]; rfl) ?_
    refine awp_loopU (α := Nat × (Nat → Rule)) (fun x => [(5, .d (I ((kept p g x.1).length : Nat))), (6, .d (I x.1))]) (fun x => σ ++ .arr 6 n (fun i => Rule.enc (x.2 i)) :: τ) (fun x => x.1 ≤ n ∧ (kept p g x.1).length < x.1 ∧ (∀ q, q < (kept p g x.1).length → x.2 q = nth (kept p g x.1) q) ∧ ∀ q, x.1 ≤ q → x.2 q = g q) (fun x => n - x.1) (i0 + 1, g) (by simp [go_sem, hk0, he, lst_length]) rfl (⟨by dsimp only; omega, by dsimp only; rw [hk0, lst_length]; omega, by dsimp only; rw [hk0, lst_length]; intro q hq; rw [nth_lst hq], fun q _ => rfl⟩) ?_
    rintro ⟨j, h⟩ ⟨hj, hc, h1, h2⟩
    dsimp only at hj hc h1 h2
    refine awp_seq ?_
    refine awp_reg_seq fun K hK => ?_
    simp [go_sem, c0, d0, he]
    repeat refine ⟨by omega, ?_⟩
    refine hK _ ?_; clear hK K
    refine awp_forget [0, 1, 5, 6, 19] (by simp only [restr, List.contains_cons, List.contains_nil, Nat.reduceBEq, Bool.or_false, Bool.or_true, Bool.true_or, Bool.false_or, if_true, if_false, Bool.false_eq_true]; rfl) ?_
    refine awp_cond rfl (fun c1 => ?_) (fun c1 => ?_)
    · have d1 := c1; try simp at d1
      have hlj := hlen j
      refine awp_skip ?_
      refine awp_seq ?_
      refine awp_block ?_
      refine awp_reg_seq fun K hK => ?_
      simp [go_sem, c0, d0, he, c1, d1]
      repeat refine ⟨by omega, ?_⟩
      refine hK _ ?_; clear hK K
      refine awp_reg_seq fun K hK => ?_
      simp [go_sem, c0, d0, he, c1, d1]
      repeat refine ⟨by omega, ?_⟩
      refine CSk.mk (hf h (h j) _) ?_
      simp [go_sem, c0, d0, he, c1, d1]
      repeat refine ⟨by omega, ?_⟩
      refine hK _ ?_; clear hK K
      refine awp_forget [0, 1, 5, 6, 7, 29] (by simp only [restr, List.contains_cons, List.contains_nil, Nat.reduceBEq, Bool.or_false, Bool.or_true, Bool.true_or, Bool.false_or, if_true, if_false, Bool.false_eq_true]; rfl) ?_
      refine awp_cond rfl (fun c2 => ?_) (fun c2 => ?_)
      · have d2 := c2; try simp at d2
        have hks : kept p g (j + 1) = kept p g j ++ [g j] := by rw [kept_succ, if_neg]; rw [← h2 j (Nat.le_refl _)]; simp [d2]
        refine awp_reg_seq fun K hK => ?_
        simp [go_sem, c0, d0, he, c1, d1, c2, d2, hks]
        repeat refine ⟨by omega, ?_⟩
        refine hK _ ?_; clear hK K
        refine awp_reg_end fun K hK => ?_
        simp [go_sem, c0, d0, he, c1, d1, c2, d2, hks]
        try simp (disch := omega) only [wrapI]
        repeat refine ⟨by omega, ?_⟩
        refine hK _ ?_; clear hK K
        refine awp_rows σ.length (fun q => Rule.enc (if q = (kept p g j).length then h j else h q)) (by simp [go_sem]; first | exact ⟨rfl, rfl, rfl⟩ | exact ⟨rfl, rfl⟩ | rfl) (by exact fun i hi => by split <;> rfl) (by simp [go_sem]; rfl) ?_
        refine awp_reg_end fun K hK => ?_
        simp [go_sem, c0, d0, he, c1, d1, c2, d2, hks]
        try simp (disch := omega) only [wrapI]
        repeat refine ⟨by omega, ?_⟩
        refine hK _ ?_; clear hK K
        refine ⟨(j + 1, fun q => if q = (kept p g j).length then h j else h q), back_of' (by simp [go_sem, wrap_succ (i := j) (by omega), c0, d0, he, c1, d1, c2, d2, hks]) ((leaves_app (by simp [go_sem]))) (by (simp [go_sem, wrap_succ (i := j) (by omega), c0, d0, he, c1, d1, c2, d2, hks] <;> omega)), ⟨by dsimp only; omega, by dsimp only; rw [hks]; simp; omega, by
            dsimp only; rw [hks]; intro q hq; rw [nth_app]; simp only [List.length_append, List.length_singleton] at hq
            by_cases e : q = (kept p g j).length
            · rw [if_pos e, if_neg (by omega), if_pos e, h2 j (Nat.le_refl _)]
            · rw [if_neg e, if_pos (by omega)]; exact h1 q (by omega), by
            dsimp only; intro q hq; rw [if_neg (by omega)]; exact h2 q (by omega)⟩, by first | omega | (dsimp only; omega)⟩
      · have d2 := c2; try simp at d2
        have hks : kept p g (j + 1) = kept p g j := by rw [kept_succ, if_pos]; rw [← h2 j (Nat.le_refl _)]; exact d2
        refine awp_skip ?_
        refine awp_reg_end fun K hK => ?_
        simp [go_sem, c0, d0, he, c1, d1, c2, d2, hks]
        try simp (disch := omega) only [wrapI]
        repeat refine ⟨by omega, ?_⟩
        refine hK _ ?_; clear hK K
        refine ⟨(j + 1, h), back_of' (by simp [go_sem, wrap_succ (i := j) (by omega), c0, d0, he, c1, d1, c2, d2, hks]) ((leaves_app (by simp [go_sem]))) (by (simp [go_sem, wrap_succ (i := j) (by omega), c0, d0, he, c1, d1, c2, d2, hks] <;> omega)), ⟨by dsimp only; omega, by dsimp only; rw [hks]; omega, by dsimp only; rw [hks]; exact h1, by dsimp only; intro q hq; exact h2 q (by omega)⟩, by first | omega | (dsimp only; omega)⟩
    · have d1 := c1; try simp at d1
      obtain rfl : j = n := by omega
      refine awp_exit ?_
      refine awp_reg_seq fun K hK => ?_
      simp [go_sem, c0, d0, he, c1, d1]
      repeat refine ⟨by omega, ?_⟩
      refine hK _ ?_; clear hK K
      refine awp_reg_seq fun K hK => ?_
      simp [go_sem, c0, d0, he, c1, d1]
      repeat refine ⟨by omega, ?_⟩
      refine hK _ ?_; clear hK K
      refine awp_shrink σ.length (kept p g j).length (fun i => Rule.enc (nth (kept p g j) i)) (by simp [go_sem]; first | exact ⟨rfl, rfl, rfl⟩ | exact ⟨rfl, rfl⟩ | rfl) (by omega) (by exact fun i hi => by rw [setRows, if_neg (by omega), h1 i hi]; rfl) (by simp [go_sem]; rfl) ?_
      refine awp_ret ?_
      simp [go_sem, Try.results62]
      exact leaves_app (by simp [go_sem])

theorem closure_closing_1_cs (σ : List Blk) (υ : List Blk) (r : Rule) (k : Int) : CSF Try.prog 63 [.agg (r.enc.map .d), .ptr σ.length 0] (σ ++ .var [.d (I k)] :: υ) (.d (B (r.Class != k))) := by
  refine CSF.of_body T.en63 Try.func63 rfl (by simp [Try.ntmps63]) (by simp [go_sem]) fun hwf => ?_
  refine awp_reg_seq fun K hK => ?_
  simp [go_sem, Try.ntmps63]
  repeat refine ⟨by omega, ?_⟩
  refine hK _ ?_; clear hK K
  refine awp_reg_seq fun K hK => ?_
  simp [go_sem]
  repeat refine ⟨by omega, ?_⟩
  refine hK _ ?_; clear hK K
  refine awp_ret ?_
  simp [go_sem, Try.results63] <;> omega

end Go.Proofs.Ytplpklikapkloaa
