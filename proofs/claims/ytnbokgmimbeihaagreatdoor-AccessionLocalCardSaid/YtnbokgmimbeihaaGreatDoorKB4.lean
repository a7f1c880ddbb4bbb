/- Contracts and lemmas (Cd, Sm, Ce, Cf, Cg, Ch, Ci, Axo, Cj, Ck, Cl, Cn, Co), joined out of smaller texts by a program; no conditions. -/
import Derived.Test.YtnbokgmimbeihaaGreatDoorKB3
import Derived.Shelf.SlGeneric
import Derived.Shelf.SlSortCmp.WholeK
import Derived.Ground.SlsfProg
import Derived.Test.YtnbokgmimbeihaaGreatDoorProg
import Derived.StillTailTactics
import Derived.Handy
import Derived.Lib.ItoaNum
import Derived.Laws.IdiomStrings
import Derived.Shelf.Strings.Repeat
import Derived.Shelf.Strconv.Itoa3
/-! Cd -/
namespace Go.Proofs.YtnbokgmimbeihaaGreatDoor
open Go.Abs Go.Arch
set_option linter.unusedVariables false
set_option linter.unusedSimpArgs false
set_option maxRecDepth 100000
set_option maxHeartbeats 1000000

def kept {α : Type} (p : α → Bool) (g : Nat → α) (j : Nat) : List α := (lst j g).filter fun r => !p r
theorem kept_succ {α : Type} (p : α → Bool) (g : Nat → α) (j : Nat) : kept p g (j + 1) = if p (g j) = true then kept p g j else kept p g j ++ [g j] := by
  unfold kept; rw [lst_succ, List.filter_append]
  by_cases h : p (g j) = true <;> simp [h]
theorem kept_len {α : Type} (p : α → Bool) (g : Nat → α) (j : Nat) : (kept p g j).length ≤ j := by
  unfold kept; have := List.length_filter_le (fun r => !p r) (lst j g); rw [lst_length] at this; exact this
theorem idx_kept {α : Type} {p : α → Bool} {g : Nat → α} {n : Nat} (h : idxFrom p (lst n g) 0 ≠ -1) : ∃ i0 : Nat, i0 < n ∧ idxFrom p (lst n g) 0 = (i0 : Int) ∧ kept p g (i0 + 1) = lst i0 g := by
  rcases idx_spec p (lst n g) 0 with ⟨h1, _⟩ | ⟨q, h1, h2, x, h3, h4, h5⟩
  · exact absurd h1 h
  · rw [lst_length] at h1
    refine ⟨q, h1, by rw [h2]; simp, ?_⟩
    rw [lst_get h1] at h3
    cases h3
    rw [kept_succ, if_pos h4]
    unfold kept
    rw [List.filter_eq_self]
    intro y hy
    simp only [lst, List.mem_map, List.mem_range] at hy
    obtain ⟨r, hr, rfl⟩ := hy
    have := h5 r (g r) hr (lst_get (by omega))
    simp [this]
theorem idx_none {α : Type} {p : α → Bool} {g : Nat → α} {n : Nat} (h : idxFrom p (lst n g) 0 = -1) : kept p g n = lst n g := by
  rcases idx_spec p (lst n g) 0 with ⟨_, h1⟩ | ⟨q, _, h2, _⟩
  · unfold kept; rw [List.filter_eq_self]; intro x hx; simp [h1 x hx]
  · omega

theorem bsLoop_step {p : Nat → Int} {lo hi : Nat} (h : lo < hi) : bsLoop p lo hi = if p ((lo + hi) / 2) < 0 then bsLoop p ((lo + hi) / 2 + 1) hi else bsLoop p lo ((lo + hi) / 2) := by rw [bsLoop, if_pos h]
theorem bsLoop_done {p : Nat → Int} {lo hi : Nat} (h : ¬ lo < hi) : bsLoop p lo hi = lo := by rw [bsLoop, if_neg h]


theorem equalInt_cs (σ : List Blk) (c c' : Option Nat) (n m : Nat) (f g : Nat → Int) (hn : n < 1000000000) (hm : m < 1000000000) : CSF Tryz.prog 22 [.d (SL c 1 encI n f), .d (SL c' 1 encI m g)] σ (.d (B (eqL (lst n f) (lst m g)))) := by
  refine CSF.of_body T.en22 Tryz.func22 rfl (by simp [Tryz.ntmps22]) (by simp [go_sem]) fun hwf => ?_
  refine awp_reg_seq fun K hK => ?_
  simp [go_sem, Tryz.ntmps22]
  repeat refine ⟨by omega, ?_⟩
  refine hK _ ?_; clear hK K
  refine awp_seq ?_
  refine awp_reg_seq fun K hK => ?_
  simp [go_sem]
  repeat refine ⟨by omega, ?_⟩
  refine hK _ ?_; clear hK K
  refine awp_forget [0, 1, 10] (by simp only [restr, List.contains_cons, List.contains_nil, Nat.reduceBEq, Bool.or_false, Bool.or_true, Bool.true_or, Bool.false_or, if_true, if_false, Bool.false_eq_true]; rfl) ?_
  refine awp_cond rfl (fun c0 => ?_) (fun c0 => ?_)
  · have d0 := c0; try simp at d0
    have hz : eqL (lst n f) (lst m g) = false := eqL_len (by omega)
    refine awp_reg_seq fun K hK => ?_
    simp [go_sem, c0, d0]
    repeat refine ⟨by omega, ?_⟩
    refine hK _ ?_; clear hK K
    refine awp_ret ?_
    rw [hz]; simp [go_sem, Tryz.results22]
  · have d0 := c0; try simp at d0
    refine awp_skip ?_
    refine awp_seq ?_
    refine awp_reg_seq fun K hK => ?_
    simp [go_sem, c0, d0]
    repeat refine ⟨by omega, ?_⟩
    refine hK _ ?_; clear hK K
    refine awp_block ?_
    refine awp_forget [0, 1, 12, 13] (by simp [go_sem, restr]; rfl) ?_
    refine awp_loopU (α := Nat) (fun i => [(13, .d (I i))]) (fun i => _) (fun i => i ≤ n ∧ ∀ q, q < i → f q = g q) (fun i => n - i) 0 (by simp [go_sem]) (rfl) (by simp) ?_
    rintro i ⟨hi, hx⟩
    refine awp_reg_seq fun K hK => ?_
    simp [go_sem, c0, d0]
    repeat refine ⟨by omega, ?_⟩
    refine hK _ ?_; clear hK K
    refine awp_seq ?_
    refine awp_forget [0, 1, 12, 13, 14] (by simp only [restr, List.contains_cons, List.contains_nil, Nat.reduceBEq, Bool.or_false, Bool.or_true, Bool.true_or, Bool.false_or, if_true, if_false, Bool.false_eq_true]; rfl) ?_
    refine awp_cond rfl (fun c1 => ?_) (fun c1 => ?_)
    · have d1 := c1; try simp at d1
      refine awp_skip ?_
      refine awp_seq ?_
      refine awp_block ?_
      refine awp_reg_seq fun K hK => ?_
      simp [go_sem, c0, d0, c1, d1]
      repeat refine ⟨by omega, ?_⟩
      refine hK _ ?_; clear hK K
      refine awp_draw_seq 9 T.mixed (by kernel_rfl) fun K hK => ?_
      simp [go_sem, c0, d0, c1, d1]
      repeat refine ⟨by omega, ?_⟩
      refine hK _ ?_; clear hK K
      refine awp_forget [0, 1, 12, 13, 24] (by simp only [restr, List.contains_cons, List.contains_nil, Nat.reduceBEq, Bool.or_false, Bool.or_true, Bool.true_or, Bool.false_or, if_true, if_false, Bool.false_eq_true]; rfl) ?_
      refine awp_cond rfl (fun c2 => ?_) (fun c2 => ?_)
      · have d2 := c2; try simp at d2
        have hz : eqL (lst n f) (lst m g) = false := eqL_at (i := i) (by omega) (by omega) (fun h => by simp [h] at d2)
        refine awp_reg_seq fun K hK => ?_
        simp [go_sem, c0, d0, c1, d1, c2, d2]
        repeat refine ⟨by omega, ?_⟩
        refine hK _ ?_; clear hK K
        refine awp_ret ?_
        rw [hz]; simp [go_sem, Tryz.results22]
      · have d2 := c2; try simp at d2
        have heq : f i = g i := by
          revert c2; rcases f i with _; rcases g i with _; simp <;> (intros; simp_all)
        refine awp_skip ?_
        refine awp_reg_end fun K hK => ?_
        simp [go_sem, c0, d0, c1, d1, c2, d2]
        try simp (disch := omega) only [wrapI]
        repeat refine ⟨by omega, ?_⟩
        refine hK _ ?_; clear hK K
        refine ⟨i + 1, back_of' (by simp) (.refl _) (by (simp [go_sem, wrap_succ (i := i) (by omega), c0, d0, c1, d1, c2, d2] <;> omega)), ⟨by omega, fun q hq => by rcases Nat.lt_or_eq_of_le (Nat.le_of_lt_succ hq) with h | h; exact hx q h; rw [h]; exact heq⟩, by first | omega | (dsimp only; omega)⟩
    · have d1 := c1; try simp at d1
      have hz : eqL (lst n f) (lst m g) = true := eqL_yes (by omega) (fun q hq => hx q (by omega))
      refine awp_exit ?_
      refine awp_reg_seq fun K hK => ?_
      simp [go_sem, c0, d0, c1, d1]
      repeat refine ⟨by omega, ?_⟩
      refine hK _ ?_; clear hK K
      refine awp_ret ?_
      rw [hz]; simp [go_sem, Tryz.results22]

theorem equalDif_cs (σ : List Blk) (c c' : Option Nat) (n m : Nat) (f g : Nat → Dif) (hn : n < 1000000000) (hm : m < 1000000000) : CSF Tryz.prog 21 [.d (SL c 2 Dif.enc n f), .d (SL c' 2 Dif.enc m g)] σ (.d (B (eqL (lst n f) (lst m g)))) := by
  refine CSF.of_body T.en21 Tryz.func21 rfl (by simp [Tryz.ntmps21]) (by simp [go_sem]) fun hwf => ?_
  refine awp_reg_seq fun K hK => ?_
  simp [go_sem, Tryz.ntmps21]
  repeat refine ⟨by omega, ?_⟩
  refine hK _ ?_; clear hK K
  refine awp_seq ?_
  refine awp_reg_seq fun K hK => ?_
  simp [go_sem]
  repeat refine ⟨by omega, ?_⟩
  refine hK _ ?_; clear hK K
  refine awp_forget [0, 1, 10] (by simp only [restr, List.contains_cons, List.contains_nil, Nat.reduceBEq, Bool.or_false, Bool.or_true, Bool.true_or, Bool.false_or, if_true, if_false, Bool.false_eq_true]; rfl) ?_
  refine awp_cond rfl (fun c0 => ?_) (fun c0 => ?_)
  · have d0 := c0; try simp at d0
    have hz : eqL (lst n f) (lst m g) = false := eqL_len (by omega)
    refine awp_reg_seq fun K hK => ?_
    simp [go_sem, c0, d0]
    repeat refine ⟨by omega, ?_⟩
    refine hK _ ?_; clear hK K
    refine awp_ret ?_
    rw [hz]; simp [go_sem, Tryz.results21]
  · have d0 := c0; try simp at d0
    refine awp_skip ?_
    refine awp_seq ?_
    refine awp_reg_seq fun K hK => ?_
    simp [go_sem, c0, d0]
    repeat refine ⟨by omega, ?_⟩
    refine hK _ ?_; clear hK K
    refine awp_block ?_
    refine awp_forget [0, 1, 12, 13] (by simp [go_sem, restr]; rfl) ?_
    refine awp_loopU (α := Nat) (fun i => [(13, .d (I i))]) (fun i => _) (fun i => i ≤ n ∧ ∀ q, q < i → f q = g q) (fun i => n - i) 0 (by simp [go_sem]) (rfl) (by simp) ?_
    rintro i ⟨hi, hx⟩
    refine awp_reg_seq fun K hK => ?_
    simp [go_sem, c0, d0]
    repeat refine ⟨by omega, ?_⟩
    refine hK _ ?_; clear hK K
    refine awp_seq ?_
    refine awp_forget [0, 1, 12, 13, 14] (by simp only [restr, List.contains_cons, List.contains_nil, Nat.reduceBEq, Bool.or_false, Bool.or_true, Bool.true_or, Bool.false_or, if_true, if_false, Bool.false_eq_true]; rfl) ?_
    refine awp_cond rfl (fun c1 => ?_) (fun c1 => ?_)
    · have d1 := c1; try simp at d1
      refine awp_skip ?_
      refine awp_seq ?_
      refine awp_block ?_
      refine awp_reg_seq fun K hK => ?_
      simp [go_sem, c0, d0, c1, d1]
      repeat refine ⟨by omega, ?_⟩
      refine hK _ ?_; clear hK K
      refine awp_draw_seq 9 T.mixed (by kernel_rfl) fun K hK => ?_
      simp [go_sem, c0, d0, c1, d1]
      repeat refine ⟨by omega, ?_⟩
      refine hK _ ?_; clear hK K
      refine awp_forget [0, 1, 12, 13, 24] (by simp only [restr, List.contains_cons, List.contains_nil, Nat.reduceBEq, Bool.or_false, Bool.or_true, Bool.true_or, Bool.false_or, if_true, if_false, Bool.false_eq_true]; rfl) ?_
      refine awp_cond rfl (fun c2 => ?_) (fun c2 => ?_)
      · have d2 := c2; try simp at d2
        have hz : eqL (lst n f) (lst m g) = false := eqL_at (i := i) (by omega) (by omega) (fun h => by simp [h] at d2)
        refine awp_reg_seq fun K hK => ?_
        simp [go_sem, c0, d0, c1, d1, c2, d2]
        repeat refine ⟨by omega, ?_⟩
        refine hK _ ?_; clear hK K
        refine awp_ret ?_
        rw [hz]; simp [go_sem, Tryz.results21]
      · have d2 := c2; try simp at d2
        have heq : f i = g i := by
          revert c2; rcases f i with ⟨_,_⟩; rcases g i with ⟨_,_⟩; simp <;> (intros; simp_all)
        refine awp_skip ?_
        refine awp_reg_end fun K hK => ?_
        simp [go_sem, c0, d0, c1, d1, c2, d2]
        try simp (disch := omega) only [wrapI]
        repeat refine ⟨by omega, ?_⟩
        refine hK _ ?_; clear hK K
        refine ⟨i + 1, back_of' (by simp) (.refl _) (by (simp [go_sem, wrap_succ (i := i) (by omega), c0, d0, c1, d1, c2, d2] <;> omega)), ⟨by omega, fun q hq => by rcases Nat.lt_or_eq_of_le (Nat.le_of_lt_succ hq) with h | h; exact hx q h; rw [h]; exact heq⟩, by first | omega | (dsimp only; omega)⟩
    · have d1 := c1; try simp at d1
      have hz : eqL (lst n f) (lst m g) = true := eqL_yes (by omega) (fun q hq => hx q (by omega))
      refine awp_exit ?_
      refine awp_reg_seq fun K hK => ?_
      simp [go_sem, c0, d0, c1, d1]
      repeat refine ⟨by omega, ?_⟩
      refine hK _ ?_; clear hK K
      refine awp_ret ?_
      rw [hz]; simp [go_sem, Tryz.results21]

theorem cloneRec_cs (σ : List Blk) (c : Option Nat) (n : Nat) (g : Nat → Rec) (hn : n < 1000000000) : CSF Tryz.prog 29 [.d (SL c 3 Rec.enc n g)] σ (.d (SL none 3 Rec.enc n g)) := by
  refine CSF.of_body T.en29 Tryz.func29 rfl (by simp [Tryz.ntmps29]) (by simp [go_sem]) fun hwf => ?_
  refine awp_reg_seq fun K hK => ?_
  simp [go_sem, Tryz.ntmps29]
  repeat refine ⟨by omega, ?_⟩
  refine hK _ ?_; clear hK K
  refine awp_seq ?_
  refine awp_reg_seq fun K hK => ?_
  simp [go_sem, -Bool.forall_bool]
  intro b1 hb1
  repeat refine ⟨by omega, ?_⟩
  refine hK _ ?_; clear hK K
  refine awp_cond rfl (fun c0 => ?_) (fun c0 => ?_)
  · have d0 := c0; try simp at d0
    refine awp_reg_seq fun K hK => ?_
    simp [go_sem, c0, d0]
    repeat refine ⟨by omega, ?_⟩
    refine hK _ ?_; clear hK K
    refine awp_ret ?_
    have := hb1 c0
    simp [go_sem, Tryz.results29, this]
  · have d0 := c0; try simp at d0
    refine awp_skip ?_
    refine awp_reg_seq fun K hK => ?_
    simp [go_sem, c0, d0, hwf.one, hwf.zero]
    repeat refine ⟨by omega, ?_⟩
    refine hK _ ?_; clear hK K
    refine awp_freeze (σ.length) (by simp [go_sem]; first | exact ⟨rfl, rfl, rfl⟩ | exact ⟨rfl, rfl⟩ | rfl) (by simp [go_sem]; rfl) (by simp [go_sem, hwf.frz, hwf.frz0]; rfl) ?_
    refine awp_ret ?_
    simp [go_sem, Tryz.results29, c0, d0] <;> omega

theorem cloneRecM_cs (σ : List Blk) (c : Option Nat) (n : Nat) (g : Nat → Rec) (hn : n < 1000000000) : CS Tryz.prog 29 [.d (SL c 3 Rec.enc n g)] σ (fun r σ' X => r = .ms σ.length 3 0 n ∧ σ' = σ ++ [.arr 3 n fun i => Rec.enc (g i)] ∧ X = []) := by
  refine CS.of_bodyW T.en29 Tryz.func29 rfl (by simp [Tryz.ntmps29]) fun hwf => ?_
  refine awp_reg_seq fun K hK => ?_
  simp [go_sem, Tryz.ntmps29]
  repeat refine ⟨by omega, ?_⟩
  refine hK _ ?_; clear hK K
  refine awp_seq ?_
  refine awp_reg_seq fun K hK => ?_
  simp [go_sem, -Bool.forall_bool]
  intro b1 hb1
  repeat refine ⟨by omega, ?_⟩
  refine hK _ ?_; clear hK K
  refine awp_cond rfl (fun c0 => ?_) (fun c0 => ?_)
  · have d0 := c0; try simp at d0
    refine awp_reg_seq fun K hK => ?_
    simp [go_sem, c0, d0]
    repeat refine ⟨by omega, ?_⟩
    refine hK _ ?_; clear hK K
    refine awp_thawT 2 3 (fun i => Rec.enc (g i)) (by simp [go_sem]) (by simp [go_sem]; rfl) ?_
    refine awp_ret ?_
    obtain rfl := hb1 c0
    simp [go_sem, Tryz.results29]
  · have d0 := c0; try simp at d0
    refine awp_skip ?_
    refine awp_reg_seq fun K hK => ?_
    simp [go_sem, c0, d0, hwf.one, hwf.zero]
    repeat refine ⟨by omega, ?_⟩
    refine hK _ ?_; clear hK K
    refine awp_ret ?_
    simp [go_sem, Tryz.results29, c0, d0] <;> omega

theorem cloneDif_cs (σ : List Blk) (c : Option Nat) (n : Nat) (g : Nat → Dif) (hn : n < 1000000000) : CSF Tryz.prog 40 [.d (SL c 2 Dif.enc n g)] σ (.d (SL none 2 Dif.enc n g)) := by
  refine CSF.of_body T.en40 Tryz.func40 rfl (by simp [Tryz.ntmps40]) (by simp [go_sem]) fun hwf => ?_
  refine awp_reg_seq fun K hK => ?_
  simp [go_sem, Tryz.ntmps40]
  repeat refine ⟨by omega, ?_⟩
  refine hK _ ?_; clear hK K
  refine awp_seq ?_
  refine awp_reg_seq fun K hK => ?_
  simp [go_sem, -Bool.forall_bool]
  intro b1 hb1
  repeat refine ⟨by omega, ?_⟩
  refine hK _ ?_; clear hK K
  refine awp_cond rfl (fun c0 => ?_) (fun c0 => ?_)
  · have d0 := c0; try simp at d0
    refine awp_reg_seq fun K hK => ?_
    simp [go_sem, c0, d0]
    repeat refine ⟨by omega, ?_⟩
    refine hK _ ?_; clear hK K
    refine awp_ret ?_
    have := hb1 c0
    simp [go_sem, Tryz.results40, this]
  · have d0 := c0; try simp at d0
    refine awp_skip ?_
    refine awp_reg_seq fun K hK => ?_
    simp [go_sem, c0, d0, hwf.one, hwf.zero]
    repeat refine ⟨by omega, ?_⟩
    refine hK _ ?_; clear hK K
    refine awp_freeze (σ.length) (by simp [go_sem]; first | exact ⟨rfl, rfl, rfl⟩ | exact ⟨rfl, rfl⟩ | rfl) (by simp [go_sem]; rfl) (by simp [go_sem, hwf.frz, hwf.frz0]; rfl) ?_
    refine awp_ret ?_
    simp [go_sem, Tryz.results40, c0, d0] <;> omega

theorem cloneDifM_cs (σ : List Blk) (c : Option Nat) (n : Nat) (g : Nat → Dif) (hn : n < 1000000000) : CS Tryz.prog 40 [.d (SL c 2 Dif.enc n g)] σ (fun r σ' X => r = .ms σ.length 2 0 n ∧ σ' = σ ++ [.arr 2 n fun i => Dif.enc (g i)] ∧ X = []) := by
  refine CS.of_bodyW T.en40 Tryz.func40 rfl (by simp [Tryz.ntmps40]) fun hwf => ?_
  refine awp_reg_seq fun K hK => ?_
  simp [go_sem, Tryz.ntmps40]
  repeat refine ⟨by omega, ?_⟩
  refine hK _ ?_; clear hK K
  refine awp_seq ?_
  refine awp_reg_seq fun K hK => ?_
  simp [go_sem, -Bool.forall_bool]
  intro b1 hb1
  repeat refine ⟨by omega, ?_⟩
  refine hK _ ?_; clear hK K
  refine awp_cond rfl (fun c0 => ?_) (fun c0 => ?_)
  · have d0 := c0; try simp at d0
    refine awp_reg_seq fun K hK => ?_
    simp [go_sem, c0, d0]
    repeat refine ⟨by omega, ?_⟩
    refine hK _ ?_; clear hK K
    refine awp_thawT 2 2 (fun i => Dif.enc (g i)) (by simp [go_sem]) (by simp [go_sem]; rfl) ?_
    refine awp_ret ?_
    obtain rfl := hb1 c0
    simp [go_sem, Tryz.results40]
  · have d0 := c0; try simp at d0
    refine awp_skip ?_
    refine awp_reg_seq fun K hK => ?_
    simp [go_sem, c0, d0, hwf.one, hwf.zero]
    repeat refine ⟨by omega, ?_⟩
    refine hK _ ?_; clear hK K
    refine awp_ret ?_
    simp [go_sem, Tryz.results40, c0, d0] <;> omega

theorem indexDif_cs (σ : List Blk) (c : Option Nat) (n : Nat) (g : Nat → Dif) (f : FuncId) (cap : List AV) (p : Dif → Bool) (hn : n < 1000000000) (hf : ∀ i, i < n → CSF Tryz.prog f (.agg ((g i).enc.map .d) :: cap) σ (.d (B (p (g i))))) : CSF Tryz.prog 70 [.d (SL c 2 Dif.enc n g), .clo (.func f) [] cap] σ (.d (I (idxFrom p (lst n g) 0))) := by
  refine CSF.of_body T.en70 Tryz.func70 rfl (by simp [Tryz.ntmps70]) (by simp [go_sem]) fun hwf => ?_
  refine awp_reg_seq fun K hK => ?_
  simp [go_sem, Tryz.ntmps70]
  repeat refine ⟨by omega, ?_⟩
  refine hK _ ?_; clear hK K
  refine awp_seq ?_
  refine awp_reg_seq fun K hK => ?_
  simp [go_sem]
  repeat refine ⟨by omega, ?_⟩
  refine hK _ ?_; clear hK K
  refine awp_block ?_
  refine awp_forget [0, 1, 7, 8] (by simp [go_sem, restr]; rfl) ?_
  refine awp_loopU (α := Nat) (fun i => [(8, .d (I i))]) (fun i => _) (fun i => i ≤ n ∧ idxFrom p (lst n g) 0 = idxFrom p ((lst n g).drop i) i) (fun i => n - i) 0 (by simp [go_sem]) (rfl) (by simp) ?_
  rintro i ⟨hi, hx⟩
  refine awp_reg_seq fun K hK => ?_
  simp [go_sem]
  repeat refine ⟨by omega, ?_⟩
  refine hK _ ?_; clear hK K
  refine awp_seq ?_
  refine awp_forget [0, 1, 7, 8, 9] (by simp only [restr, List.contains_cons, List.contains_nil, Nat.reduceBEq, Bool.or_false, Bool.or_true, Bool.true_or, Bool.false_or, if_true, if_false, Bool.false_eq_true]; rfl) ?_
  refine awp_cond rfl (fun c0 => ?_) (fun c0 => ?_)
  · have d0 := c0; try simp at d0
    rw [drop_lst d0, idxFrom] at hx
    refine awp_skip ?_
    refine awp_seq ?_
    refine awp_block ?_
    refine awp_reg_seq fun K hK => ?_
    simp [go_sem, c0, d0]
    repeat refine ⟨by omega, ?_⟩
    refine hK _ ?_; clear hK K
    refine awp_reg_seq fun K hK => ?_
    simp [go_sem, c0, d0]
    repeat refine ⟨by omega, ?_⟩
    refine CSk.mk (hf i d0) ?_
    simp [go_sem, c0, d0]
    repeat refine ⟨by omega, ?_⟩
    refine hK _ ?_; clear hK K
    refine awp_forget [0, 1, 5, 7, 8, 16] (by simp only [restr, List.contains_cons, List.contains_nil, Nat.reduceBEq, Bool.or_false, Bool.or_true, Bool.true_or, Bool.false_or, if_true, if_false, Bool.false_eq_true]; rfl) ?_
    refine awp_cond rfl (fun c1 => ?_) (fun c1 => ?_)
    · have d1 := c1; try simp at d1
      refine awp_reg_seq fun K hK => ?_
      simp [go_sem, c0, d0, c1, d1]
      repeat refine ⟨by omega, ?_⟩
      refine hK _ ?_; clear hK K
      refine awp_ret ?_
      simp [go_sem, Tryz.results70, hx, c0, d0, c1, d1] <;> omega
    · have d1 := c1; try simp at d1
      refine awp_skip ?_
      refine awp_reg_end fun K hK => ?_
      simp [go_sem, c0, d0, c1, d1]
      try simp (disch := omega) only [wrapI]
      repeat refine ⟨by omega, ?_⟩
      refine hK _ ?_; clear hK K
      refine ⟨i + 1, back_of' (by simp) (.refl _) (by (simp [go_sem, wrap_succ (i := i) (by omega), c0, d0, c1, d1] <;> omega)), ⟨by omega, by rw [hx, c1]; simp⟩, by first | omega | (dsimp only; omega)⟩
  · have d0 := c0; try simp at d0
    rw [drop_all d0, idxFrom] at hx
    refine awp_exit ?_
    refine awp_reg_seq fun K hK => ?_
    simp [go_sem, c0, d0]
    repeat refine ⟨by omega, ?_⟩
    refine hK _ ?_; clear hK K
    refine awp_ret ?_
    simp [go_sem, Tryz.results70, hx, c0, d0] <;> omega

theorem containsDif_cs (σ : List Blk) (c : Option Nat) (n : Nat) (g : Nat → Dif) (f : FuncId) (cap : List AV) (p : Dif → Bool) (hn : n < 1000000000) (hf : ∀ i, i < n → CSF Tryz.prog f (.agg ((g i).enc.map .d) :: cap) σ (.d (B (p (g i))))) : CSF Tryz.prog 62 [.d (SL c 2 Dif.enc n g), .clo (.func f) [] cap] σ (.d (B ((lst n g).any p))) := by
  refine CSF.of_body T.en62 Tryz.func62 rfl (by simp [Tryz.ntmps62]) (by simp [go_sem]) fun hwf => ?_
  refine awp_reg_seq fun K hK => ?_
  simp [go_sem, Tryz.ntmps62]
  repeat refine ⟨by omega, ?_⟩
  refine hK _ ?_; clear hK K
  refine awp_reg_seq fun K hK => ?_
  simp [go_sem]
  repeat refine ⟨by omega, ?_⟩
  refine CSk.mk (indexDif_cs _ c n g f cap p hn hf) ?_
  simp [go_sem]
  repeat refine ⟨by omega, ?_⟩
  refine hK _ ?_; clear hK K
  refine awp_ret ?_
  simp [go_sem, Tryz.results62, idx_any] <;> omega

theorem indexOf_cs (σ : List Blk) (c : Option Nat) (n : Nat) (g : Nat → Dif) (k : Dif) (hn : n < 1000000000) : CSF Tryz.prog 69 [.d (SL c 2 Dif.enc n g), .agg (k.enc.map .d)] σ (.d (I (idxFrom (fun x => x == k) (lst n g) 0))) := by
  refine CSF.of_body T.en69 Tryz.func69 rfl (by simp [Tryz.ntmps69]) (by simp [go_sem]) fun hwf => ?_
  refine awp_reg_seq fun K hK => ?_
  simp [go_sem, Tryz.ntmps69]
  repeat refine ⟨by omega, ?_⟩
  refine hK _ ?_; clear hK K
  refine awp_seq ?_
  refine awp_reg_seq fun K hK => ?_
  simp [go_sem]
  repeat refine ⟨by omega, ?_⟩
  refine hK _ ?_; clear hK K
  refine awp_block ?_
  refine awp_forget [0, 3, 7, 8] (by simp [go_sem, restr]; rfl) ?_
  refine awp_loopU (α := Nat) (fun i => [(8, .d (I i))]) (fun i => _) (fun i => i ≤ n ∧ idxFrom (fun x => x == k) (lst n g) 0 = idxFrom (fun x => x == k) ((lst n g).drop i) i) (fun i => n - i) 0 (by simp [go_sem]) (rfl) (by simp) ?_
  rintro i ⟨hi, hx⟩
  refine awp_reg_seq fun K hK => ?_
  simp [go_sem]
  repeat refine ⟨by omega, ?_⟩
  refine hK _ ?_; clear hK K
  refine awp_seq ?_
  refine awp_forget [0, 3, 7, 8, 9] (by simp only [restr, List.contains_cons, List.contains_nil, Nat.reduceBEq, Bool.or_false, Bool.or_true, Bool.true_or, Bool.false_or, if_true, if_false, Bool.false_eq_true]; rfl) ?_
  refine awp_cond rfl (fun c0 => ?_) (fun c0 => ?_)
  · have d0 := c0; try simp at d0
    rw [drop_lst d0, idxFrom] at hx
    refine awp_skip ?_
    refine awp_seq ?_
    refine awp_block ?_
    refine awp_reg_seq fun K hK => ?_
    simp [go_sem, c0, d0]
    repeat refine ⟨by omega, ?_⟩
    refine hK _ ?_; clear hK K
    refine awp_draw_seq 6 T.mixed (by kernel_rfl) fun K hK => ?_
    simp [go_sem, c0, d0]
    repeat refine ⟨by omega, ?_⟩
    refine hK _ ?_; clear hK K
    refine awp_forget [0, 3, 5, 7, 8, 16] (by simp only [restr, List.contains_cons, List.contains_nil, Nat.reduceBEq, Bool.or_false, Bool.or_true, Bool.true_or, Bool.false_or, if_true, if_false, Bool.false_eq_true]; rfl) ?_
    refine awp_cond rfl (fun c1 => ?_) (fun c1 => ?_)
    · have d1 := c1; try simp at d1
      have he : g i = k := by revert d1; rcases g i with ⟨a, b⟩; rcases k with ⟨a', b'⟩; simp <;> (intros; simp_all)
      refine awp_reg_seq fun K hK => ?_
      simp [go_sem, c0, d0, c1, d1]
      repeat refine ⟨by omega, ?_⟩
      refine hK _ ?_; clear hK K
      refine awp_ret ?_
      rw [hx, if_pos (by simpa using he)]; simp [go_sem, Tryz.results69]
    · have d1 := c1; try simp at d1
      have hne : g i ≠ k := fun h => by simp [h] at d1
      refine awp_skip ?_
      refine awp_reg_end fun K hK => ?_
      simp [go_sem, c0, d0, c1, d1]
      try simp (disch := omega) only [wrapI]
      repeat refine ⟨by omega, ?_⟩
      refine hK _ ?_; clear hK K
      refine ⟨i + 1, back_of' (by simp) (.refl _) (by (simp [go_sem, wrap_succ (i := i) (by omega), c0, d0, c1, d1] <;> omega)), ⟨by omega, by rw [hx, if_neg (by simp; exact hne)]⟩, by first | omega | (dsimp only; omega)⟩
  · have d0 := c0; try simp at d0
    rw [drop_all d0, idxFrom] at hx
    refine awp_exit ?_
    refine awp_reg_seq fun K hK => ?_
    simp [go_sem, c0, d0]
    repeat refine ⟨by omega, ?_⟩
    refine hK _ ?_; clear hK K
    refine awp_ret ?_
    rw [hx]; simp [go_sem, Tryz.results69]

theorem containsOf_cs (σ : List Blk) (c : Option Nat) (n : Nat) (g : Nat → Dif) (k : Dif) (hn : n < 1000000000) : CSF Tryz.prog 35 [.d (SL c 2 Dif.enc n g), .agg (k.enc.map .d)] σ (.d (B (hasD n g k))) := by
  refine CSF.of_body T.en35 Tryz.func35 rfl (by simp [Tryz.ntmps35]) (by simp [go_sem]) fun hwf => ?_
  refine awp_reg_seq fun K hK => ?_
  simp [go_sem, Tryz.ntmps35]
  repeat refine ⟨by omega, ?_⟩
  refine hK _ ?_; clear hK K
  refine awp_reg_seq fun K hK => ?_
  simp [go_sem]
  repeat refine ⟨by omega, ?_⟩
  refine CSk.mk (indexOf_cs _ c n g k hn) ?_
  simp [go_sem]
  repeat refine ⟨by omega, ?_⟩
  refine hK _ ?_; clear hK K
  refine awp_ret ?_
  have hz : decide (0 ≤ idxFrom (fun x => x == k) (lst n g) 0) = hasD n g k := by rw [idx_any]; rfl
  simp [go_sem, Tryz.results35]
  exact hz

theorem bsRec_cs (σ : List Blk) (c : Option Nat) (n : Nat) (g : Nat → Rec) (u : Int) (f : FuncId) (cap : List AV) (p : Nat → Int) (hn : n < 1000000000) (hf : ∀ i, i < n → CSF Tryz.prog f (.agg ((g i).enc.map .d) :: .d (I u) :: cap) σ (.d (I (p i)))) : CSF Tryz.prog 57 [.d (SL c 3 Rec.enc n g), .d (I u), .clo (.func f) [] cap] σ (.tup [.d (I (bsAt n p)), .d (B (bsIs n p))]) := by
  refine CSF.of_body T.en57 Tryz.func57 rfl (by simp [Tryz.ntmps57]) (by simp [go_sem]) fun hwf => ?_
  refine awp_reg_seq fun K hK => ?_
  simp [go_sem, Tryz.ntmps57]
  repeat refine ⟨by omega, ?_⟩
  refine hK _ ?_; clear hK K
  refine awp_reg_seq fun K hK => ?_
  simp [go_sem]
  repeat refine ⟨by omega, ?_⟩
  refine hK _ ?_; clear hK K
  refine awp_reg_seq fun K hK => ?_
  simp [go_sem]
  repeat refine ⟨by omega, ?_⟩
  refine hK _ ?_; clear hK K
  refine awp_seq ?_
  refine awp_block ?_
  refine awp_forget [0, 1, 2, 8, 9, 10] (by simp [go_sem, restr]; rfl) ?_
  refine awp_loopU (α := Nat × Nat) (fun x => [(9, .d (I x.1)), (10, .d (I x.2))]) (fun x => _) (fun x => x.1 ≤ x.2 ∧ x.2 ≤ n ∧ bsAt n p = bsLoop p x.1 x.2) (fun x => x.2 - x.1) (0, n) (by simp [go_sem]) (rfl) (⟨Nat.zero_le _, Nat.le_refl _, rfl⟩) ?_
  rintro ⟨l, h⟩ ⟨hl, hh, hx⟩
  dsimp only at hl hh hx
  refine awp_seq ?_
  refine awp_reg_seq fun K hK => ?_
  simp [go_sem]
  repeat refine ⟨by omega, ?_⟩
  refine hK _ ?_; clear hK K
  refine awp_forget [0, 1, 2, 8, 9, 10, 17] (by simp only [restr, List.contains_cons, List.contains_nil, Nat.reduceBEq, Bool.or_false, Bool.or_true, Bool.true_or, Bool.false_or, if_true, if_false, Bool.false_eq_true]; rfl) ?_
  refine awp_cond rfl (fun c0 => ?_) (fun c0 => ?_)
  · have d0 := c0; try simp at d0
    rw [bsLoop_step d0] at hx
    obtain ⟨k, hk⟩ : ∃ k, k = (l + h) / 2 := ⟨_, rfl⟩
    have hhalf := half_eq (lo := l) (hi := h) (by omega)
    rw [← hk] at hx hhalf
    have hkb : l ≤ k ∧ k < h := by omega
    have hwk := wrap_succ (i := k) (by omega)
    refine awp_skip ?_
    refine awp_block ?_
    refine awp_reg_seq fun K hK => ?_
    simp [go_sem, c0, d0, hhalf, hwk]
    try simp (disch := omega) only [wrapI]
    repeat refine ⟨by omega, ?_⟩
    refine hK _ ?_; clear hK K
    refine awp_reg_seq fun K hK => ?_
    simp [go_sem, c0, d0, hhalf, hwk]
    repeat refine ⟨by omega, ?_⟩
    refine CSk.mk (hf k (by omega)) ?_
    simp [go_sem, c0, d0, hhalf, hwk]
    repeat refine ⟨by omega, ?_⟩
    refine hK _ ?_; clear hK K
    refine awp_forget [0, 1, 2, 8, 9, 10, 11, 31] (by simp only [restr, List.contains_cons, List.contains_nil, Nat.reduceBEq, Bool.or_false, Bool.or_true, Bool.true_or, Bool.false_or, if_true, if_false, Bool.false_eq_true]; rfl) ?_
    refine awp_cond rfl (fun c1 => ?_) (fun c1 => ?_)
    · have d1 := c1; try simp at d1
      refine awp_reg_end fun K hK => ?_
      simp [go_sem, c0, d0, hhalf, hwk, c1, d1]
      try simp (disch := omega) only [wrapI]
      repeat refine ⟨by omega, ?_⟩
      refine hK _ ?_; clear hK K
      refine ⟨(k + 1, h), back_of' (by simp) (.refl _) (by (simp [go_sem, c0, d0, hhalf, hwk, c1, d1] <;> omega)), ⟨by dsimp only; omega, by dsimp only; omega, by rw [hx, if_pos (by simpa using d1)]⟩, by first | omega | (dsimp only; omega)⟩
    · have d1 := c1; try simp at d1
      refine awp_reg_end fun K hK => ?_
      simp [go_sem, c0, d0, hhalf, hwk, c1, d1]
      repeat refine ⟨by omega, ?_⟩
      refine hK _ ?_; clear hK K
      refine ⟨(l, k), back_of' (by simp) (.refl _) (by (simp [go_sem, c0, d0, hhalf, hwk, c1, d1] <;> omega)), ⟨by dsimp only; omega, by dsimp only; omega, by rw [hx, if_neg (by simpa using d1)]⟩, by first | omega | (dsimp only; omega)⟩
  · have d0 := c0; try simp at d0
    rw [bsLoop_done (by omega)] at hx
    refine awp_exit ?_
    refine awp_reg_seq fun K hK => ?_
    simp [go_sem, c0, d0]
    repeat refine ⟨by omega, ?_⟩
    refine CSm.mk' (.d (I (p l))) (fun hg => hf l (by simpa using hg)) ?_
    simp [go_sem, c0, d0]
    repeat refine ⟨by omega, ?_⟩
    refine hK _ ?_; clear hK K
    refine awp_ret ?_
    simp [go_sem, Tryz.results57, bsIs, hx]

theorem bsDif_cs (σ : List Blk) (c : Option Nat) (n : Nat) (g : Nat → Dif) (d : Dif) (f : FuncId) (cap : List AV) (p : Nat → Int) (hn : n < 1000000000) (hf : ∀ i, i < n → ∀ υ : List Blk, CSF Tryz.prog f (.agg ((g i).enc.map .d) :: .agg (d.enc.map .d) :: cap) (σ ++ υ) (.d (I (p i)))) : CSF Tryz.prog 81 [.d (SL c 2 Dif.enc n g), .agg (d.enc.map .d), .clo (.func f) [] cap] σ (.tup [.d (I (bsAt n p)), .d (B (bsIs n p))]) := by
  refine CSF.of_body T.en81 Tryz.func81 rfl (by simp [Tryz.ntmps81]) (by simp [go_sem]) fun hwf => ?_
  refine awp_reg_seq fun K hK => ?_
  simp [go_sem, Tryz.ntmps81]
  repeat refine ⟨by omega, ?_⟩
  refine hK _ ?_; clear hK K
  refine awp_reg_seq fun K hK => ?_
  simp [go_sem]
  repeat refine ⟨by omega, ?_⟩
  refine hK _ ?_; clear hK K
  refine awp_reg_seq fun K hK => ?_
  simp [go_sem]
  repeat refine ⟨by omega, ?_⟩
  refine hK _ ?_; clear hK K
  refine awp_seq ?_
  refine awp_block ?_
  refine awp_forget [0, 2, 4, 8, 9, 10] (by simp [go_sem, restr]; rfl) ?_
  refine awp_loopU (α := Nat × Nat) (fun x => [(9, .d (I x.1)), (10, .d (I x.2))]) (fun x => _) (fun x => x.1 ≤ x.2 ∧ x.2 ≤ n ∧ bsAt n p = bsLoop p x.1 x.2) (fun x => x.2 - x.1) (0, n) (by simp [go_sem]) (rfl) (⟨Nat.zero_le _, Nat.le_refl _, rfl⟩) ?_
  rintro ⟨l, h⟩ ⟨hl, hh, hx⟩
  dsimp only at hl hh hx
  refine awp_seq ?_
  refine awp_reg_seq fun K hK => ?_
  simp [go_sem]
  repeat refine ⟨by omega, ?_⟩
  refine hK _ ?_; clear hK K
  refine awp_forget [0, 2, 4, 8, 9, 10, 17] (by simp only [restr, List.contains_cons, List.contains_nil, Nat.reduceBEq, Bool.or_false, Bool.or_true, Bool.true_or, Bool.false_or, if_true, if_false, Bool.false_eq_true]; rfl) ?_
  refine awp_cond rfl (fun c0 => ?_) (fun c0 => ?_)
  · have d0 := c0; try simp at d0
    rw [bsLoop_step d0] at hx
    obtain ⟨k, hk⟩ : ∃ k, k = (l + h) / 2 := ⟨_, rfl⟩
    have hhalf := half_eq (lo := l) (hi := h) (by omega)
    rw [← hk] at hx hhalf
    have hkb : l ≤ k ∧ k < h := by omega
    have hwk := wrap_succ (i := k) (by omega)
    refine awp_skip ?_
    refine awp_block ?_
    refine awp_reg_seq fun K hK => ?_
    simp [go_sem, c0, d0, hhalf, hwk]
    try simp (disch := omega) only [wrapI]
    repeat refine ⟨by omega, ?_⟩
    refine hK _ ?_; clear hK K
    refine awp_draw_seq 8 T.mixed (by kernel_rfl) fun K hK => ?_
    simp [go_sem, c0, d0, hhalf, hwk]
    repeat refine ⟨by omega, ?_⟩
    refine CSg.mk (hf k (by omega) [.var (d.enc.map .d)]) ?_
    simp [go_sem, c0, d0, hhalf, hwk]
    repeat refine ⟨by omega, ?_⟩
    refine hK _ ?_; clear hK K
    refine awp_forget [0, 2, 4, 8, 9, 10, 11, 31] (by simp only [restr, List.contains_cons, List.contains_nil, Nat.reduceBEq, Bool.or_false, Bool.or_true, Bool.true_or, Bool.false_or, if_true, if_false, Bool.false_eq_true]; rfl) ?_
    refine awp_cond rfl (fun c1 => ?_) (fun c1 => ?_)
    · have d1 := c1; try simp at d1
      refine awp_reg_end fun K hK => ?_
      simp [go_sem, c0, d0, hhalf, hwk, c1, d1]
      try simp (disch := omega) only [wrapI]
      repeat refine ⟨by omega, ?_⟩
      refine hK _ ?_; clear hK K
      refine ⟨(k + 1, h), back_of' (by simp) (.refl _) (by (simp [go_sem, c0, d0, hhalf, hwk, c1, d1] <;> omega)), ⟨by dsimp only; omega, by dsimp only; omega, by rw [hx, if_pos (by simpa using d1)]⟩, by first | omega | (dsimp only; omega)⟩
    · have d1 := c1; try simp at d1
      refine awp_reg_end fun K hK => ?_
      simp [go_sem, c0, d0, hhalf, hwk, c1, d1]
      repeat refine ⟨by omega, ?_⟩
      refine hK _ ?_; clear hK K
      refine ⟨(l, k), back_of' (by simp) (.refl _) (by (simp [go_sem, c0, d0, hhalf, hwk, c1, d1] <;> omega)), ⟨by dsimp only; omega, by dsimp only; omega, by rw [hx, if_neg (by simpa using d1)]⟩, by first | omega | (dsimp only; omega)⟩
  · have d0 := c0; try simp at d0
    rw [bsLoop_done (by omega)] at hx
    refine awp_exit ?_
    refine awp_draw_seq 15 T.mixed (by kernel_rfl) fun K hK => ?_
    simp [go_sem, c0, d0]
    repeat refine ⟨by omega, ?_⟩
    refine CSg.mk' (.d (I (p l))) (fun hg => hf l (by simpa using hg) _) ?_
    simp [go_sem, c0, d0]
    repeat refine ⟨by omega, ?_⟩
    refine hK _ ?_; clear hK K
    refine awp_ret ?_
    simp [go_sem, Tryz.results81, bsIs, hx]

theorem accession_find_cs (σ : List Blk) (c : Option Nat) (n : Nat) (g : Nat → Dif) (d : Dif) (hn : n < 1000000000) : CSF Tryz.prog 49 [.d (SL c 2 Dif.enc n g), .agg (d.enc.map .d)] σ (.tup [.d (I (bsAt n fun i => ordD (g i) d)), .d (B (bsIs n fun i => ordD (g i) d))]) := by
  refine CSF.of_body T.en49 Tryz.func49 rfl (by simp [Tryz.ntmps49]) (by simp [go_sem]) fun hwf => ?_
  refine awp_reg_seq fun K hK => ?_
  simp [go_sem, Tryz.ntmps49]
  repeat refine ⟨by omega, ?_⟩
  refine hK _ ?_; clear hK K
  refine awp_reg_seq fun K hK => ?_
  simp [go_sem]
  repeat refine ⟨by omega, ?_⟩
  refine CSk.mk (bsDif_cs _ c n g d _ [] (fun i => ordD (g i) d) hn (fun i hi υ => accession_find_1_cs _ (g i) d)) ?_
  simp [go_sem]
  repeat refine ⟨by omega, ?_⟩
  refine hK _ ?_; clear hK K
  refine awp_ret ?_
  simp [go_sem, Tryz.results49] <;> omega

theorem indexDifM_cs (σ : List Blk) (τ : List Blk) (n : Nat) (g : Nat → Dif) (f : FuncId) (cap : List AV) (p : Dif → Bool) (hn : n < 1000000000) (hf : ∀ i, i < n → CSF Tryz.prog f (.agg ((g i).enc.map .d) :: cap) (σ ++ .arr 2 n (fun i => Dif.enc (g i)) :: τ) (.d (B (p (g i))))) : CSF Tryz.prog 70 [.ms σ.length 2 0 n, .clo (.func f) [] cap] (σ ++ .arr 2 n (fun i => Dif.enc (g i)) :: τ) (.d (I (idxFrom p (lst n g) 0))) := by
  refine CSF.of_body T.en70 Tryz.func70 rfl (by simp [Tryz.ntmps70]) (by simp [go_sem]) fun hwf => ?_
  refine awp_reg_seq fun K hK => ?_
  simp [go_sem, Tryz.ntmps70]
  repeat refine ⟨by omega, ?_⟩
  refine hK _ ?_; clear hK K
  refine awp_seq ?_
  refine awp_reg_seq fun K hK => ?_
  simp [go_sem]
  repeat refine ⟨by omega, ?_⟩
  refine hK _ ?_; clear hK K
  refine awp_block ?_
  refine awp_forget [0, 1, 7, 8] (by simp [go_sem, restr]; rfl) ?_
  refine awp_loopU (α := Nat) (fun i => [(8, .d (I i))]) (fun i => _) (fun i => i ≤ n ∧ idxFrom p (lst n g) 0 = idxFrom p ((lst n g).drop i) i) (fun i => n - i) 0 (by simp [go_sem]) (rfl) (by simp) ?_
  rintro i ⟨hi, hx⟩
  refine awp_reg_seq fun K hK => ?_
  simp [go_sem]
  repeat refine ⟨by omega, ?_⟩
  refine hK _ ?_; clear hK K
  refine awp_seq ?_
  refine awp_forget [0, 1, 7, 8, 9] (by simp only [restr, List.contains_cons, List.contains_nil, Nat.reduceBEq, Bool.or_false, Bool.or_true, Bool.true_or, Bool.false_or, if_true, if_false, Bool.false_eq_true]; rfl) ?_
  refine awp_cond rfl (fun c0 => ?_) (fun c0 => ?_)
  · have d0 := c0; try simp at d0
    rw [drop_lst d0, idxFrom] at hx
    refine awp_skip ?_
    refine awp_seq ?_
    refine awp_block ?_
    refine awp_reg_seq fun K hK => ?_
    simp [go_sem, c0, d0]
    repeat refine ⟨by omega, ?_⟩
    refine hK _ ?_; clear hK K
    refine awp_reg_seq fun K hK => ?_
    simp [go_sem, c0, d0]
    repeat refine ⟨by omega, ?_⟩
    refine CSk.mk (hf i d0) ?_
    simp [go_sem, c0, d0]
    repeat refine ⟨by omega, ?_⟩
    refine hK _ ?_; clear hK K
    refine awp_forget [0, 1, 5, 7, 8, 16] (by simp only [restr, List.contains_cons, List.contains_nil, Nat.reduceBEq, Bool.or_false, Bool.or_true, Bool.true_or, Bool.false_or, if_true, if_false, Bool.false_eq_true]; rfl) ?_
    refine awp_cond rfl (fun c1 => ?_) (fun c1 => ?_)
    · have d1 := c1; try simp at d1
      refine awp_reg_seq fun K hK => ?_
      simp [go_sem, c0, d0, c1, d1]
      repeat refine ⟨by omega, ?_⟩
      refine hK _ ?_; clear hK K
      refine awp_ret ?_
      simp [go_sem, Tryz.results70, hx, c0, d0, c1, d1] <;> omega
    · have d1 := c1; try simp at d1
      refine awp_skip ?_
      refine awp_reg_end fun K hK => ?_
      simp [go_sem, c0, d0, c1, d1]
      try simp (disch := omega) only [wrapI]
      repeat refine ⟨by omega, ?_⟩
      refine hK _ ?_; clear hK K
      refine ⟨i + 1, back_of' (by simp) (.refl _) (by (simp [go_sem, wrap_succ (i := i) (by omega), c0, d0, c1, d1] <;> omega)), ⟨by omega, by rw [hx, c1]; simp⟩, by first | omega | (dsimp only; omega)⟩
  · have d0 := c0; try simp at d0
    rw [drop_all d0, idxFrom] at hx
    refine awp_exit ?_
    refine awp_reg_seq fun K hK => ?_
    simp [go_sem, c0, d0]
    repeat refine ⟨by omega, ?_⟩
    refine hK _ ?_; clear hK K
    refine awp_ret ?_
    simp [go_sem, Tryz.results70, hx, c0, d0] <;> omega

theorem deleteDif_cs (σ : List Blk) (τ : List Blk) (n : Nat) (g : Nat → Dif) (f : FuncId) (cap : List AV) (p : Dif → Bool) (hn : n < 1000000000) (hf : ∀ (h : Nat → Dif) (r : Dif) (υ : List Blk), CSF Tryz.prog f (.agg (r.enc.map .d) :: cap) (σ ++ .arr 2 n (fun i => Dif.enc (h i)) :: (τ ++ υ)) (.d (B (p r)))) : CS Tryz.prog 36 [.ms σ.length 2 0 n, .clo (.func f) [] cap] (σ ++ .arr 2 n (fun i => Dif.enc (g i)) :: τ) (fun r σ' X' => X' = [] ∧ r = .ms σ.length 2 0 (kept p g n).length ∧ σ' = σ ++ .arr 2 (kept p g n).length (fun i => Dif.enc (nth (kept p g n) i)) :: τ) := by
  have hlen := kept_len p g
  refine CS.of_bodyD [] T.en36 Tryz.func36 rfl (by simp [Tryz.ntmps36]) fun hwf => ?_
  refine awp_reg_seq fun K hK => ?_
  simp [go_sem, Tryz.ntmps36]
  repeat refine ⟨by omega, ?_⟩
  refine hK _ ?_; clear hK K
  refine awp_reg_seq fun K hK => ?_
  simp [go_sem]
  repeat refine ⟨by omega, ?_⟩
  refine CSk.mk (indexDifM_cs σ τ n g f cap p hn (fun i hi => by simpa using hf g (g i) [])) ?_
  simp [go_sem]
  repeat refine ⟨by omega, ?_⟩
  refine hK _ ?_; clear hK K
  refine awp_seq ?_
  refine awp_reg_seq fun K hK => ?_
  simp [go_sem]
  repeat refine ⟨by omega, ?_⟩
  refine hK _ ?_; clear hK K
  refine awp_forget [0, 1, 5, 12] (by simp only [restr, List.contains_cons, List.contains_nil, Nat.reduceBEq, Bool.or_false, Bool.or_true, Bool.true_or, Bool.false_or, if_true, if_false, Bool.false_eq_true]; rfl) ?_
  refine awp_cond rfl (fun c0 => ?_) (fun c0 => ?_)
  · have d0 := c0; try simp at d0
    have hk := idx_none d0
    have hkl : (kept p g n).length = n := by rw [hk, lst_length]
    refine awp_reg_seq fun K hK => ?_
    simp [go_sem, c0, d0]
    repeat refine ⟨by omega, ?_⟩
    refine hK _ ?_; clear hK K
    refine awp_shrink σ.length (kept p g n).length (fun i => Dif.enc (nth (kept p g n) i)) (by simp [go_sem]; first | exact ⟨rfl, rfl, rfl⟩ | exact ⟨rfl, rfl⟩ | rfl) (by omega) (by exact fun i hi => by rw [hk, nth_lst (by omega)]; rfl) (by simp [go_sem]; rfl) ?_
    refine awp_ret ?_
    simp [go_sem, Tryz.results36, hkl]
    exact leaves_app (by simp [go_sem])
  · have d0 := c0; try simp at d0
    obtain ⟨i0, hi0, he, hk0⟩ := idx_kept d0
    refine awp_skip ?_
    refine awp_seq ?_
    refine awp_reg_seq fun K hK => ?_
    simp [go_sem, c0, d0, he]
    try simp (disch := omega) only [wrapI]
    repeat refine ⟨by omega, ?_⟩
    refine hK _ ?_; clear hK K
    refine awp_block ?_
    refine awp_forget [0, 1, 5, 6] (by simp [go_sem, restr]; rfl) ?_
    refine awp_loopU (α := Nat × (Nat → Dif)) (fun x => [(5, .d (I ((kept p g x.1).length : Nat))), (6, .d (I x.1))]) (fun x => σ ++ .arr 2 n (fun i => Dif.enc (x.2 i)) :: τ) (fun x => x.1 ≤ n ∧ (kept p g x.1).length < x.1 ∧ (∀ q, q < (kept p g x.1).length → x.2 q = nth (kept p g x.1) q) ∧ ∀ q, x.1 ≤ q → x.2 q = g q) (fun x => n - x.1) (i0 + 1, g) (by simp [go_sem, hk0, he, lst_length]) (rfl) (⟨by dsimp only; omega, by dsimp only; rw [hk0, lst_length]; omega, by dsimp only; rw [hk0, lst_length]; intro q hq; rw [nth_lst hq], fun q _ => rfl⟩) ?_
    rintro ⟨j, h⟩ ⟨hj, hc, h1, h2⟩
    dsimp only at hj hc h1 h2
    refine awp_seq ?_
    refine awp_reg_seq fun K hK => ?_
    simp [go_sem, c0, d0, he]
    repeat refine ⟨by omega, ?_⟩
    refine hK _ ?_; clear hK K
    refine awp_forget [0, 1, 5, 6, 19] (by simp only [restr, List.contains_cons, List.contains_nil, Nat.reduceBEq, Bool.or_false, Bool.or_true, Bool.true_or, Bool.false_or, if_true, if_false, Bool.false_eq_true]; rfl) ?_
    refine awp_cond rfl (fun c1 => ?_) (fun c1 => ?_)
    · have d1 := c1; try simp at d1
      have hlj := hlen j
      refine awp_skip ?_
      refine awp_seq ?_
      refine awp_block ?_
      refine awp_reg_seq fun K hK => ?_
      simp [go_sem, c0, d0, he, c1, d1]
      repeat refine ⟨by omega, ?_⟩
      refine hK _ ?_; clear hK K
      refine awp_reg_seq fun K hK => ?_
      simp [go_sem, c0, d0, he, c1, d1]
      repeat refine ⟨by omega, ?_⟩
      refine CSk.mk (hf h (h j) _) ?_
      simp [go_sem, c0, d0, he, c1, d1]
      repeat refine ⟨by omega, ?_⟩
      refine hK _ ?_; clear hK K
      refine awp_forget [0, 1, 5, 6, 7, 29] (by simp only [restr, List.contains_cons, List.contains_nil, Nat.reduceBEq, Bool.or_false, Bool.or_true, Bool.true_or, Bool.false_or, if_true, if_false, Bool.false_eq_true]; rfl) ?_
      refine awp_cond rfl (fun c2 => ?_) (fun c2 => ?_)
      · have d2 := c2; try simp at d2
        have hks : kept p g (j + 1) = kept p g j ++ [g j] := by rw [kept_succ, if_neg]; rw [← h2 j (Nat.le_refl _)]; simp [d2]
        refine awp_reg_seq fun K hK => ?_
        simp [go_sem, c0, d0, he, c1, d1, c2, d2, hks]
        repeat refine ⟨by omega, ?_⟩
        refine hK _ ?_; clear hK K
        refine awp_reg_end fun K hK => ?_
        simp [go_sem, c0, d0, he, c1, d1, c2, d2, hks]
        try simp (disch := omega) only [wrapI]
        repeat refine ⟨by omega, ?_⟩
        refine hK _ ?_; clear hK K
        refine awp_rows σ.length (fun q => Dif.enc (if q = (kept p g j).length then h j else h q)) (by simp [go_sem]; first | exact ⟨rfl, rfl, rfl⟩ | exact ⟨rfl, rfl⟩ | rfl) (by exact fun i hi => by split <;> rfl) (by simp [go_sem]; rfl) ?_
        refine awp_reg_end fun K hK => ?_
        simp [go_sem, c0, d0, he, c1, d1, c2, d2, hks]
        try simp (disch := omega) only [wrapI]
        repeat refine ⟨by omega, ?_⟩
        refine hK _ ?_; clear hK K
        refine ⟨(j + 1, fun q => if q = (kept p g j).length then h j else h q), back_of' (by simp [go_sem, wrap_succ (i := j) (by omega), c0, d0, he, c1, d1, c2, d2, hks]) ((leaves_app (by simp [go_sem]))) (by (simp [go_sem, wrap_succ (i := j) (by omega), c0, d0, he, c1, d1, c2, d2, hks] <;> omega)), ⟨by dsimp only; omega, by dsimp only; rw [hks]; simp; omega, by
            dsimp only; rw [hks]; intro q hq; rw [nth_app]; simp only [List.length_append, List.length_singleton] at hq
            by_cases e : q = (kept p g j).length
            · rw [if_pos e, if_neg (by omega), if_pos e, h2 j (Nat.le_refl _)]
            · rw [if_neg e, if_pos (by omega)]; exact h1 q (by omega), by
            dsimp only; intro q hq; rw [if_neg (by omega)]; exact h2 q (by omega)⟩, by first | omega | (dsimp only; omega)⟩
      · have d2 := c2; try simp at d2
        have hks : kept p g (j + 1) = kept p g j := by rw [kept_succ, if_pos]; rw [← h2 j (Nat.le_refl _)]; exact d2
        refine awp_skip ?_
        refine awp_reg_end fun K hK => ?_
        simp [go_sem, c0, d0, he, c1, d1, c2, d2, hks]
        try simp (disch := omega) only [wrapI]
        repeat refine ⟨by omega, ?_⟩
        refine hK _ ?_; clear hK K
        refine ⟨(j + 1, h), back_of' (by simp [go_sem, wrap_succ (i := j) (by omega), c0, d0, he, c1, d1, c2, d2, hks]) ((leaves_app (by simp [go_sem]))) (by (simp [go_sem, wrap_succ (i := j) (by omega), c0, d0, he, c1, d1, c2, d2, hks] <;> omega)), ⟨by dsimp only; omega, by dsimp only; rw [hks]; omega, by dsimp only; rw [hks]; exact h1, by dsimp only; intro q hq; exact h2 q (by omega)⟩, by first | omega | (dsimp only; omega)⟩
    · have d1 := c1; try simp at d1
      obtain rfl : j = n := by omega
      refine awp_exit ?_
      refine awp_reg_seq fun K hK => ?_
      simp [go_sem, c0, d0, he, c1, d1]
      repeat refine ⟨by omega, ?_⟩
      refine hK _ ?_; clear hK K
      refine awp_reg_seq fun K hK => ?_
      simp [go_sem, c0, d0, he, c1, d1]
      repeat refine ⟨by omega, ?_⟩
      refine hK _ ?_; clear hK K
      refine awp_shrink σ.length (kept p g j).length (fun i => Dif.enc (nth (kept p g j) i)) (by simp [go_sem]; first | exact ⟨rfl, rfl, rfl⟩ | exact ⟨rfl, rfl⟩ | rfl) (by omega) (by exact fun i hi => by rw [setRows, if_neg (by omega), h1 i hi]; rfl) (by simp [go_sem]; rfl) ?_
      refine awp_ret ?_
      simp [go_sem, Tryz.results36]
      exact leaves_app (by simp [go_sem])

end Go.Proofs.YtnbokgmimbeihaaGreatDoor

/-! Sm -/
namespace Go.Proofs
open Go.Shelf
def Tryz.sortRule_ren : Go.Shelf.Ren := ⟨fun | 6 => 80 | 15 => 98 | 14 => 97 | 28 => 120 | 29 => 121 | 20 => 112 | 21 => 113 | 22 => 114 | 23 => 115 | 24 => 116 | 25 => 117 | 26 => 118 | 27 => 119 | 46 => 132 | 47 => 133 | 48 => 134 | 49 => 135 | 50 => 136 | 57 => 141 | n => n, fun | 22 => 26 | 24 => 30 | 25 => 83 | 3 => 3 | 39 => 100 | 0 => 0 | 53 => 128 | 55 => 131 | 4 => 4 | 46 => 151 | 45 => 150 | 50 => 81 | 5 => 5 | 9 => 9 | 66 => 166 | 70 => 170 | 76 => 173 | 77 => 174 | n => n, fun | n => n⟩
theorem Tryz.sortRule : Go.Proofs.SlLaysF0.n6 Tryz.prog Tryz.sortRule_ren := {
  mixed := by kernel_rfl
  f6 := ⟨Tryz.f80.name, by decide, Tryz.func80.trans (congrArg some (by kernel_rfl))⟩
  f14 := ⟨Tryz.f97.name, by decide, Tryz.func97.trans (congrArg some (by kernel_rfl))⟩
  f15 := Tryz.func98.trans (congrArg some (by kernel_rfl))
  f20 := ⟨Tryz.f112.name, by decide, Tryz.func112.trans (congrArg some (by kernel_rfl))⟩
  f21 := ⟨Tryz.f113.name, by decide, Tryz.func113.trans (congrArg some (by kernel_rfl))⟩
  f22 := ⟨Tryz.f114.name, by decide, Tryz.func114.trans (congrArg some (by kernel_rfl))⟩
  f23 := ⟨Tryz.f115.name, by decide, Tryz.func115.trans (congrArg some (by kernel_rfl))⟩
  f24 := ⟨Tryz.f116.name, by decide, Tryz.func116.trans (congrArg some (by kernel_rfl))⟩
  f25 := ⟨Tryz.f117.name, by decide, Tryz.func117.trans (congrArg some (by kernel_rfl))⟩
  f26 := ⟨Tryz.f118.name, by decide, Tryz.func118.trans (congrArg some (by kernel_rfl))⟩
  f27 := ⟨Tryz.f119.name, by decide, Tryz.func119.trans (congrArg some (by kernel_rfl))⟩
  f28 := Tryz.func120.trans (congrArg some (by kernel_rfl))
  f29 := Tryz.func121.trans (congrArg some (by kernel_rfl))
  f46 := ⟨Tryz.f132.name, by decide, Tryz.func132.trans (congrArg some (by kernel_rfl))⟩
  f47 := Tryz.func133.trans (congrArg some (by kernel_rfl))
  f48 := Tryz.func134.trans (congrArg some (by kernel_rfl))
  f49 := ⟨Tryz.f135.name, by decide, Tryz.func135.trans (congrArg some (by kernel_rfl))⟩
  f50 := ⟨Tryz.f136.name, by decide, Tryz.func136.trans (congrArg some (by kernel_rfl))⟩
  f57 := ⟨Tryz.f141.name, by decide, Tryz.func141.trans (congrArg some (by kernel_rfl))⟩
  t0 := Tryz.underlying0
  a0 := Tryz.isAgg0
  z0 := Tryz.sizeOf0
  v0 := Tryz.zeroValue0
  t3 := Tryz.underlying3
  a3 := Tryz.isAgg3
  z3 := Tryz.sizeOf3
  v3 := Tryz.zeroValue3
  t4 := Tryz.underlying4
  a4 := Tryz.isAgg4
  z4 := Tryz.sizeOf4
  v4 := Tryz.zeroValue4
  t5 := Tryz.underlying5
  a5 := Tryz.isAgg5
  z5 := Tryz.sizeOf5
  v5 := Tryz.zeroValue5
  t9 := Tryz.underlying9
  a9 := Tryz.isAgg9
  z9 := Tryz.sizeOf9
  v9 := Tryz.zeroValue9
  t22 := Tryz.underlying26
  a22 := Tryz.isAgg26
  z22 := Tryz.sizeOf26
  v22 := Tryz.zeroValue26
  t25 := Tryz.underlying83
  a25 := Tryz.isAgg83
  z25 := Tryz.sizeOf83
  v25 := Tryz.zeroValue83
  t39 := Tryz.underlying100
  a39 := Tryz.isAgg100
  z39 := Tryz.sizeOf100
  v39 := Tryz.zeroValue100
  t45 := Tryz.underlying150
  a45 := Tryz.isAgg150
  z45 := Tryz.sizeOf150
  v45 := Tryz.zeroValue150
  t46 := Tryz.underlying151
  a46 := Tryz.isAgg151
  z46 := Tryz.sizeOf151
  v46 := Tryz.zeroValue151
  t50 := Tryz.underlying81
  a50 := Tryz.isAgg81
  z50 := Tryz.sizeOf81
  v50 := Tryz.zeroValue81
  t53 := Tryz.underlying128
  a53 := Tryz.isAgg128
  z53 := Tryz.sizeOf128
  v53 := Tryz.zeroValue128
  t55 := Tryz.underlying131
  a55 := Tryz.isAgg131
  z55 := Tryz.sizeOf131
  v55 := Tryz.zeroValue131
  t66 := Tryz.underlying166
  a66 := Tryz.isAgg166
  z66 := Tryz.sizeOf166
  v66 := Tryz.zeroValue166
  t70 := Tryz.underlying170
  a70 := Tryz.isAgg170
  z70 := Tryz.sizeOf170
  v70 := Tryz.zeroValue170
  t76 := Tryz.underlying173
  a76 := Tryz.isAgg173
  z76 := Tryz.sizeOf173
  v76 := Tryz.zeroValue173
  t77 := Tryz.underlying174
  a77 := Tryz.isAgg174
  z77 := Tryz.sizeOf174
  v77 := Tryz.zeroValue174 }
end Go.Proofs

/-! Ce -/
namespace Go.Proofs.YtnbokgmimbeihaaGreatDoor
open Go.Abs Go.Arch Go.Shelf Go.RowKit Go.Lib Go.Sort
set_option linter.unusedVariables false
set_option linter.unusedSimpArgs false
set_option maxRecDepth 100000

theorem isNaN_w (a : Int) (W : World) : Calls Tryz.prog 87 #[.int .i64 a] W fun e w' => e = .returned (.bool false) ∧ w' = W := by
  go_enter Tryz.func87, Tryz.ntmps87
  go_wp2
  go_ret
  simp
theorem cmpI_w (a b : Int) (W : World) : Calls Tryz.prog 59 #[.int .i64 a, .int .i64 b] W fun e w' => e = .returned (.int .i64 (cmpI a b)) ∧ w' = W := by
  go_enter Tryz.func59, Tryz.ntmps59
  go_wp2_with (go_at_call 87; refine (isNaN_w _ _).mono ?_; rintro e w' ⟨rfl, rfl⟩)
  all_goals go_ret
  · have h : cmpI a b = -1 := by unfold cmpI; rw [if_pos (by assumption)]
    simp [h]
  · have h : cmpI a b = 1 := by unfold cmpI; rw [if_neg (by omega), if_pos (by assumption)]
    simp [h]
  · have h : cmpI a b = 0 := by unfold cmpI; rw [if_neg (by omega), if_neg (by omega)]
    simp [h]
def orI (a b : Int) : Int := if a = 0 then b else a
theorem or_w (a b : Int) (blk : Nat) (e : TypeId) (f : Nat × Nat) (W : World) (hc : W.heap[blk]? = some (.cells #[.int .i64 a, .int .i64 b] e f)) : Calls Tryz.prog 83 #[.slice (some ⟨blk, 0, none⟩) 2 2] W fun e w' => e = .returned (.int .i64 (orI a b)) ∧ w' = W := by
  have h0 : W.cell? ⟨blk, 0, none⟩ = some (.int .i64 a) := by simp [World.cell?, hc]
  have h1 : W.cell? ⟨blk, 1, none⟩ = some (.int .i64 b) := by simp [World.cell?, hc]
  clear hc
  go_enter Tryz.func83, Tryz.ntmps83
  go_wp2
  go_rounds 3
  all_goals go_ret
  all_goals (simp_all [orI])
theorem ordD_or (a b : Dif) : ordD a b = orI (cmpI a.Number b.Number) (cmpI a.Kind b.Kind) := by unfold ordD orI; by_cases h : cmpI a.Number b.Number = 0 <;> simp [h]
theorem two_cells (W : World) (x1 x2 y1 y2 : Value) (e : TypeId) : ∃ W3, ((W.alloc (Obj.cells #[x1, x2] e)).alloc (Obj.cells #[y1, y2] e)).drew = W3 ∧ W3.cell? ⟨W.heap.size, 0, none⟩ = some x1 ∧ W3.cell? ⟨W.heap.size, 1, none⟩ = some x2 ∧ W3.cell? ⟨W.heap.size + 1, 0, none⟩ = some y1 ∧ W3.cell? ⟨W.heap.size + 1, 1, none⟩ = some y2 ∧ Hid (∃ q os', W3 = grow (W.drewN q) os') := by
  have h1 : (((W.alloc (Obj.cells #[x1, x2] e)).alloc (Obj.cells #[y1, y2] e)).drew).heap[W.heap.size]? = some (.cells #[x1, x2] e) := by
    show ((W.heap.push _).push _)[W.heap.size]? = _
    rw [Array.getElem?_push, Array.getElem?_push]; simp
  have h2 : (((W.alloc (Obj.cells #[x1, x2] e)).alloc (Obj.cells #[y1, y2] e)).drew).heap[W.heap.size + 1]? = some (.cells #[y1, y2] e) := by
    show ((W.heap.push _).push _)[W.heap.size + 1]? = _
    rw [Array.getElem?_push]; simp
  refine ⟨_, rfl, ?_, ?_, ?_, ?_, ⟨1, _, by rw [alloc_eq_grow, alloc_eq_grow, grow_grow]; rfl⟩⟩
  all_goals (unfold World.cell?; first | rw [h1] | rw [h2]); rfl
theorem alloc_get (W : World) (o : Obj) : (W.alloc o).heap[W.heap.size]? = some o := by
  show (W.heap.push o)[W.heap.size]? = _
  rw [Array.getElem?_push]; simp
set_option maxHeartbeats 2000000 in
theorem order_w (a1 a2 b1 b2 : Int) (W : World) : Calls Tryz.prog 50 #[.agg #[.int .i64 a1, .int .i64 a2], .agg #[.int .i64 b1, .int .i64 b2]] W fun e w' => e = .returned (.int .i64 (orI (cmpI a2 b2) (cmpI a1 b1))) ∧ ∃ q os', w' = grow (W.drewN q) os' := by
  go_enter Tryz.func50, Tryz.ntmps50
  go_wp2
  refine wp_region_still_tail 10 (by kernel_rfl) (by kernel_rfl) ?_
  simp only [List.take_succ_cons, List.take_zero, List.drop_succ_cons, List.drop_zero]
  change wpStill _ _ (((W.alloc (Obj.cells #[Value.int IntKind.i64 a1, Value.int IntKind.i64 a2] 30)).alloc (Obj.cells #[Value.int IntKind.i64 b1, Value.int IntKind.i64 b2] 30)).drew) (fun a' => wpList _ _ _ _ _ (((W.alloc (Obj.cells #[Value.int IntKind.i64 a1, Value.int IntKind.i64 a2] 30)).alloc (Obj.cells #[Value.int IntKind.i64 b1, Value.int IntKind.i64 b2] 30)).drew)) _ _
  obtain ⟨W3, hW, f1, f2, f3, f4, HG⟩ := two_cells W (.int .i64 a1) (.int .i64 a2) (.int .i64 b1) (.int .i64 b2) 30
  rw [hW]
  clear hW
  generalize W.heap.size = s0 at f1 f2 f3 f4 ⊢
  still_step
  still_step
  still_step
  still_step
  still_call (cmpI_w _ _ _)
  still_step
  still_step
  still_step
  still_step
  still_call (cmpI_w _ _ _)
  refine wpStill_nil ?_
  go_wp2_with (go_at_call 83; refine (or_w _ _ _ _ _ _ (alloc_get W3 _)).mono ?_; rintro e w' ⟨rfl, rfl⟩)
  go_ret
  refine ⟨rfl, ?_⟩
  obtain ⟨q, os', rfl⟩ := HG.out
  exact ⟨q, _, by rw [alloc_eq_grow, grow_grow]⟩

def encV (r : Dif) : List Value := [.int .i64 r.Kind, .int .i64 r.Number]
theorem encV_enc (r : Dif) : Dif.enc r = (encV r).map .v := rfl
theorem order50 (a b : Dif) (W : World) : Calls Tryz.prog 50 #[.agg (encV a).toArray, .agg (encV b).toArray] W fun e w' => e = .returned (.int .i64 (ordD a b)) ∧ ∃ q os', w' = grow (W.drewN q) os' := by
  rw [ordD_or]; exact order_w _ _ _ _ W
theorem ordD_neg (a b : Dif) : ordD a b < 0 ↔ lessD a b = true := by
  unfold ordD cmpI lessD
  simp only [Bool.or_eq_true, Bool.and_eq_true, decide_eq_true_eq, beq_iff_eq]
  split <;> split <;> (try split) <;> (try split) <;> omega
theorem cmpI_neg (a b : Int) : cmpI b a = - cmpI a b := by
  unfold cmpI
  by_cases h1 : a < b <;> by_cases h2 : b < a <;> simp [h1, h2] <;> omega
theorem ordD_anti (a b : Dif) (h : ¬ ordD b a < 0) : ordD a b ≤ 0 := by
  unfold ordD at *
  rw [cmpI_neg a.Number, cmpI_neg a.Kind] at h
  by_cases h1 : cmpI a.Number b.Number = 0
  · simp [h1] at h ⊢; omega
  · rw [if_pos (by omega)] at h; rw [if_pos h1]; omega
theorem ordD_zero (a b : Dif) : ordD a b = 0 ↔ a = b := by
  rcases a with ⟨k, n⟩; rcases b with ⟨k', n'⟩
  unfold ordD cmpI
  simp only [Dif.mk.injEq]
  split <;> split <;> (try split) <;> (try split) <;> omega
theorem lessD_iff (a b : Dif) : lessD a b = true ↔ a.Number < b.Number ∨ (a.Number = b.Number ∧ a.Kind < b.Kind) := by
  unfold lessD; simp
theorem ordD_swo : SWO (ltOf ordD) where
  irrefl x := by unfold ltOf; rw [decide_eq_false_iff_not, ordD_neg, lessD_iff]; omega
  trans x y z h1 h2 := by unfold ltOf at *; rw [decide_eq_true_iff, ordD_neg, lessD_iff] at *; omega
  ntrans x y z h1 h2 := by unfold ltOf at *; rw [decide_eq_false_iff_not, ordD_neg, lessD_iff] at *; omega

theorem CSF.of_calls1 {P : Program} {f : FuncId} {v r : Value} (hen : entersB P f = true) (h : ∀ w, Calls P f #[v] w fun e w' => e = .returned r ∧ w' = w) (σ : List Blk) : CSF P f [.d (.v v)] σ (.d (.v r)) := by
  refine ⟨hen, fun j w vs hs hr => ?_⟩
  have hv : vs = #[v] := by
    have h0 := R_v (show R w j (.d (.v v)) (vs.getD 0 Go.undef) from hr.2 0 (by simp))
    apply Array.ext
    · simpa using hr.1
    · intro i h1 h2
      have hi : i = 0 := by simpa using h2
      subst hi
      rw [← (arr_get h1).2]; exact h0
  subst hv
  exact (h w).mono fun e w' ⟨he, hw⟩ => ⟨r, .d (.v r), σ, j, [], he, by rw [hw]; exact hs, .d (.v r), by rw [hw]; exact .refl _ _, Nat.le_refl _, .refl _ _, rfl, rfl, rfl⟩

theorem bitsLen_cs (σ : List Blk) (n : Nat) (h : n < 1000000000) : CSF Tryz.prog 98 [.d (.v (.int .u64 n))] σ (.d (I (Lib.bitLen n : Nat))) := by
  refine CSF.of_calls1 T.en98 (fun w => ?_) σ
  have h := Any.bits_Len (SlLaysF0.n15.bits (P := Tryz.prog) (ρ := Tryz.sortRule_ren) { Tryz.sortRule with }) (n : Int) w (by omega) (by omega)
  rwa [Int.toNat_natCast] at h

theorem sort_perm {n : Nat} {x : Nat → Dif} {d : Array Dif} (h : PermIn 0 n (lst n x).toArray d) : d.size = n ∧ d.toList.Perm (lst n x) := by
  obtain ⟨h1, _, h3⟩ := h
  have hs : d.size = n := by simpa [lst_length] using h1
  refine ⟨hs, ?_⟩
  have e1 : (d.extract 0 n).toList = d.toList := by rw [← hs]; simp
  have e2 : ((lst n x).toArray.extract 0 n).toList = lst n x := by
    simp only [List.extract_toArray, List.extract_eq_take_drop, List.drop_zero, Nat.sub_zero]
    exact List.take_of_length_le (by rw [lst_length]; exact Nat.le_refl _)
  rw [e1, e2] at h3
  exact h3

set_option maxHeartbeats 1000000 in
theorem sortDif1_cs (σ τ : List Blk) (n : Nat) (g : Nat → Dif) (hn0 : 0 < n) (hn : n < 1000000000) :
    CS Tryz.prog 80 [.ms σ.length 2 0 n, .clo (.func 50) [] []] (σ ++ .arr 2 n (fun i => Dif.enc (g i)) :: τ) (fun r σ' X => r = .tup [] ∧ X = [] ∧ ∃ L : List Dif, L.Perm (lst n g) ∧ L.Pairwise (fun a b => ordD a b ≤ 0) ∧ σ' = σ ++ .arr 2 n (fun i => Dif.enc (nth L i)) :: τ) := by
  refine ⟨T.en80, fun j w vs hS hR => ?_⟩
  obtain ⟨hsz, hrel⟩ := hR
  have r0 : R w j (.ms σ.length 2 0 n) (vs.getD 0 Go.undef) := by simpa using hrel 0 (by simp)
  have r1 : R w j (.clo (.func 50) [] []) (vs.getD 1 Go.undef) := by simpa using hrel 1 (by simp)
  have hsz : vs.size = 2 := by simpa using hsz
  have hvs : vs = #[vs.getD 0 Go.undef, vs.getD 1 Go.undef] := by
    apply Array.ext
    · simp [hsz]
    · intro i h1 h2
      have hi : i = 0 ∨ i = 1 := by simp at h2; omega
      rcases hi with rfl | rfl
      · rw [← (arr_get h1).2]; rfl
      · rw [← (arr_get h1).2]; rfl
  rw [hvs]
  generalize vs.getD 0 Go.undef = v0 at r0
  generalize vs.getD 1 Go.undef = v1 at r1
  cases r1 with
  | clo ff cc h1 h2 h3 h4 =>
  have e1 : ff = #[] := Array.eq_empty_of_size_eq_zero (by simpa using h1)
  have e2 : cc = #[] := Array.eq_empty_of_size_eq_zero (by simpa using h2)
  subst e1 e2
  cases r0 with
  | ms0 p h => omega
  | msE p e m h hs hlo hm => omega
  | @ms _ _ _ _ cb c e m hj hs hc hm =>
  have hb : (σ ++ Blk.arr 2 n (fun i => Dif.enc (g i)) :: τ)[σ.length]? = some (.arr 2 n fun i => Dif.enc (g i)) := by simp
  have hk : ∀ y, (encV y).length = 2 := fun y => rfl
  have hH : HoldsK encV 2 w cb 0 (lst n g).toArray := holds_of hS hj hb (fun i hi => rfl) hk
  have eg : ∀ args w, (callFunc 50 args).run Tryz.prog w = .ok (.enter 50 args) w := enters_of Tryz.func50 (by kernel_rfl) rfl
  have hds : (lst n g).toArray.size = n := by simp [lst_length]
  have hcon := AnyQ.slices_SortFunc Tryz.sortRule 2 Tryz.isAgg30 Tryz.sizeOf30 encV hk (fun y v hv => by simp [encV] at hv; rcases hv with rfl | rfl <;> rfl) ordD ordD_swo 50 #[] cb 0 c (lst n g).toArray w eg (fun _ _ _ _ a b => order50 a b _) hH (hS.lt _ _ hj) (by rw [hds]; omega)
  rw [hds] at hcon
  change Calls Tryz.prog 80 _ _ _ at hcon
  simp only [Nat.zero_mul]
  refine hcon.mono ?_
  rintro e' w' ⟨rfl, d', q, os, hp, hso, rfl⟩
  obtain ⟨hd, hperm⟩ := sort_perm hp
  obtain ⟨g1, g2⟩ := sorted_rel (m := q) (os := os) hS hj hb (row' := fun i => Dif.enc (nth (d'.toList) i)) (fun i hi => by
    rw [getElem!_pos d' i (by omega)]
    have : nth (d'.toList) i = d'[i]'(by omega) := by simp [nth, show i < d'.size by omega]
    rw [this]; rfl) hk hd
  refine ⟨_, .tup [], _, j, [], rfl, g1, .tup #[] (Nat.le_refl _) (by simp), g2, Nat.le_refl _, .refl _ _, rfl, rfl, d'.toList, ?_, ?_, ?_⟩
  · exact hperm
  · rw [List.pairwise_iff_getElem]
    intro i k hi hk' hik
    simp only [Array.length_toList] at hi hk'
    have := hso i k (Nat.zero_le _) hik (by omega)
    rw [getElem!_pos d' i hi, getElem!_pos d' k hk'] at this
    unfold ltOf at this
    rw [decide_eq_false_iff_not] at this
    simp only [Array.getElem_toList]
    exact ordD_anti _ _ this
  · simp only [app_set0, List.set_cons_zero]

end Go.Proofs.YtnbokgmimbeihaaGreatDoor

/-! Cf -/
namespace Go.Proofs.YtnbokgmimbeihaaGreatDoor
open Go.Abs Go.Arch
set_option linter.unusedVariables false
set_option maxRecDepth 100000
set_option linter.unusedSimpArgs false

theorem idx_snoc {α : Type} (p : α → Bool) (x : α) : ∀ (l : List α) (k : Nat), idxFrom p (l ++ [x]) k = if idxFrom p l k < 0 then (if p x then ((k + l.length : Nat) : Int) else -1) else idxFrom p l k
  | [], k => by
    simp only [List.nil_append, idxFrom]
    by_cases h : p x <;> simp [h]
  | y :: l, k => by
    rw [List.cons_append, idxFrom, idxFrom]
    by_cases h : p y
    · rw [if_pos h, if_pos h, if_neg (by omega)]
    · rw [if_neg h, if_neg h, idx_snoc p x l (k + 1), List.length_cons, show k + 1 + l.length = k + (l.length + 1) by omega]
theorem idx_succ {α : Type} (p : α → Bool) (g : Nat → α) (i : Nat) : idxFrom p (lst (i + 1) g) 0 = if idxFrom p (lst i g) 0 < 0 then (if p (g i) then (i : Int) else -1) else idxFrom p (lst i g) 0 := by
  rw [lst_succ, idx_snoc, lst_length, Nat.zero_add]
theorem findL_zero (g : Nat → Lis) (u : Int) : findL 0 g u = (Lis.zero, false) := rfl
theorem gotR_zero (g : Nat → Rec) (u : Int) : gotR 0 g u = (Rec.zero, false) := rfl
theorem findL_succ (g : Nat → Lis) (i : Nat) (u : Int) : findL (i + 1) g u = if (findL i g u).2 = true then findL i g u else if (g i).Number = u then (g i, true) else (Lis.zero, false) := by
  unfold findL findI
  rw [idx_succ]
  by_cases h : idxFrom (fun r : Lis => r.Number == u) (lst i g) 0 < 0
  · simp only [h, if_true, Bool.false_eq_true, if_false, beq_iff_eq]
    by_cases h2 : (g i).Number = u
    · simp only [h2, if_true]; rw [if_neg (by omega), Int.toNat_natCast]
    · simp only [h2, if_false]; rw [if_pos (by omega)]
  · simp only [h, if_false, if_true]
theorem gotR_succ (g : Nat → Rec) (i : Nat) (u : Int) : gotR (i + 1) g u = if (gotR i g u).2 = true then gotR i g u else if (g i).Number = u then (g i, true) else (Rec.zero, false) := by
  unfold gotR gotI
  rw [idx_succ]
  by_cases h : idxFrom (fun r : Rec => r.Number == u) (lst i g) 0 < 0
  · simp only [h, if_true, Bool.false_eq_true, if_false, beq_iff_eq]
    by_cases h2 : (g i).Number = u
    · simp only [h2, if_true]; rw [if_neg (by omega), Int.toNat_natCast]
    · simp only [h2, if_false]; rw [if_pos (by omega)]
  · simp only [h, if_false, if_true]
theorem findL_iff (g : Nat → Lis) (u : Int) : ∀ n, (findL n g u).2 = true ↔ ∃ i, i < n ∧ (g i).Number = u
  | 0 => by rw [findL_zero]; simp
  | n + 1 => by
    rw [findL_succ]
    by_cases h : (findL n g u).2 = true
    · rw [if_pos h]
      obtain ⟨i, h1, h2⟩ := (findL_iff g u n).1 h
      exact ⟨fun _ => ⟨i, by omega, h2⟩, fun _ => h⟩
    · rw [if_neg h]
      have hn : ∀ i, i < n → (g i).Number ≠ u := fun i hi he => h ((findL_iff g u n).2 ⟨i, hi, he⟩)
      by_cases h2 : (g n).Number = u
      · rw [if_pos h2]; exact ⟨fun _ => ⟨n, by omega, h2⟩, fun _ => rfl⟩
      · rw [if_neg h2]; constructor
        · intro h3; cases h3
        · rintro ⟨i, h3, h4⟩
          rcases Nat.lt_or_eq_of_le (Nat.le_of_lt_succ h3) with h5 | rfl
          · exact absurd h4 (hn i h5)
          · exact absurd h4 h2
theorem gotR_iff (g : Nat → Rec) (u : Int) : ∀ n, (gotR n g u).2 = true ↔ ∃ i, i < n ∧ (g i).Number = u
  | 0 => by rw [gotR_zero]; simp
  | n + 1 => by
    rw [gotR_succ]
    by_cases h : (gotR n g u).2 = true
    · rw [if_pos h]
      obtain ⟨i, h1, h2⟩ := (gotR_iff g u n).1 h
      exact ⟨fun _ => ⟨i, by omega, h2⟩, fun _ => h⟩
    · rw [if_neg h]
      have hn : ∀ i, i < n → (g i).Number ≠ u := fun i hi he => h ((gotR_iff g u n).2 ⟨i, hi, he⟩)
      by_cases h2 : (g n).Number = u
      · rw [if_pos h2]; exact ⟨fun _ => ⟨n, by omega, h2⟩, fun _ => rfl⟩
      · rw [if_neg h2]; constructor
        · intro h3; cases h3
        · rintro ⟨i, h3, h4⟩
          rcases Nat.lt_or_eq_of_le (Nat.le_of_lt_succ h3) with h5 | rfl
          · exact absurd h4 (hn i h5)
          · exact absurd h4 h2

/-- a list's numbers ascend -/
def AscL (n : Nat) (g : Nat → Lis) : Prop := ∀ i, 0 < i → i < n → (g (i - 1)).Number < (g i).Number
theorem AscL.lt {n : Nat} {g : Nat → Lis} (h : AscL n g) {i j : Nat} (hij : i < j) (hj : j < n) : (g i).Number < (g j).Number := by
  induction j with
  | zero => omega
  | succ j ih =>
    have h1 := h (j + 1) (by omega) hj
    simp only [Nat.add_sub_cancel] at h1
    rcases Nat.lt_or_eq_of_le (Nat.le_of_lt_succ hij) with h2 | rfl
    · have := ih h2 (by omega); omega
    · exact h1
theorem OrdR.lt {n : Nat} {g : Nat → Rec} (h : OrdR n g) {i j : Nat} (hij : i < j) (hj : j < n) : (g i).Number < (g j).Number := by
  induction j with
  | zero => omega
  | succ j ih =>
    have h1 := (h (j + 1) hj).2 (by omega)
    simp only [Nat.add_sub_cancel] at h1
    rcases Nat.lt_or_eq_of_le (Nat.le_of_lt_succ hij) with h2 | rfl
    · have := ih h2 (by omega); omega
    · exact h1
theorem findL_at {n : Nat} {g : Nat → Lis} (h : AscL n g) {i : Nat} (hi : i < n) : (findL i g (g i).Number).2 = false := by
  rw [← Bool.not_eq_true, findL_iff]
  rintro ⟨q, h1, h2⟩
  have := h.lt h1 hi; omega
theorem gotR_at {n : Nat} {g : Nat → Rec} (h : OrdR n g) {i : Nat} (hi : i < n) : (gotR i g (g i).Number).2 = false := by
  rw [← Bool.not_eq_true, gotR_iff]
  rintro ⟨q, h1, h2⟩
  have := h.lt h1 hi; omega

/-- the map's keys -/
def keyI : Key → Int
  | .i u => u
  | .s _ => 0
def ksI (g : Nat → Lis) : Nat → List Key
  | 0 => []
  | i + 1 => insK (.i (g i).Number) (ksI g i)
def ksR (n : Nat) (f : Nat → Lis) (g : Nat → Rec) : Nat → List Key
  | 0 => ksI f n
  | j + 1 => insK (.i (g j).Number) (ksR n f g j)
theorem mem_ksI (g : Nat → Lis) (k : Key) : ∀ n, k ∈ ksI g n ↔ ∃ i, i < n ∧ k = .i (g i).Number
  | 0 => by simp [ksI]
  | n + 1 => by
    rw [ksI, mem_insK, mem_ksI g k n]
    constructor
    · rintro (rfl | ⟨i, h1, h2⟩)
      · exact ⟨n, by omega, rfl⟩
      · exact ⟨i, by omega, h2⟩
    · rintro ⟨i, h1, h2⟩
      rcases Nat.lt_or_eq_of_le (Nat.le_of_lt_succ h1) with h | rfl
      · exact .inr ⟨i, h, h2⟩
      · exact .inl h2
theorem mem_ksR (n : Nat) (f : Nat → Lis) (g : Nat → Rec) (k : Key) : ∀ m, k ∈ ksR n f g m ↔ (∃ i, i < n ∧ k = .i (f i).Number) ∨ ∃ i, i < m ∧ k = .i (g i).Number
  | 0 => by rw [ksR, mem_ksI]; simp
  | m + 1 => by
    rw [ksR, mem_insK, mem_ksR n f g k m]
    constructor
    · rintro (rfl | h | ⟨i, h1, h2⟩)
      · exact .inr ⟨m, by omega, rfl⟩
      · exact .inl h
      · exact .inr ⟨i, by omega, h2⟩
    · rintro (h | ⟨i, h1, h2⟩)
      · exact .inr (.inl h)
      · rcases Nat.lt_or_eq_of_le (Nat.le_of_lt_succ h1) with h | rfl
        · exact .inr (.inr ⟨i, h, h2⟩)
        · exact .inl h2
theorem nodup_insK {κ : Key} {ks : List Key} (h : ks.Nodup) : (insK κ ks).Nodup := by
  unfold insK
  split
  · exact h
  · rename_i hn
    rw [List.nodup_append]
    exact ⟨h, by simp, fun a ha b hb => by simp at hb; subst hb; exact fun e => hn (e ▸ ha)⟩
theorem nodup_ksI (g : Nat → Lis) : ∀ n, (ksI g n).Nodup
  | 0 => by simp [ksI]
  | n + 1 => nodup_insK (nodup_ksI g n)
theorem nodup_ksR (n : Nat) (f : Nat → Lis) (g : Nat → Rec) : ∀ m, (ksR n f g m).Nodup
  | 0 => nodup_ksI f n
  | m + 1 => nodup_insK (nodup_ksR n f g m)
theorem len_insK (κ : Key) (ks : List Key) : (insK κ ks).length ≤ ks.length + 1 := by
  unfold insK; split <;> simp
theorem len_ksI (g : Nat → Lis) : ∀ n, (ksI g n).length ≤ n
  | 0 => by simp [ksI]
  | n + 1 => by have := len_insK (.i (g n).Number) (ksI g n); have := len_ksI g n; rw [ksI]; omega
theorem len_ksR (n : Nat) (f : Nat → Lis) (g : Nat → Rec) : ∀ m, (ksR n f g m).length ≤ n + m
  | 0 => len_ksI f n
  | m + 1 => by have := len_insK (.i (g m).Number) (ksR n f g m); have := len_ksR n f g m; rw [ksR]; omega

/-- what stands under a key behind i items and j received ones -/
def mapF (f : Nat → Lis) (g : Nat → Rec) (i j : Nat) (k : Key) : AV := .agg [.op (findL i f (keyI k)).2 (findL i f (keyI k)).1.enc, .op (gotR j g (keyI k)).2 (gotR j g (keyI k)).1.enc]
theorem mapF_free (f : Nat → Lis) (g : Nat → Rec) (i j : Nat) (k : Key) : (mapF f g i j k).free = true := rfl
theorem Same.agg2 {x y x' y' : AV} (h : Same x x') (k : Same y y') : Same (.agg [x, y]) (.agg [x', y']) := by
  refine Same.agg rfl fun q hq => ?_
  match q with
  | 0 => exact h
  | 1 => exact k
  | q + 2 => exact absurd hq (by simp)
theorem mapF_item {n : Nat} {f : Nat → Lis} (h : AscL n f) (g : Nat → Rec) {i : Nat} (hi : i < n) (ks : List Key) (hks : ∀ k, k ∈ ks → ∃ u, k = .i u) : ∀ k, k ∈ ks → Same (updK (mapF f g i 0) (.i (f i).Number) (.agg [.el (f i).enc, .d (.v (.pointer none))]) k) (mapF f g (i + 1) 0 k) := by
  intro k hk
  obtain ⟨u, rfl⟩ := hks k hk
  unfold updK
  by_cases e : u = (f i).Number
  · subst e
    rw [if_pos rfl]
    have e1 : findL (i + 1) f (f i).Number = (f i, true) := by rw [findL_succ, if_neg (by simp [findL_at h hi]), if_pos rfl]
    unfold mapF
    rw [show keyI (.i (f i).Number) = (f i).Number from rfl, e1, gotR_zero]
    exact Same.agg2 Same.op_el Same.op_nil
  · rw [if_neg (by simpa using e)]
    have e1 : findL (i + 1) f u = findL i f u := by
      rw [findL_succ]
      split
      · rfl
      · rename_i h1
        rw [if_neg (fun e' => e e'.symm)]
        have h2 : (findL i f u).2 = false := by simpa using h1
        unfold findL at h2 ⊢
        split at h2
        · rename_i h3; rw [if_pos h3]
        · cases h2
    unfold mapF
    rw [show keyI (.i u) = u from rfl, e1]
    exact Same.refl _
theorem mapF_rec {n m : Nat} {f : Nat → Lis} {g : Nat → Rec} (h : OrdR m g) {j : Nat} (hj : j < m) (kj : List Key) (hkj : ∀ k, k ∈ kj ↔ (∃ i, i < n ∧ k = .i (f i).Number) ∨ ∃ i, i < j ∧ k = .i (g i).Number) (ks : List Key) (hks : ∀ k, k ∈ ks → ∃ u, k = .i u) :
    ∀ k, k ∈ ks → Same (updK (mapF f g n j) (.i (g j).Number) (.agg [.op (decide (Key.i (g j).Number ∈ kj) && (findL n f (g j).Number).2) (findL n f (g j).Number).1.enc, .el (g j).enc]) k) (mapF f g n (j + 1) k) := by
  intro k hk
  obtain ⟨u, rfl⟩ := hks k hk
  unfold updK
  by_cases e : u = (g j).Number
  · subst e
    rw [if_pos rfl]
    have e1 : gotR (j + 1) g (g j).Number = (g j, true) := by rw [gotR_succ, if_neg (by simp [gotR_at h hj]), if_pos rfl]
    have e2 : (decide (Key.i (g j).Number ∈ kj) && (findL n f (g j).Number).2) = (findL n f (g j).Number).2 := by
      cases hb : (findL n f (g j).Number).2 with
      | false => simp
      | true =>
        obtain ⟨i, h1, h2⟩ := (findL_iff f (g j).Number n).1 hb
        simp [(hkj (.i (g j).Number)).2 (.inl ⟨i, h1, by rw [h2]⟩)]
    unfold mapF
    rw [show keyI (.i (g j).Number) = (g j).Number from rfl, e1, e2]
    exact Same.agg2 (Same.refl _) Same.op_el
  · rw [if_neg (by simpa using e)]
    have e1 : gotR (j + 1) g u = gotR j g u := by
      rw [gotR_succ]
      split
      · rfl
      · rename_i h1
        rw [if_neg (fun e' => e e'.symm)]
        have h2 : (gotR j g u).2 = false := by simpa using h1
        unfold gotR at h2 ⊢
        split at h2
        · rename_i h3; rw [if_pos h3]
        · cases h2
    unfold mapF
    rw [show keyI (.i u) = u from rfl, e1]
    exact Same.refl _

/-- the differences under a number -/
def difU (n : Nat) (f : Nat → Lis) (m : Nat) (g : Nat → Rec) (u : Int) : List Dif :=
  if (gotR m g u).2 = false then (if (findL n f u).2 = true then [⟨1, u⟩] else [])
  else if (findL n f u).2 = false then [⟨2, u⟩]
  else (if (findL n f u).1.Pages ≠ (gotR m g u).1.Pages then [⟨3, u⟩] else []) ++ (if (findL n f u).1.Digest ≠ (gotR m g u).1.Digest then [⟨4, u⟩] else [])
/-- the differences, as the reference gathers them -/
def allD (n : Nat) (f : Nat → Lis) (m : Nat) (g : Nat → Rec) : List Dif := gather (fun q => difU n f m g ((q : Int) + 1)) 9999
def outOf (n : Nat) (f : Nat → Lis) (m : Nat) (g : Nat → Rec) (ks : List Key) : List Dif := ks.flatMap fun k => difU n f m g (keyI k)
theorem difU_num {n : Nat} {f : Nat → Lis} {m : Nat} {g : Nat → Rec} {u : Int} {d : Dif} (h : d ∈ difU n f m g u) : d.Number = u := by
  unfold difU at h
  split at h
  · split at h
    · simp at h; rw [h]
    · cases h
  · split at h
    · simp at h; rw [h]
    · rw [List.mem_append] at h
      rcases h with h | h <;> (split at h <;> simp at h; rw [h])
theorem difU_none {n : Nat} {f : Nat → Lis} {m : Nat} {g : Nat → Rec} {u : Int} (h1 : (findL n f u).2 = false) (h2 : (gotR m g u).2 = false) : difU n f m g u = [] := by
  unfold difU; rw [if_pos h2, h1]; rfl
theorem difU_len (n : Nat) (f : Nat → Lis) (m : Nat) (g : Nat → Rec) (u : Int) : (difU n f m g u).length ≤ 2 := by
  unfold difU
  split
  · split <;> simp
  · split
    · simp
    · rw [List.length_append]; split <;> split <;> simp
theorem difU_asc (n : Nat) (f : Nat → Lis) (m : Nat) (g : Nat → Rec) (u : Int) : (difU n f m g u).Pairwise fun a b => lessD a b = true := by
  unfold difU
  split
  · split <;> simp
  · split
    · simp
    · split <;> split <;> simp [lessD]
theorem outOf_len (n : Nat) (f : Nat → Lis) (m : Nat) (g : Nat → Rec) : ∀ ks : List Key, (outOf n f m g ks).length ≤ 2 * ks.length
  | [] => by simp [outOf]
  | k :: ks => by
    have h1 := outOf_len n f m g ks
    have h2 := difU_len n f m g (keyI k)
    unfold outOf at h1 ⊢
    rw [List.flatMap_cons, List.length_append, List.length_cons]; omega
theorem outOf_snoc (n : Nat) (f : Nat → Lis) (m : Nat) (g : Nat → Rec) (ks : List Key) (u : Int) : outOf n f m g (ks ++ [.i u]) = outOf n f m g ks ++ difU n f m g u := by
  unfold outOf; rw [List.flatMap_append]; simp [keyI]
theorem gather_asc {n : Nat} {f : Nat → Lis} {m : Nat} {g : Nat → Rec} : ∀ k, (gather (fun q => difU n f m g ((q : Int) + 1)) k).Pairwise (fun a b => lessD a b = true) ∧ ∀ d ∈ gather (fun q => difU n f m g ((q : Int) + 1)) k, d.Number ≤ k
  | 0 => by simp [gather]
  | k + 1 => by
    obtain ⟨h1, h2⟩ := gather_asc k
    rw [gather]
    refine ⟨?_, ?_⟩
    · rw [List.pairwise_append]
      refine ⟨h1, difU_asc _ _ _ _ _, fun a ha b hb => ?_⟩
      have := h2 a ha
      have := difU_num hb
      rw [lessD_iff]; omega
    · intro d hd
      rcases List.mem_append.1 hd with h | h
      · have := h2 d h; omega
      · have := difU_num h; omega
theorem allD_asc (n : Nat) (f : Nat → Lis) (m : Nat) (g : Nat → Rec) : (allD n f m g).Pairwise fun a b => lessD a b = true := (gather_asc 9999).1
theorem gather_flat {β : Type} (F : Nat → List β) : ∀ k, gather F k = (List.range k).flatMap F
  | 0 => rfl
  | k + 1 => by rw [gather, gather_flat F k, List.range_succ, List.flatMap_append]; simp
theorem flat_nil {α β : Type} {F : α → List β} : ∀ {l : List α}, (∀ a ∈ l, F a = []) → l.flatMap F = []
  | [], _ => rfl
  | a :: l, h => by rw [List.flatMap_cons, h a (by simp), flat_nil fun b hb => h b (by simp [hb])]; rfl
theorem flat_sub {α β : Type} [DecidableEq α] {F : α → List β} {A B : List α} (hA : A.Nodup) (hB : B.Nodup) (hs : ∀ a ∈ A, a ∈ B) (hn : ∀ b ∈ B, b ∉ A → F b = []) : (A.flatMap F).Perm (B.flatMap F) := by
  have h1 : B.Perm (A ++ B.filter fun b => decide (b ∉ A)) := by
    rw [List.perm_ext_iff_of_nodup hB (by
      rw [List.nodup_append]
      refine ⟨hA, hB.filter _, fun a ha b hb e => ?_⟩
      rw [List.mem_filter] at hb
      simp [← e, ha] at hb)]
    intro b
    rw [List.mem_append, List.mem_filter]
    by_cases h : b ∈ A
    · simp [h, hs b h]
    · simp [h]
  refine List.Perm.symm ((h1.flatMap_right F).trans ?_)
  rw [List.flatMap_append, flat_nil (l := B.filter _) (fun a ha => by rw [List.mem_filter] at ha; exact hn a ha.1 (by simpa using ha.2)), List.append_nil]
/-- where numbers lie within 1 .. 9999, the map's keys give what the reference gathers -/
theorem out_perm {n m : Nat} {f : Nat → Lis} {g : Nat → Rec} (h1 : ∀ i, i < n → 1 ≤ (f i).Number ∧ (f i).Number ≤ 9999) (h2 : ∀ i, i < m → 1 ≤ (g i).Number ∧ (g i).Number ≤ 9999) : (outOf n f m g (ksR n f g m)).Perm (allD n f m g) := by
  unfold allD
  rw [gather_flat]
  have e : (List.range 9999).flatMap (fun (q : Nat) => difU n f m g ((q : Int) + 1)) = ((List.range 9999).map fun (q : Nat) => Key.i ((q : Int) + 1)).flatMap fun k => difU n f m g (keyI k) := by
    rw [List.flatMap_map]; rfl
  rw [e]
  refine flat_sub (nodup_ksR n f g m) ?_ ?_ ?_
  · rw [List.Nodup, List.pairwise_map]
    refine List.Pairwise.imp ?_ (List.nodup_range (n := 9999))
    intro a b h h'
    simp at h'; omega
  · intro k hk
    rcases (mem_ksR n f g k m).1 hk with ⟨i, hi, rfl⟩ | ⟨i, hi, rfl⟩
    · have := h1 i hi
      exact List.mem_map.2 ⟨((f i).Number - 1).toNat, List.mem_range.2 (by omega), by simp; omega⟩
    · have := h2 i hi
      exact List.mem_map.2 ⟨((g i).Number - 1).toNat, List.mem_range.2 (by omega), by simp; omega⟩
  · intro k hk hn
    obtain ⟨q, _, rfl⟩ := List.mem_map.1 hk
    refine difU_none ?_ ?_
    · rw [← Bool.not_eq_true, findL_iff]
      rintro ⟨i, h3, h4⟩
      exact hn ((mem_ksR n f g _ m).2 (.inl ⟨i, h3, by rw [h4]; rfl⟩))
    · rw [← Bool.not_eq_true, gotR_iff]
      rintro ⟨i, h3, h4⟩
      exact hn ((mem_ksR n f g _ m).2 (.inr ⟨i, h3, by rw [h4]; rfl⟩))
theorem ordD_negS (a b : Dif) : ordD b a = - ordD a b := by
  unfold ordD
  rw [cmpI_neg a.Number, cmpI_neg a.Kind]
  by_cases h1 : cmpI a.Number b.Number = 0
  · simp [h1]
  · rw [if_pos (by omega), if_pos h1]
theorem sorted_eq : ∀ {A B : List Dif}, A.Perm B → A.Pairwise (fun a b => ordD a b ≤ 0) → B.Pairwise (fun a b => lessD a b = true) → A = B
  | [], B, h, _, _ => by simpa using h.nil_eq
  | a :: A, [], h, _, _ => by have := h.length_eq; simp at this
  | a :: A, b :: B, h, h1, h2 => by
    rw [List.pairwise_cons] at h1 h2
    have e : a = b := by
      refine Decidable.byContradiction fun hne => ?_
      have ha : a ∈ B := by
        rcases List.mem_cons.1 (h.mem_iff.1 (List.mem_cons_self ..)) with h3 | h3
        · exact absurd h3 hne
        · exact h3
      have hb : b ∈ A := by
        rcases List.mem_cons.1 (h.mem_iff.2 (List.mem_cons_self ..)) with h3 | h3
        · exact absurd h3.symm hne
        · exact h3
      have k1 := h1.1 b hb
      have k2 := (ordD_neg b a).2 (h2.1 a ha)
      rw [ordD_negS a b] at k2
      omega
    subst e
    rw [sorted_eq ((List.perm_cons a).1 h) h1.2 h2.2]
theorem sorted_all {n m : Nat} {f : Nat → Lis} {g : Nat → Rec} (h1 : ∀ i, i < n → 1 ≤ (f i).Number ∧ (f i).Number ≤ 9999) (h2 : ∀ i, i < m → 1 ≤ (g i).Number ∧ (g i).Number ≤ 9999) {ks : List Key} (hk : ks.Perm (ksR n f g m)) {L : List Dif} (hL : L.Perm (outOf n f m g ks)) (hs : L.Pairwise fun a b => ordD a b ≤ 0) : L = allD n f m g :=
  sorted_eq ((hL.trans (hk.flatMap_right _)).trans (out_perm h1 h2)) hs (allD_asc n f m g)
theorem cat_row {α : Type} [Inhabited α] {enc : α → List D} {l : List α} {x : α} {ds : List D} {sz : Nat} {row : Nat → List D} (hr : ∀ i, i < l.length → row i = enc (nth l i)) (h : ds.take sz = enc x) : ∀ i, i < (l ++ [x]).length → catRows l.length row (rowsOf sz ds) i = enc (nth (l ++ [x]) i) := by
  intro i hi
  rw [List.length_append, List.length_singleton] at hi
  rw [← cat_nth (enc := enc) (x := x) h hi]
  unfold catRows
  split
  · rename_i h1; exact hr i h1
  · rfl
end Go.Proofs.YtnbokgmimbeihaaGreatDoor

/-! Cg -/
namespace Go.Proofs.YtnbokgmimbeihaaGreatDoor
open Go.Abs Go.Arch
set_option linter.unusedVariables false
set_option linter.unusedSimpArgs false
set_option maxRecDepth 100000
set_option maxHeartbeats 1000000


theorem insert0_cs (σ : List Blk) (τ : List Blk) (row : Nat → List D) : CSF Tryz.prog 112 [.ms σ.length 2 0 0, .d (I 0), .d (I 0), .clo (.func 50) [] []] (σ ++ .arr 2 0 row :: τ) (.tup []) := by
  refine CSF.of_body T.en112 Tryz.func112 rfl (by simp [Tryz.ntmps112]) (by simp [go_sem]) fun hwf => ?_
  refine awp_reg_seq fun K hK => ?_
  simp [go_sem, Tryz.ntmps112]
  try simp (disch := omega) only [wrapI]
  repeat refine ⟨by omega, ?_⟩
  refine hK _ ?_; clear hK K
  refine awp_block ?_
  refine awp_forget [0, 1, 2, 3, 8] (by simp [go_sem, restr]; rfl) ?_
  refine awp_loopU (α := Unit) (fun x => []) (fun x => _) (fun x => True) (fun x => 0) () (by simp [go_sem]) (rfl) (trivial) ?_
  rintro ⟨⟩ -
  refine awp_seq ?_
  refine awp_reg_seq fun K hK => ?_
  simp [go_sem]
  repeat refine ⟨by omega, ?_⟩
  refine hK _ ?_; clear hK K
  refine awp_forget [0, 1, 2, 3, 8, 14] (by simp only [restr, List.contains_cons, List.contains_nil, Nat.reduceBEq, Bool.or_false, Bool.or_true, Bool.true_or, Bool.false_or, if_true, if_false, Bool.false_eq_true]; rfl) ?_
  refine awp_cond rfl (fun c0 => ?_) (fun c0 => ?_)
  · have d0 := c0; try simp at d0
  · have d0 := c0; try simp at d0
    refine awp_exit ?_
    simp [go_sem, Tryz.results112, c0, d0] <;> omega

theorem pdq0_cs (σ : List Blk) (τ : List Blk) (row : Nat → List D) (l : Int) : CSF Tryz.prog 97 [.ms σ.length 2 0 0, .d (I 0), .d (I 0), .d (I l), .clo (.func 50) [] []] (σ ++ .arr 2 0 row :: τ) (.tup []) := by
  refine CSF.of_body T.en97 Tryz.func97 rfl (by simp [Tryz.ntmps97]) (by simp [go_sem]) fun hwf => ?_
  refine awp_reg_seq fun K hK => ?_
  simp [go_sem, Tryz.ntmps97]
  repeat refine ⟨by omega, ?_⟩
  refine hK _ ?_; clear hK K
  refine awp_reg_seq fun K hK => ?_
  simp [go_sem]
  repeat refine ⟨by omega, ?_⟩
  refine hK _ ?_; clear hK K
  refine awp_block ?_
  refine awp_forget [0, 1, 2, 3, 4, 10, 11] (by simp [go_sem, restr]; rfl) ?_
  refine awp_loopU (α := Unit) (fun x => []) (fun x => _) (fun x => True) (fun x => 0) () (by simp [go_sem]) (rfl) (trivial) ?_
  rintro ⟨⟩ -
  refine awp_block ?_
  refine awp_reg_seq fun K hK => ?_
  simp [go_sem]
  try simp (disch := omega) only [wrapI]
  repeat refine ⟨by omega, ?_⟩
  refine hK _ ?_; clear hK K
  refine awp_seq ?_
  refine awp_reg_seq fun K hK => ?_
  simp [go_sem]
  repeat refine ⟨by omega, ?_⟩
  refine hK _ ?_; clear hK K
  refine awp_forget [0, 1, 2, 3, 4, 10, 11, 12, 25] (by simp only [restr, List.contains_cons, List.contains_nil, Nat.reduceBEq, Bool.or_false, Bool.or_true, Bool.true_or, Bool.false_or, if_true, if_false, Bool.false_eq_true]; rfl) ?_
  refine awp_cond rfl (fun c0 => ?_) (fun c0 => ?_)
  · have d0 := c0; try simp at d0
    refine awp_reg_seq fun K hK => ?_
    simp [go_sem, c0, d0]
    repeat refine ⟨by omega, ?_⟩
    refine CSk.mk (insert0_cs σ τ row) ?_
    simp [go_sem, c0, d0]
    repeat refine ⟨by omega, ?_⟩
    refine hK _ ?_; clear hK K
    refine awp_ret ?_
    simp [go_sem, Tryz.results97, c0, d0] <;> omega
  · have d0 := c0; try simp at d0

theorem sort0_cs (σ : List Blk) (τ : List Blk) (row : Nat → List D) : CSF Tryz.prog 80 [.ms σ.length 2 0 0, .clo (.func 50) [] []] (σ ++ .arr 2 0 row :: τ) (.tup []) := by
  refine CSF.of_body T.en80 Tryz.func80 rfl (by simp [Tryz.ntmps80]) (by simp [go_sem]) fun hwf => ?_
  refine awp_reg_seq fun K hK => ?_
  simp [go_sem, Tryz.ntmps80]
  repeat refine ⟨by omega, ?_⟩
  refine hK _ ?_; clear hK K
  refine awp_reg_end fun K hK => ?_
  simp [go_sem]
  repeat refine ⟨by omega, ?_⟩
  refine CSk.mk (bitsLen_cs _ 0 (by omega)) ?_
  simp [go_sem]
  repeat refine ⟨by omega, ?_⟩
  refine CSk.mk (pdq0_cs σ τ row _) ?_
  simp [go_sem]
  repeat refine ⟨by omega, ?_⟩
  refine hK _ ?_; clear hK K
  simp [go_sem, Tryz.results80] <;> omega

theorem sortDif_cs (σ τ : List Blk) (n : Nat) (g : Nat → Dif) (hn : n < 1000000000) :
    CS Tryz.prog 80 [.ms σ.length 2 0 n, .clo (.func 50) [] []] (σ ++ .arr 2 n (fun i => Dif.enc (g i)) :: τ) (fun r σ' X => r = .tup [] ∧ X = [] ∧ ∃ (L : List Dif) (row : Nat → List D), L.Perm (lst n g) ∧ L.Pairwise (fun a b => ordD a b ≤ 0) ∧ (∀ i, i < n → row i = Dif.enc (nth L i)) ∧ σ' = σ ++ .arr 2 n row :: τ) := by
  rcases Nat.eq_zero_or_pos n with h | h
  · subst h
    exact (sort0_cs σ τ _).cs ⟨rfl, rfl, [], _, by simp [lst], .nil, fun i hi => by omega, rfl⟩
  · refine (sortDif1_cs σ τ n g h hn).mono ?_
    rintro r σ' X ⟨h1, h2, L, h3, h4, h5⟩
    exact ⟨h1, h2, L, _, h3, h4, fun _ _ => rfl, h5⟩
theorem tlChk_ok {t : TL} (h : (tlChk t).2 = 0) : t.n ≤ 128 ∧ tlHead t = true ∧ ∀ i, i < t.n → lisE t.g i = 0 := by
  unfold tlChk at h
  split at h
  · simp at h
  · rename_i h0
    split at h
    · simp at h
    · split at h
      · simp at h
      · refine ⟨by omega, by simpa using h0, fun i hi => (firstP_snd.1 h) i (Nat.zero_le _) (by omega)⟩
theorem lisE_zero {g : Nat → Lis} {i : Nat} (h : lisE g i = 0) : rangeB (g i) = true ∧ (0 < i → (g (i - 1)).Number < (g i).Number) := by
  unfold lisE at h
  split at h
  · rename_i h0; exact absurd h h0
  · rename_i h0
    split at h
    · simp at h
    · rename_i h1
      refine ⟨?_, fun hp => by omega⟩
      simp only [ne_eq, Decidable.not_not] at h0
      unfold lisE0 at h0
      split at h0
      · simp at h0
      · rename_i h2; simpa using h2
theorem tl_asc {t : TL} (h : (tlChk t).2 = 0) : AscL t.n t.g := fun i hp hi => (lisE_zero ((tlChk_ok h).2.2 i hi)).2 hp
theorem tl_num {t : TL} (h : (tlChk t).2 = 0) : ∀ i, i < t.n → 1 ≤ (t.g i).Number ∧ (t.g i).Number ≤ 9999 := fun i hi => by
  have := ((rangeB_iff _).1 (lisE_zero ((tlChk_ok h).2.2 i hi)).1).1
  exact inB_iff.1 this
theorem rec_num {m : Nat} {g : Nat → Rec} (h : OrdR m g) : ∀ i, i < m → 1 ≤ (g i).Number ∧ (g i).Number ≤ 9999 := fun i hi => by
  have := (recE_zero _).1 (h i hi).1
  omega
theorem ksI_int (g : Nat → Lis) (n : Nat) : ∀ k, k ∈ ksI g n → ∃ u, k = Key.i u := fun k hk => by
  obtain ⟨i, _, h⟩ := (mem_ksI g k n).1 hk; exact ⟨_, h⟩
theorem ksR_int (n : Nat) (f : Nat → Lis) (g : Nat → Rec) (m : Nat) : ∀ k, k ∈ ksR n f g m → ∃ u, k = Key.i u := fun k hk => by
  rcases (mem_ksR n f g k m).1 hk with ⟨i, _, h⟩ | ⟨i, _, h⟩ <;> exact ⟨_, h⟩


theorem erase_perm {ks L sn : List Key} {k : Key} (h : (L ++ sn).Perm ks) (hk : k ∈ L) : (L.erase k ++ (sn ++ [k])).Perm ks := by
  refine List.Perm.trans ?_ h
  rw [← List.append_assoc]
  refine (List.perm_append_singleton k _).trans ?_
  rw [← List.cons_append]
  exact (List.perm_cons_erase hk).symm.append_right _
theorem outOf_small {n m : Nat} {f : Nat → Lis} {g : Nat → Rec} {L sn : List Key} (h : (L ++ sn).Perm (ksR n f g m)) (hn : n ≤ 128) (hm : m ≤ 1000) : (outOf n f m g sn).length ≤ 2256 := by
  have h1 := outOf_len n f m g sn
  have h2 := h.length_eq
  have h3 := len_ksR n f g m
  rw [List.length_append] at h2
  omega
theorem ks_or {n m : Nat} {f : Nat → Lis} {g : Nat → Rec} {u : Int} (h : Key.i u ∈ ksR n f g m) (h2 : (gotR m g u).2 = false) : (findL n f u).2 = true := by
  rcases (mem_ksR n f g _ m).1 h with ⟨i, hi, e⟩ | ⟨i, hi, e⟩
  · rw [findL_iff]; exact ⟨i, hi, by simpa using e.symm⟩
  · have : (gotR m g u).2 = true := (gotR_iff g u m).2 ⟨i, hi, by simpa using e.symm⟩
    rw [this] at h2; cases h2


theorem compareM_cs (σ : List Blk) (t : TL) (c : Option Nat) (m : Nat) (g : Nat → Rec) (ht : (tlChk t).2 = 0) (hg : OrdR m g) (hm : m ≤ 1000) : CS Tryz.prog 48 [.agg (t.enc.map .d), .d (SL c 3 Rec.enc m g)] σ (fun r σ' X => ∃ B, r = .ms (σ.length + 2) 2 0 (allD t.n t.g m g).length ∧ σ' = σ ++ [.var (t.enc.map .d), B, .arr 2 (allD t.n t.g m g).length (fun i => Dif.enc (nth (allD t.n t.g m g) i))] ∧ X = [σ.length + 1, σ.length + 2]) := by
  have htn := (tlChk_ok ht).1
  have hasc := tl_asc ht
  refine CS.of_bodyW T.en48 Tryz.func48 rfl (by simp [Tryz.ntmps48]) fun hwf => ?_
  refine awp_reg_seq fun K hK => ?_
  simp [go_sem, Tryz.ntmps48, mapF, keyI, itNext, itTup, Key.v, nilOk]
  repeat refine ⟨by omega, ?_⟩
  refine hK _ ?_; clear hK K
  refine awp_reg_seq fun K hK => ?_
  simp [go_sem, mapF, keyI, itNext, itTup, Key.v, nilOk]
  repeat refine ⟨by omega, ?_⟩
  refine hK _ ?_; clear hK K
  refine awp_seq ?_
  refine awp_map (σ.length + 1) (ks' := ksI t.g 0) (f' := mapF t.g g 0 0) (by simp [go_sem]; first | exact ⟨rfl, rfl, rfl⟩ | exact ⟨rfl, rfl⟩ | rfl) (.refl _) (fun k hk => nomatch hk) (fun _ => rfl) (by first | (simp [go_sem]; rfl) | rfl) ?_
  refine awp_reg_seq fun K hK => ?_
  simp [go_sem, mapF, keyI, itNext, itTup, Key.v, nilOk]
  repeat refine ⟨by omega, ?_⟩
  refine hK _ ?_; clear hK K
  refine awp_block ?_
  refine awp_forget [1, 2, 5, 15, 16, 17] (by simp [go_sem, restr]; rfl) ?_
  refine awp_loopU (α := Nat) (fun i => [(17, .d (I i))]) (fun i => σ ++ [.var (t.enc.map .d), .mp false (ksI t.g i) (mapF t.g g i 0)]) (fun i => i ≤ t.n) (fun i => t.n - i) 0 (by simp [go_sem, mapF, keyI, itNext, itTup, Key.v, nilOk]) (rfl) (by simp) ?_
  rintro i hi
  refine awp_reg_seq fun K hK => ?_
  simp [go_sem, mapF, keyI, itNext, itTup, Key.v, nilOk]
  repeat refine ⟨by omega, ?_⟩
  refine hK _ ?_; clear hK K
  refine awp_seq ?_
  refine awp_forget [1, 2, 5, 15, 16, 17, 18] (by simp only [restr, List.contains_cons, List.contains_nil, Nat.reduceBEq, Bool.or_false, Bool.or_true, Bool.true_or, Bool.false_or, if_true, if_false, Bool.false_eq_true]; rfl) ?_
  refine awp_cond rfl (fun c0 => ?_) (fun c0 => ?_)
  · have d0 := c0; try simp at d0
    refine awp_skip ?_
    refine awp_seq ?_
    refine awp_block ?_
    refine awp_reg_seq fun K hK => ?_
    simp [go_sem, mapF, keyI, itNext, itTup, Key.v, nilOk, c0, d0]
    repeat refine ⟨by omega, ?_⟩
    refine hK _ ?_; clear hK K
    refine awp_draw_end 8 T.mixed (by kernel_rfl) fun K hK => ?_
    simp [go_sem, mapF, keyI, itNext, itTup, Key.v, nilOk, c0, d0]
    repeat refine ⟨by omega, ?_⟩
    refine hK _ ?_; clear hK K
    refine awp_map (σ.length + 1) (ks' := ksI t.g (i + 1)) (f' := mapF t.g g (i + 1) 0) (by simp [go_sem]; first | exact ⟨rfl, rfl, rfl⟩ | exact ⟨rfl, rfl⟩ | rfl) (.refl _) (by exact mapF_item hasc g d0 _ (ksI_int t.g (i + 1))) (fun _ => rfl) (by first | (simp [go_sem]; rfl) | rfl) ?_
    refine awp_reg_end fun K hK => ?_
    simp [go_sem, mapF, keyI, itNext, itTup, Key.v, nilOk, c0, d0]
    try simp (disch := omega) only [wrapI]
    repeat refine ⟨by omega, ?_⟩
    refine hK _ ?_; clear hK K
    refine ⟨i + 1, back_of' (by simp [go_sem, wrap_succ (i := i) (by omega), mapF, keyI, itNext, itTup, Key.v, nilOk, c0, d0]) ((leaves_app (by simp [go_sem]))) (by (simp [go_sem, wrap_succ (i := i) (by omega), mapF, keyI, itNext, itTup, Key.v, nilOk, c0, d0] <;> omega)), by omega, by first | omega | (dsimp only; omega)⟩
  · have d0 := c0; try simp at d0
    obtain rfl : i = t.n := by omega
    refine awp_exit ?_
    refine awp_seq ?_
    refine awp_reg_seq fun K hK => ?_
    simp [go_sem, mapF, keyI, itNext, itTup, Key.v, nilOk, c0, d0]
    repeat refine ⟨by omega, ?_⟩
    refine hK _ ?_; clear hK K
    refine awp_block ?_
    refine awp_forget [1, 5, 31, 32, 33] (by simp [go_sem, restr]; rfl) ?_
    refine awp_loopU (α := Nat) (fun j => [(33, .d (I j))]) (fun j => σ ++ [.var (t.enc.map .d), .mp false (ksR t.n t.g g j) (mapF t.g g t.n j)]) (fun j => j ≤ m) (fun j => m - j) 0 (by simp [go_sem, mapF, keyI, itNext, itTup, Key.v, nilOk]) (rfl) (by simp) ?_
    rintro j hj
    refine awp_reg_seq fun K hK => ?_
    simp [go_sem, mapF, keyI, itNext, itTup, Key.v, nilOk, c0, d0]
    repeat refine ⟨by omega, ?_⟩
    refine hK _ ?_; clear hK K
    refine awp_seq ?_
    refine awp_forget [1, 5, 31, 32, 33, 34] (by simp only [restr, List.contains_cons, List.contains_nil, Nat.reduceBEq, Bool.or_false, Bool.or_true, Bool.true_or, Bool.false_or, if_true, if_false, Bool.false_eq_true]; rfl) ?_
    refine awp_cond rfl (fun c1 => ?_) (fun c1 => ?_)
    · have d1 := c1; try simp at d1
      refine awp_skip ?_
      refine awp_seq ?_
      refine awp_block ?_
      refine awp_reg_seq fun K hK => ?_
      simp [go_sem, mapF, keyI, itNext, itTup, Key.v, nilOk, c0, d0, c1, d1]
      repeat refine ⟨by omega, ?_⟩
      refine hK _ ?_; clear hK K
      refine awp_draw_end 12 T.mixed (by kernel_rfl) fun K hK => ?_
      simp [go_sem, mapF, keyI, itNext, itTup, Key.v, nilOk, c0, d0, c1, d1]
      repeat refine ⟨by omega, ?_⟩
      refine hK _ ?_; clear hK K
      refine awp_map (σ.length + 1) (ks' := ksR t.n t.g g (j + 1)) (f' := mapF t.g g t.n (j + 1)) (by simp [go_sem]; first | exact ⟨rfl, rfl, rfl⟩ | exact ⟨rfl, rfl⟩ | rfl) (.refl _) (by exact mapF_rec hg d1 (ksR t.n t.g g j) (fun k => mem_ksR t.n t.g g k j) _ (ksR_int t.n t.g g (j + 1))) (fun _ => rfl) (by first | (simp [go_sem]; rfl) | rfl) ?_
      refine awp_reg_end fun K hK => ?_
      simp [go_sem, mapF, keyI, itNext, itTup, Key.v, nilOk, c0, d0, c1, d1]
      try simp (disch := omega) only [wrapI]
      repeat refine ⟨by omega, ?_⟩
      refine hK _ ?_; clear hK K
      refine ⟨j + 1, back_of' (by simp [go_sem, wrap_succ (i := j) (by omega), mapF, keyI, itNext, itTup, Key.v, nilOk, c0, d0, c1, d1]) ((leaves_app (by simp [go_sem]))) (by (simp [go_sem, wrap_succ (i := j) (by omega), mapF, keyI, itNext, itTup, Key.v, nilOk, c0, d0, c1, d1] <;> omega)), by omega, by first | omega | (dsimp only; omega)⟩
    · have d1 := c1; try simp at d1
      obtain rfl : m = j := by omega
      refine awp_exit ?_
      refine awp_reg_seq fun K hK => ?_
      simp [go_sem, mapF, keyI, itNext, itTup, Key.v, nilOk, c0, d0, c1, d1]
      repeat refine ⟨by omega, ?_⟩
      refine hK _ ?_; clear hK K
      refine awp_seq ?_
      refine awp_thawT 10 2 (fun i => Dif.enc (nth ([] : List Dif) i)) (by simp [go_sem]) (by simp [go_sem]; rfl) ?_
      refine awp_reg_seq fun K hK => ?_
      simp [go_sem, mapF, keyI, itNext, itTup, Key.v, nilOk, c0, d0, c1, d1, hwf.one, hwf.zero]
      repeat refine ⟨by omega, ?_⟩
      refine hK _ ?_; clear hK K
      refine awp_block ?_
      refine awp_forget [10, 52] (by simp [go_sem, restr]; rfl) ?_
      refine awp_mv [σ.length + 1, σ.length + 2] (by simp) ?_
      refine awp_loopU (α := List Key × List Key × (Nat → List D) × Option Key) (fun x => [(10, .ms (σ.length + 2) 2 0 (outOf t.n t.g m g x.2.1).length)]) (fun x => σ ++ [.var (t.enc.map .d), .it x.1 x.2.2.2 (mapF t.g g t.n m), .arr 2 (outOf t.n t.g m g x.2.1).length x.2.2.1]) (fun x => (x.1 ++ x.2.1).Perm (ksR t.n t.g g m) ∧ ∀ i, i < (outOf t.n t.g m g x.2.1).length → x.2.2.1 i = Dif.enc (nth (outOf t.n t.g m g x.2.1) i)) (fun x => x.1.length) (ksR t.n t.g g m, [], fun i => Dif.enc (nth ([] : List Dif) i), none) (by simp [go_sem, mapF, keyI, itNext, itTup, Key.v, nilOk, outOf]) (rfl) (⟨by simp, fun i hi => by simp [outOf] at hi⟩) ?_
      rintro ⟨L, sn, row, cur⟩ ⟨hp, hr⟩
      dsimp only at hp hr
      refine awp_reg_seq fun K hK => ?_
      simp [go_sem, mapF, keyI, itNext, itTup, Key.v, nilOk, c0, d0, c1, d1]
      intro o ho1 ho2
      repeat refine ⟨by omega, ?_⟩
      refine hK _ ?_; clear hK K
      refine awp_seq ?_
      refine awp_forget [10, 52, 54] (by simp only [restr, List.contains_cons, List.contains_nil, Nat.reduceBEq, Bool.or_false, Bool.or_true, Bool.true_or, Bool.false_or, if_true, if_false, Bool.false_eq_true]; rfl) ?_
      refine awp_cond rfl (fun c2 => ?_) (fun c2 => ?_)
      · have d2 := c2; try simp at d2
        obtain ⟨k, rfl⟩ := Option.isSome_iff_exists.1 d2
        have hk := ho2 k rfl
        obtain ⟨v, rfl⟩ := ksR_int t.n t.g g m k (hp.mem_iff.1 (List.mem_append_left _ hk))
        have hks := hp.mem_iff.1 (List.mem_append_left sn hk)
        have hsm := outOf_small hp htn hm
        refine awp_skip ?_
        refine awp_block ?_
        refine awp_reg_seq fun K hK => ?_
        simp [go_sem, mapF, keyI, itNext, itTup, Key.v, nilOk, c0, d0, c1, d1, c2, d2]
        repeat refine ⟨by omega, ?_⟩
        refine hK _ ?_; clear hK K
        refine awp_block ?_
        refine awp_reg_seq fun K hK => ?_
        simp [go_sem, mapF, keyI, itNext, itTup, Key.v, nilOk, c0, d0, c1, d1, c2, d2]
        repeat refine ⟨by omega, ?_⟩
        refine hK _ ?_; clear hK K
        refine awp_forget [10, 11, 12, 52, 90] (by simp only [restr, List.contains_cons, List.contains_nil, Nat.reduceBEq, Bool.or_false, Bool.or_true, Bool.true_or, Bool.false_or, if_true, if_false, Bool.false_eq_true]; rfl) ?_
        refine awp_cond rfl (fun c3 => ?_) (fun c3 => ?_)
        · have d3 := c3; try simp at d3
          have hf := ks_or hks d3
          have hout : outOf t.n t.g m g (sn ++ [.i v]) = outOf t.n t.g m g sn ++ [⟨1, v⟩] := by rw [outOf_snoc]; unfold difU; rw [if_pos d3, if_pos hf]
          refine awp_reg_end fun K hK => ?_
          simp [go_sem, mapF, keyI, itNext, itTup, Key.v, nilOk, c0, d0, c1, d1, c2, d2, c3, d3, hout, hwf.one, hwf.zero]
          repeat refine ⟨by omega, ?_⟩
          refine hK _ ?_; clear hK K
          refine ⟨(L.erase (.i v), sn ++ [.i v], catRows (outOf t.n t.g m g sn).length row (rowsOf 2 [I 1, I v]), some (.i v)), back_of' (by simp [go_sem, mapF, keyI, itNext, itTup, Key.v, nilOk, c0, d0, c1, d1, c2, d2, c3, d3, hout]) ((leaves_app (by simp [go_sem]))) (by (simp [go_sem, mapF, keyI, itNext, itTup, Key.v, nilOk, c0, d0, c1, d1, c2, d2, c3, d3, hout] <;> omega)), ⟨erase_perm hp hk, by dsimp only; rw [hout]; exact cat_row (x := Dif.mk 1 v) hr rfl⟩, by have h1 := List.length_erase_of_mem hk; have h2 := List.length_pos_of_mem hk; dsimp only; omega⟩
        · have d3 := c3; try simp at d3
          refine awp_reg_seq fun K hK => ?_
          simp [go_sem, mapF, keyI, itNext, itTup, Key.v, nilOk, c0, d0, c1, d1, c2, d2, c3, d3]
          repeat refine ⟨by omega, ?_⟩
          refine hK _ ?_; clear hK K
          refine awp_forget [10, 11, 12, 52, 99] (by simp only [restr, List.contains_cons, List.contains_nil, Nat.reduceBEq, Bool.or_false, Bool.or_true, Bool.true_or, Bool.false_or, if_true, if_false, Bool.false_eq_true]; rfl) ?_
          refine awp_cond rfl (fun c4 => ?_) (fun c4 => ?_)
          · have d4 := c4; try simp at d4
            have hout : outOf t.n t.g m g (sn ++ [.i v]) = outOf t.n t.g m g sn ++ [⟨2, v⟩] := by rw [outOf_snoc]; unfold difU; rw [if_neg (by simp [d3]), if_pos d4]
            refine awp_reg_end fun K hK => ?_
            simp [go_sem, mapF, keyI, itNext, itTup, Key.v, nilOk, c0, d0, c1, d1, c2, d2, c3, d3, c4, d4, hout, hwf.one, hwf.zero]
            repeat refine ⟨by omega, ?_⟩
            refine hK _ ?_; clear hK K
            refine ⟨(L.erase (.i v), sn ++ [.i v], catRows (outOf t.n t.g m g sn).length row (rowsOf 2 [I 2, I v]), some (.i v)), back_of' (by simp [go_sem, mapF, keyI, itNext, itTup, Key.v, nilOk, c0, d0, c1, d1, c2, d2, c3, d3, c4, d4, hout]) ((leaves_app (by simp [go_sem]))) (by (simp [go_sem, mapF, keyI, itNext, itTup, Key.v, nilOk, c0, d0, c1, d1, c2, d2, c3, d3, c4, d4, hout] <;> omega)), ⟨erase_perm hp hk, by dsimp only; rw [hout]; exact cat_row (x := Dif.mk 2 v) hr rfl⟩, by have h1 := List.length_erase_of_mem hk; have h2 := List.length_pos_of_mem hk; dsimp only; omega⟩
          · have d4 := c4; try simp at d4
            refine awp_seq ?_
            refine awp_draw_seq 11 T.mixed (by kernel_rfl) fun K hK => ?_
            simp [go_sem, mapF, keyI, itNext, itTup, Key.v, nilOk, c0, d0, c1, d1, c2, d2, c3, d3, c4, d4]
            repeat refine ⟨by omega, ?_⟩
            refine hK _ ?_; clear hK K
            refine awp_forget [10, 11, 12, 52, 68] (by simp only [restr, List.contains_cons, List.contains_nil, Nat.reduceBEq, Bool.or_false, Bool.or_true, Bool.true_or, Bool.false_or, if_true, if_false, Bool.false_eq_true]; rfl) ?_
            refine awp_cond rfl (fun c5 => ?_) (fun c5 => ?_)
            · have d5 := c5; try simp at d5
              refine awp_reg_end fun K hK => ?_
              simp [go_sem, mapF, keyI, itNext, itTup, Key.v, nilOk, c0, d0, c1, d1, c2, d2, c3, d3, c4, d4, c5, d5, hwf.one, hwf.zero]
              repeat refine ⟨by omega, ?_⟩
              refine hK _ ?_; clear hK K
              refine awp_draw_seq 11 T.mixed (by kernel_rfl) fun K hK => ?_
              simp [go_sem, mapF, keyI, itNext, itTup, Key.v, nilOk, c0, d0, c1, d1, c2, d2, c3, d3, c4, d4, c5, d5]
              repeat refine ⟨by omega, ?_⟩
              refine hK _ ?_; clear hK K
              refine awp_forget [10, 11, 52, 84] (by simp only [restr, List.contains_cons, List.contains_nil, Nat.reduceBEq, Bool.or_false, Bool.or_true, Bool.true_or, Bool.false_or, if_true, if_false, Bool.false_eq_true]; rfl) ?_
              refine awp_cond rfl (fun c6 => ?_) (fun c6 => ?_)
              · have d6 := c6; try simp at d6
                have hout : outOf t.n t.g m g (sn ++ [.i v]) = outOf t.n t.g m g sn ++ [⟨3, v⟩, ⟨4, v⟩] := by rw [outOf_snoc]; unfold difU; rw [if_neg (by simp [d3]), if_neg (by simp [d4]), if_pos (fun h => d5 h.symm), if_pos (fun h => d6 h.symm)]; rfl
                refine awp_reg_end fun K hK => ?_
                simp [go_sem, mapF, keyI, itNext, itTup, Key.v, nilOk, c0, d0, c1, d1, c2, d2, c3, d3, c4, d4, c5, d5, c6, d6, hout, hwf.one, hwf.zero]
                repeat refine ⟨by omega, ?_⟩
                refine hK _ ?_; clear hK K
                refine ⟨(L.erase (.i v), sn ++ [.i v], catRows ((outOf t.n t.g m g sn).length + 1) (catRows (outOf t.n t.g m g sn).length row (rowsOf 2 [I 3, I v])) (rowsOf 2 [I 4, I v]), some (.i v)), back_of' (by simp [go_sem, mapF, keyI, itNext, itTup, Key.v, nilOk, c0, d0, c1, d1, c2, d2, c3, d3, c4, d4, c5, d5, c6, d6, hout]) ((leaves_app (by simp [go_sem]))) (by (simp [go_sem, mapF, keyI, itNext, itTup, Key.v, nilOk, c0, d0, c1, d1, c2, d2, c3, d3, c4, d4, c5, d5, c6, d6, hout] <;> omega)), ⟨erase_perm hp hk, by dsimp only; rw [hout]; have h1 := cat_row (enc := Dif.enc) (sz := 2) (x := Dif.mk 3 v) (ds := [I 3, I v]) hr rfl; have h2 := cat_row (enc := Dif.enc) (sz := 2) (x := Dif.mk 4 v) (ds := [I 4, I v]) h1 rfl; simpa using h2⟩, by have h1 := List.length_erase_of_mem hk; have h2 := List.length_pos_of_mem hk; dsimp only; omega⟩
              · have d6 := c6; try simp at d6
                have hout : outOf t.n t.g m g (sn ++ [.i v]) = outOf t.n t.g m g sn ++ [⟨3, v⟩] := by rw [outOf_snoc]; unfold difU; rw [if_neg (by simp [d3]), if_neg (by simp [d4]), if_pos (fun h => d5 h.symm), if_neg (fun h => h d6.symm)]; rfl
                refine awp_skip ?_
                refine ⟨(L.erase (.i v), sn ++ [.i v], catRows (outOf t.n t.g m g sn).length row (rowsOf 2 [I 3, I v]), some (.i v)), back_of' (by simp [go_sem, mapF, keyI, itNext, itTup, Key.v, nilOk, c0, d0, c1, d1, c2, d2, c3, d3, c4, d4, c5, d5, c6, d6, hout]) ((leaves_app (by simp [go_sem]))) (by (simp [go_sem, mapF, keyI, itNext, itTup, Key.v, nilOk, c0, d0, c1, d1, c2, d2, c3, d3, c4, d4, c5, d5, c6, d6, hout] <;> omega)), ⟨erase_perm hp hk, by dsimp only; rw [hout]; exact cat_row (x := Dif.mk 3 v) hr rfl⟩, by have h1 := List.length_erase_of_mem hk; have h2 := List.length_pos_of_mem hk; dsimp only; omega⟩
            · have d5 := c5; try simp at d5
              refine awp_skip ?_
              refine awp_draw_seq 11 T.mixed (by kernel_rfl) fun K hK => ?_
              simp [go_sem, mapF, keyI, itNext, itTup, Key.v, nilOk, c0, d0, c1, d1, c2, d2, c3, d3, c4, d4, c5, d5]
              repeat refine ⟨by omega, ?_⟩
              refine hK _ ?_; clear hK K
              refine awp_forget [10, 11, 52, 84] (by simp only [restr, List.contains_cons, List.contains_nil, Nat.reduceBEq, Bool.or_false, Bool.or_true, Bool.true_or, Bool.false_or, if_true, if_false, Bool.false_eq_true]; rfl) ?_
              refine awp_cond rfl (fun c7 => ?_) (fun c7 => ?_)
              · have d7 := c7; try simp at d7
                have hout : outOf t.n t.g m g (sn ++ [.i v]) = outOf t.n t.g m g sn ++ [⟨4, v⟩] := by rw [outOf_snoc]; unfold difU; rw [if_neg (by simp [d3]), if_neg (by simp [d4]), if_neg (fun h => h d5.symm), if_pos (fun h => d7 h.symm)]; rfl
                refine awp_reg_end fun K hK => ?_
                simp [go_sem, mapF, keyI, itNext, itTup, Key.v, nilOk, c0, d0, c1, d1, c2, d2, c3, d3, c4, d4, c5, d5, c7, d7, hout, hwf.one, hwf.zero]
                repeat refine ⟨by omega, ?_⟩
                refine hK _ ?_; clear hK K
                refine ⟨(L.erase (.i v), sn ++ [.i v], catRows (outOf t.n t.g m g sn).length row (rowsOf 2 [I 4, I v]), some (.i v)), back_of' (by simp [go_sem, mapF, keyI, itNext, itTup, Key.v, nilOk, c0, d0, c1, d1, c2, d2, c3, d3, c4, d4, c5, d5, c7, d7, hout]) ((leaves_app (by simp [go_sem]))) (by (simp [go_sem, mapF, keyI, itNext, itTup, Key.v, nilOk, c0, d0, c1, d1, c2, d2, c3, d3, c4, d4, c5, d5, c7, d7, hout] <;> omega)), ⟨erase_perm hp hk, by dsimp only; rw [hout]; exact cat_row (x := Dif.mk 4 v) hr rfl⟩, by have h1 := List.length_erase_of_mem hk; have h2 := List.length_pos_of_mem hk; dsimp only; omega⟩
              · have d7 := c7; try simp at d7
                have hout : outOf t.n t.g m g (sn ++ [.i v]) = outOf t.n t.g m g sn := by rw [outOf_snoc]; unfold difU; rw [if_neg (by simp [d3]), if_neg (by simp [d4]), if_neg (fun h => h d5.symm), if_neg (fun h => h d7.symm)]; simp
                refine awp_skip ?_
                refine ⟨(L.erase (.i v), sn ++ [.i v], row, some (.i v)), back_of' (by simp [go_sem, mapF, keyI, itNext, itTup, Key.v, nilOk, c0, d0, c1, d1, c2, d2, c3, d3, c4, d4, c5, d5, c7, d7, hout]) ((leaves_app (by simp [go_sem]))) (by (simp [go_sem, mapF, keyI, itNext, itTup, Key.v, nilOk, c0, d0, c1, d1, c2, d2, c3, d3, c4, d4, c5, d5, c7, d7, hout] <;> omega)), ⟨erase_perm hp hk, by dsimp only; rw [hout]; exact hr⟩, by have h1 := List.length_erase_of_mem hk; have h2 := List.length_pos_of_mem hk; dsimp only; omega⟩
      · have d2 := c2; try simp at d2
        obtain rfl : o = none := by simpa using d2
        obtain rfl := ho1 rfl
        have hsm := outOf_small hp htn hm
        rw [List.nil_append] at hp
        refine awp_exit ?_
        refine awp_rows (σ.length + 2) (fun q => Dif.enc (nth (outOf t.n t.g m g sn) q)) (by simp [go_sem]; first | exact ⟨rfl, rfl, rfl⟩ | exact ⟨rfl, rfl⟩ | rfl) (by exact hr) (by simp [go_sem]; rfl) ?_
        refine awp_reg_seq fun K hK => ?_
        simp [go_sem, mapF, keyI, itNext, itTup, Key.v, nilOk, c0, d0, c1, d1, c2, d2]
        repeat refine ⟨by omega, ?_⟩
        have hso := sortDif_cs (σ ++ [.var (t.enc.map .d), .it [] cur (mapF t.g g t.n m)]) [] (outOf t.n t.g m g sn).length (nth (outOf t.n t.g m g sn)) (by omega); simp only [List.append_assoc, List.cons_append, List.nil_append, List.length_append, List.length_cons, List.length_nil, Nat.zero_add, Nat.reduceAdd] at hso; refine CSk.gen hso ?_; rintro r σ' X ⟨rfl, rfl, L', row', hp', hs', hrow', rfl⟩
        simp [go_sem, mapF, keyI, itNext, itTup, Key.v, nilOk, c0, d0, c1, d1, c2, d2]
        repeat refine ⟨by omega, ?_⟩
        refine hK _ ?_; clear hK K
        rw [lst_nth] at hp'
        have hall := sorted_all (tl_num ht) (rec_num hg) hp hp' hs'
        have hlen : (outOf t.n t.g m g sn).length = (allD t.n t.g m g).length := by rw [← hall, hp'.length_eq]
        rw [hall] at hrow'
        refine awp_rows (σ.length + 2) (fun i => Dif.enc (nth (allD t.n t.g m g) i)) (by simp [go_sem]; first | exact ⟨rfl, rfl, rfl⟩ | exact ⟨rfl, rfl⟩ | rfl) (by exact hrow') (by simp [go_sem]; rfl) ?_
        refine awp_reg_seq fun K hK => ?_
        simp [go_sem, mapF, keyI, itNext, itTup, Key.v, nilOk, c0, d0, c1, d1, c2, d2]
        repeat refine ⟨by omega, ?_⟩
        refine hK _ ?_; clear hK K
        refine awp_ret ?_
        simp [go_sem, Tryz.results48, hlen]

theorem compare_cs (σ : List Blk) (t : TL) (c : Option Nat) (m : Nat) (g : Nat → Rec) (ht : (tlChk t).2 = 0) (hg : OrdR m g) (hm : m ≤ 1000) : CSF Tryz.prog 48 [.agg (t.enc.map .d), .d (SL c 3 Rec.enc m g)] σ (.d (SL none 2 Dif.enc (allD t.n t.g m g).length (nth (allD t.n t.g m g)))) :=
  CSF.of_msN ((compareM_cs σ t c m g ht hg hm).mono fun r σ' X ⟨B, h1, h2, h3⟩ => ⟨_, _, h1, h2, by simp, by omega, by rw [h3]; simp⟩)


end Go.Proofs.YtnbokgmimbeihaaGreatDoor

/-! Ch -/
namespace Go.Proofs.YtnbokgmimbeihaaGreatDoor
open Go.Abs Go.Arch
set_option linter.unusedVariables false
set_option linter.unusedSimpArgs false
set_option maxRecDepth 100000
set_option maxHeartbeats 1000000

def difQ (n : Nat) (f : Nat → Lis) (m : Nat) (g : Nat → Rec) (q : Nat) : List Dif := difU n f m g ((q : Int) + 1)
theorem allD_eq (n : Nat) (f : Nat → Lis) (m : Nat) (g : Nat → Rec) : allD n f m g = gather (difQ n f m g) 9999 := rfl
theorem difQ_succ (n : Nat) (f : Nat → Lis) (m : Nat) (g : Nat → Rec) (i : Nat) : gather (difQ n f m g) (i + 1) = gather (difQ n f m g) i ++ difU n f m g ((i : Int) + 1) := rfl
theorem difQ_len (n : Nat) (f : Nat → Lis) (m : Nat) (g : Nat → Rec) : ∀ i, (gather (difQ n f m g) i).length ≤ 2 * i
  | 0 => by simp [gather]
  | i + 1 => by
    have h1 := difQ_len n f m g i
    have h2 := difU_len n f m g ((i : Int) + 1)
    rw [difQ_succ, List.length_append]; omega


theorem ref17_differences_cs (σ : List Blk) (t : TL) (c : Option Nat) (m : Nat) (g : Nat → Rec) (hn : t.n < 1000000000) (hm : m < 1000000000) : CSF Tryz.prog 41 [.agg (t.enc.map .d), .d (SL c 3 Rec.enc m g)] σ (.d (SL none 2 Dif.enc (allD t.n t.g m g).length (nth (allD t.n t.g m g)))) := by
  refine CSF.of_body T.en41 Tryz.func41 rfl (by simp [Tryz.ntmps41]) (by simp [go_sem]) fun hwf => ?_
  refine awp_reg_seq fun K hK => ?_
  simp [go_sem, Tryz.ntmps41]
  repeat refine ⟨by omega, ?_⟩
  refine hK _ ?_; clear hK K
  refine awp_reg_seq fun K hK => ?_
  simp [go_sem]
  repeat refine ⟨by omega, ?_⟩
  refine hK _ ?_; clear hK K
  refine awp_seq ?_
  refine awp_thawT 5 2 (fun i => Dif.enc (nth ([] : List Dif) i)) (by simp [go_sem]) (by simp [go_sem]; rfl) ?_
  refine awp_reg_seq fun K hK => ?_
  simp [go_sem]
  repeat refine ⟨by omega, ?_⟩
  refine hK _ ?_; clear hK K
  refine awp_block ?_
  refine awp_forget [1, 2, 5, 6] (by simp [go_sem, restr]; rfl) ?_
  refine awp_mv [σ.length + 1] (by simp) ?_
  refine awp_loopU (α := Nat × (Nat → List D)) (fun x => [(5, .ms (σ.length + 1) 2 0 (gather (difQ t.n t.g m g) x.1).length), (6, .d (I ((x.1 : Int) + 1)))]) (fun x => σ ++ [.var (t.enc.map .d), .arr 2 (gather (difQ t.n t.g m g) x.1).length x.2]) (fun x => x.1 ≤ 9999 ∧ ∀ q, q < (gather (difQ t.n t.g m g) x.1).length → x.2 q = Dif.enc (nth (gather (difQ t.n t.g m g) x.1) q)) (fun x => 9999 - x.1) (0, fun i => Dif.enc (nth ([] : List Dif) i)) (by simp [go_sem, gather]) (rfl) (⟨by simp, fun q hq => by simp [gather] at hq⟩) ?_
  rintro ⟨i, row⟩ ⟨hi, hr⟩
  dsimp only at hi hr
  refine awp_seq ?_
  refine awp_reg_seq fun K hK => ?_
  simp [go_sem]
  repeat refine ⟨by omega, ?_⟩
  refine hK _ ?_; clear hK K
  refine awp_forget [1, 2, 5, 6, 12] (by simp only [restr, List.contains_cons, List.contains_nil, Nat.reduceBEq, Bool.or_false, Bool.or_true, Bool.true_or, Bool.false_or, if_true, if_false, Bool.false_eq_true]; rfl) ?_
  refine awp_cond rfl (fun c0 => ?_) (fun c0 => ?_)
  · have d0 := c0; try simp at d0
    have hgl := difQ_len t.n t.g m g i
    have hwi : IntKind.i64.wrap ((i : Int) + 1 + 1) = ((i + 1 : Nat) : Int) + 1 := by rw [wrapI (by omega) (by omega)]; omega
    refine awp_skip ?_
    refine awp_seq ?_
    refine awp_block ?_
    refine awp_reg_seq fun K hK => ?_
    simp [go_sem, c0, d0]
    repeat refine ⟨by omega, ?_⟩
    refine CSk.mk (ref16_Find_cs _ t ((i : Int) + 1) hn) ?_
    simp [go_sem, c0, d0]
    repeat refine ⟨by omega, ?_⟩
    refine hK _ ?_; clear hK K
    refine awp_reg_seq fun K hK => ?_
    simp [go_sem, c0, d0]
    repeat refine ⟨by omega, ?_⟩
    refine CSk.mk (ref17_find_cs _ c m g ((i : Int) + 1) hm) ?_
    simp [go_sem, c0, d0]
    repeat refine ⟨by omega, ?_⟩
    refine hK _ ?_; clear hK K
    refine awp_seq ?_
    refine awp_block ?_
    refine awp_reg_seq fun K hK => ?_
    simp [go_sem, c0, d0]
    repeat refine ⟨by omega, ?_⟩
    refine hK _ ?_; clear hK K
    refine awp_forget [1, 2, 5, 6, 7, 8, 9, 10, 27] (by simp only [restr, List.contains_cons, List.contains_nil, Nat.reduceBEq, Bool.or_false, Bool.or_true, Bool.true_or, Bool.false_or, if_true, if_false, Bool.false_eq_true]; rfl) ?_
    refine awp_cond rfl (fun c1 => ?_) (fun c1 => ?_)
    · have d1 := c1; try simp at d1
      have hout : gather (difQ t.n t.g m g) (i + 1) = gather (difQ t.n t.g m g) i ++ [⟨1, (i : Int) + 1⟩] := by rw [difQ_succ]; unfold difU; rw [if_pos d1.2, if_pos d1.1]
      refine awp_reg_end fun K hK => ?_
      simp [go_sem, c0, d0, c1, d1, hout, hwf.one, hwf.zero]
      repeat refine ⟨by omega, ?_⟩
      refine hK _ ?_; clear hK K
      refine awp_reg_seq fun K hK => ?_
      simp [go_sem, c0, d0, c1, d1, hout]
      repeat refine ⟨by omega, ?_⟩
      refine hK _ ?_; clear hK K
      refine awp_forget [1, 2, 5, 6, 73] (by simp only [restr, List.contains_cons, List.contains_nil, Nat.reduceBEq, Bool.or_false, Bool.or_true, Bool.true_or, Bool.false_or, if_true, if_false, Bool.false_eq_true]; rfl) ?_
      refine awp_cond rfl (fun c2 => ?_) (fun c2 => ?_)
      · have d2 := c2; try simp at d2
      · have d2 := c2; try simp at d2
        refine awp_skip ?_
        refine awp_reg_end fun K hK => ?_
        simp [go_sem, c0, d0, c1, d1, hout, c2, d2]
        try simp (disch := omega) only [wrapI]
        repeat refine ⟨by omega, ?_⟩
        refine hK _ ?_; clear hK K
        refine ⟨(i + 1, catRows (gather (difQ t.n t.g m g) i).length row (rowsOf 2 [I 1, I ((i : Int) + 1)])), back_of' (by simp [go_sem, hwi, c0, d0, c1, d1, hout, c2, d2]) ((leaves_app (by simp [go_sem]))) (by (simp [go_sem, hwi, c0, d0, c1, d1, hout, c2, d2] <;> omega)), ⟨by dsimp only; omega, by dsimp only; rw [hout]; exact cat_row (x := Dif.mk 1 ((i : Int) + 1)) hr rfl⟩, by first | omega | (dsimp only; omega)⟩
    · have d1 := c1; try simp at d1
      refine awp_reg_seq fun K hK => ?_
      simp [go_sem, c0, d0, c1, d1]
      repeat refine ⟨by omega, ?_⟩
      refine hK _ ?_; clear hK K
      refine awp_forget [1, 2, 5, 6, 7, 8, 9, 10, 38] (by simp only [restr, List.contains_cons, List.contains_nil, Nat.reduceBEq, Bool.or_false, Bool.or_true, Bool.true_or, Bool.false_or, if_true, if_false, Bool.false_eq_true]; rfl) ?_
      refine awp_cond rfl (fun c3 => ?_) (fun c3 => ?_)
      · have d3 := c3; try simp at d3
        have hout : gather (difQ t.n t.g m g) (i + 1) = gather (difQ t.n t.g m g) i ++ [⟨2, (i : Int) + 1⟩] := by rw [difQ_succ]; unfold difU; rw [if_neg (by simp [d3.1]), if_pos d3.2]
        refine awp_reg_end fun K hK => ?_
        simp [go_sem, c0, d0, c1, d1, c3, d3, hout, hwf.one, hwf.zero]
        repeat refine ⟨by omega, ?_⟩
        refine hK _ ?_; clear hK K
        refine awp_reg_seq fun K hK => ?_
        simp [go_sem, c0, d0, c1, d1, c3, d3, hout]
        repeat refine ⟨by omega, ?_⟩
        refine hK _ ?_; clear hK K
        refine awp_forget [1, 2, 5, 6, 73] (by simp only [restr, List.contains_cons, List.contains_nil, Nat.reduceBEq, Bool.or_false, Bool.or_true, Bool.true_or, Bool.false_or, if_true, if_false, Bool.false_eq_true]; rfl) ?_
        refine awp_cond rfl (fun c4 => ?_) (fun c4 => ?_)
        · have d4 := c4; try simp at d4
        · have d4 := c4; try simp at d4
          refine awp_skip ?_
          refine awp_reg_end fun K hK => ?_
          simp [go_sem, c0, d0, c1, d1, c3, d3, hout, c4, d4]
          try simp (disch := omega) only [wrapI]
          repeat refine ⟨by omega, ?_⟩
          refine hK _ ?_; clear hK K
          refine ⟨(i + 1, catRows (gather (difQ t.n t.g m g) i).length row (rowsOf 2 [I 2, I ((i : Int) + 1)])), back_of' (by simp [go_sem, hwi, c0, d0, c1, d1, c3, d3, hout, c4, d4]) ((leaves_app (by simp [go_sem]))) (by (simp [go_sem, hwi, c0, d0, c1, d1, c3, d3, hout, c4, d4] <;> omega)), ⟨by dsimp only; omega, by dsimp only; rw [hout]; exact cat_row (x := Dif.mk 2 ((i : Int) + 1)) hr rfl⟩, by first | omega | (dsimp only; omega)⟩
      · have d3 := c3; try simp at d3
        refine awp_reg_seq fun K hK => ?_
        simp [go_sem, c0, d0, c1, d1, c3, d3]
        repeat refine ⟨by omega, ?_⟩
        refine hK _ ?_; clear hK K
        refine awp_forget [1, 2, 5, 6, 7, 8, 9, 10, 49] (by simp only [restr, List.contains_cons, List.contains_nil, Nat.reduceBEq, Bool.or_false, Bool.or_true, Bool.true_or, Bool.false_or, if_true, if_false, Bool.false_eq_true]; rfl) ?_
        refine awp_cond rfl (fun c5 => ?_) (fun c5 => ?_)
        · have d5 := c5; try simp at d5
          have h1 := d5.1
          have h2 := d3 h1
          refine awp_reg_end fun K hK => ?_
          simp [go_sem, c0, d0, c1, d1, c3, d3, c5, d5, h1, h2, hwf.one, hwf.zero]
          repeat refine ⟨by omega, ?_⟩
          refine hK _ ?_; clear hK K
          refine awp_reg_seq fun K hK => ?_
          simp [go_sem, c0, d0, c1, d1, c3, d3, c5, d5, h1, h2]
          repeat refine ⟨by omega, ?_⟩
          refine hK _ ?_; clear hK K
          refine awp_forget [1, 2, 5, 6, 73] (by simp only [restr, List.contains_cons, List.contains_nil, Nat.reduceBEq, Bool.or_false, Bool.or_true, Bool.true_or, Bool.false_or, if_true, if_false, Bool.false_eq_true]; rfl) ?_
          refine awp_cond rfl (fun c6 => ?_) (fun c6 => ?_)
          · have d6 := c6; try simp at d6
            have hout : gather (difQ t.n t.g m g) (i + 1) = gather (difQ t.n t.g m g) i ++ [⟨3, (i : Int) + 1⟩, ⟨4, (i : Int) + 1⟩] := by rw [difQ_succ]; unfold difU; rw [if_neg (by simp [h1]), if_neg (by simp [h2]), if_pos d5.2, if_pos d6]; rfl
            refine awp_reg_end fun K hK => ?_
            simp [go_sem, c0, d0, c1, d1, c3, d3, c5, d5, h1, h2, c6, d6, hout, hwf.one, hwf.zero]
            repeat refine ⟨by omega, ?_⟩
            refine hK _ ?_; clear hK K
            refine awp_reg_end fun K hK => ?_
            simp [go_sem, c0, d0, c1, d1, c3, d3, c5, d5, h1, h2, c6, d6, hout]
            try simp (disch := omega) only [wrapI]
            repeat refine ⟨by omega, ?_⟩
            refine hK _ ?_; clear hK K
            refine ⟨(i + 1, catRows ((gather (difQ t.n t.g m g) i).length + 1) (catRows (gather (difQ t.n t.g m g) i).length row (rowsOf 2 [I 3, I ((i : Int) + 1)])) (rowsOf 2 [I 4, I ((i : Int) + 1)])), back_of' (by simp [go_sem, hwi, c0, d0, c1, d1, c3, d3, c5, d5, h1, h2, c6, d6, hout]) ((leaves_app (by simp [go_sem]))) (by (simp [go_sem, hwi, c0, d0, c1, d1, c3, d3, c5, d5, h1, h2, c6, d6, hout] <;> omega)), ⟨by dsimp only; omega, by dsimp only; rw [hout]; have h1 := cat_row (enc := Dif.enc) (sz := 2) (x := Dif.mk 3 ((i : Int) + 1)) (ds := [I 3, I ((i : Int) + 1)]) hr rfl; have h2 := cat_row (enc := Dif.enc) (sz := 2) (x := Dif.mk 4 ((i : Int) + 1)) (ds := [I 4, I ((i : Int) + 1)]) h1 rfl; simpa using h2⟩, by first | omega | (dsimp only; omega)⟩
          · have d6 := c6; try simp at d6
            have hout : gather (difQ t.n t.g m g) (i + 1) = gather (difQ t.n t.g m g) i ++ [⟨3, (i : Int) + 1⟩] := by rw [difQ_succ]; unfold difU; rw [if_neg (by simp [h1]), if_neg (by simp [h2]), if_pos d5.2, if_neg (fun h => h d6)]; rfl
            refine awp_skip ?_
            refine awp_reg_end fun K hK => ?_
            simp [go_sem, c0, d0, c1, d1, c3, d3, c5, d5, h1, h2, c6, d6, hout]
            try simp (disch := omega) only [wrapI]
            repeat refine ⟨by omega, ?_⟩
            refine hK _ ?_; clear hK K
            refine ⟨(i + 1, catRows (gather (difQ t.n t.g m g) i).length row (rowsOf 2 [I 3, I ((i : Int) + 1)])), back_of' (by simp [go_sem, hwi, c0, d0, c1, d1, c3, d3, c5, d5, h1, h2, c6, d6, hout]) ((leaves_app (by simp [go_sem]))) (by (simp [go_sem, hwi, c0, d0, c1, d1, c3, d3, c5, d5, h1, h2, c6, d6, hout] <;> omega)), ⟨by dsimp only; omega, by dsimp only; rw [hout]; exact cat_row (x := Dif.mk 3 ((i : Int) + 1)) hr rfl⟩, by first | omega | (dsimp only; omega)⟩
        · have d5 := c5; try simp at d5
          refine awp_skip ?_
          refine awp_reg_seq fun K hK => ?_
          simp [go_sem, c0, d0, c1, d1, c3, d3, c5, d5]
          repeat refine ⟨by omega, ?_⟩
          refine hK _ ?_; clear hK K
          refine awp_forget [1, 2, 5, 6, 73] (by simp only [restr, List.contains_cons, List.contains_nil, Nat.reduceBEq, Bool.or_false, Bool.or_true, Bool.true_or, Bool.false_or, if_true, if_false, Bool.false_eq_true]; rfl) ?_
          refine awp_cond rfl (fun c7 => ?_) (fun c7 => ?_)
          · have d7 := c7; try simp at d7
            have hout : gather (difQ t.n t.g m g) (i + 1) = gather (difQ t.n t.g m g) i ++ [⟨4, (i : Int) + 1⟩] := by rw [difQ_succ]; unfold difU; rw [if_neg (by simp [d7.1.1]), if_neg (by simp [d7.1.2]), if_neg (fun h => h (d5 d7.1.1)), if_pos d7.2]; rfl
            refine awp_reg_end fun K hK => ?_
            simp [go_sem, c0, d0, c1, d1, c3, d3, c5, d5, c7, d7, hout, hwf.one, hwf.zero]
            repeat refine ⟨by omega, ?_⟩
            refine hK _ ?_; clear hK K
            refine awp_reg_end fun K hK => ?_
            simp [go_sem, c0, d0, c1, d1, c3, d3, c5, d5, c7, d7, hout]
            try simp (disch := omega) only [wrapI]
            repeat refine ⟨by omega, ?_⟩
            refine hK _ ?_; clear hK K
            refine ⟨(i + 1, catRows (gather (difQ t.n t.g m g) i).length row (rowsOf 2 [I 4, I ((i : Int) + 1)])), back_of' (by simp [go_sem, hwi, c0, d0, c1, d1, c3, d3, c5, d5, c7, d7, hout]) ((leaves_app (by simp [go_sem]))) (by (simp [go_sem, hwi, c0, d0, c1, d1, c3, d3, c5, d5, c7, d7, hout] <;> omega)), ⟨by dsimp only; omega, by dsimp only; rw [hout]; exact cat_row (x := Dif.mk 4 ((i : Int) + 1)) hr rfl⟩, by first | omega | (dsimp only; omega)⟩
          · have d7 := c7; try simp at d7
            have hout : gather (difQ t.n t.g m g) (i + 1) = gather (difQ t.n t.g m g) i := by
              rw [difQ_succ]
              cases h1 : (gotR m g ((i : Int) + 1)).2 with
              | false =>
                have h2 : (findL t.n t.g ((i : Int) + 1)).2 = false := by
                  cases h2 : (findL t.n t.g ((i : Int) + 1)).2 with
                  | false => rfl
                  | true => have := d1 h2; rw [h1] at this; cases this
                rw [difU_none h2 h1, List.append_nil]
              | true =>
                have h2 := d3 h1
                unfold difU; rw [if_neg (by simp [h1]), if_neg (by simp [h2]), if_neg (fun h => h (d5 h1)), if_neg (fun h => h (d7 h1 h2))]; simp
            refine awp_skip ?_
            refine awp_reg_end fun K hK => ?_
            simp [go_sem, c0, d0, c1, d1, c3, d3, c5, d5, c7, d7, hout]
            try simp (disch := omega) only [wrapI]
            repeat refine ⟨by omega, ?_⟩
            refine hK _ ?_; clear hK K
            refine ⟨(i + 1, row), back_of' (by simp [go_sem, hwi, c0, d0, c1, d1, c3, d3, c5, d5, c7, d7, hout]) ((leaves_app (by simp [go_sem]))) (by (simp [go_sem, hwi, c0, d0, c1, d1, c3, d3, c5, d5, c7, d7, hout] <;> omega)), ⟨by dsimp only; omega, by dsimp only; rw [hout]; exact hr⟩, by first | omega | (dsimp only; omega)⟩
  · have d0 := c0; try simp at d0
    obtain rfl : i = 9999 := by omega
    refine awp_exit ?_
    refine awp_reg_seq fun K hK => ?_
    simp [go_sem, c0, d0]
    repeat refine ⟨by omega, ?_⟩
    refine hK _ ?_; clear hK K
    refine awp_freeze (σ.length + 1) (by simp [go_sem]; first | exact ⟨rfl, rfl, rfl⟩ | exact ⟨rfl, rfl⟩ | rfl) (by simp [go_sem]; rfl) (by simp [go_sem, hwf.frz, hwf.frz0]; rfl) ?_
    refine awp_ret ?_
    rw [allD_eq]
    simp [go_sem, Tryz.results41]
    exact hr

theorem hasD_iff (L : List Dif) (d : Dif) : hasD L.length (nth L) d = true ↔ d ∈ L := by
  unfold hasD; rw [lst_nth, List.any_eq_true]; simp
theorem asc_nth {L : List Dif} (h : L.Pairwise fun a b => lessD a b = true) {i j : Nat} (hij : i < j) (hj : j < L.length) : lessD (nth L i) (nth L j) = true := by
  rw [nth_eq (by omega : i < L.length), nth_eq hj]
  exact List.pairwise_iff_getElem.1 h i j (by omega) hj hij
/-- binary search finds what an ascending list holds -/
theorem bs_cut {L : List Dif} (h : L.Pairwise fun a b => lessD a b = true) (d : Dif) : (∀ i, i < bsAt L.length (fun i => ordD (nth L i) d) → lessD (nth L i) d = true) ∧ ∀ i, bsAt L.length (fun i => ordD (nth L i) d) ≤ i → i < L.length → lessD (nth L i) d = false := by
  have hc := bsLoop_cut (p := fun i => ordD (nth L i) d) (Nat.zero_le L.length) (Nat.le_refl _) (fun i j hij hj hlt => by
    rcases Nat.lt_or_eq_of_le hij with h1 | rfl
    · have h2 := asc_nth h h1 hj
      rw [ordD_neg] at hlt ⊢
      rw [lessD_iff] at *; omega
    · exact hlt) (fun i hi => absurd hi (Nat.not_lt_zero i)) (fun i h1 h2 => by omega)
  refine ⟨fun i hi => (ordD_neg _ _).1 (hc.1 i hi), fun i h1 h2 => ?_⟩
  rw [← Bool.not_eq_true, ← ordD_neg]
  have := hc.2 i h1 h2
  omega
theorem bs_is {L : List Dif} (h : L.Pairwise fun a b => lessD a b = true) (d : Dif) : bsIs L.length (fun i => ordD (nth L i) d) = decide (d ∈ L) := by
  obtain ⟨h1, h2⟩ := bs_cut h d
  unfold bsIs
  generalize bsAt L.length (fun i => ordD (nth L i) d) = k at *
  rw [Bool.eq_iff_iff]
  simp only [Bool.and_eq_true, decide_eq_true_eq, beq_iff_eq]
  constructor
  · rintro ⟨h3, h4⟩
    rw [← (ordD_zero _ _).1 h4]; exact nth_mem h3
  · intro h3
    obtain ⟨i, hi, e⟩ := List.mem_iff_getElem.1 h3
    have e' : nth L i = d := by rw [nth_eq hi]; exact e
    have hk : ¬ i < k := fun hlt => by
      have := h1 i hlt
      rw [e', lessD_iff] at this; omega
    have hki : k = i := by
      rcases Nat.lt_or_eq_of_le (Nat.le_of_not_lt hk) with h4 | h4
      · have h5 := asc_nth h h4 hi
        rw [e', h2 k (Nat.le_refl _) (by omega)] at h5; cases h5
      · exact h4
    subst hki
    exact ⟨hi, (ordD_zero _ _).2 e'⟩
/-- what was agreed ascends and is among the differences -/
def AgrOk (L : List Dif) (n : Nat) (a : Nat → Dif) : Prop := ∀ i, i < n → a i ∈ L ∧ (0 < i → lessD (a (i - 1)) (a i) = true)
def agrB (L : List Dif) (n : Nat) (a : Nat → Dif) : Bool := (lst n fun i => decide (a i ∈ L) && (decide (i = 0) || lessD (a (i - 1)) (a i))).all id
theorem agrB_iff (L : List Dif) (n : Nat) (a : Nat → Dif) : agrB L n a = true ↔ AgrOk L n a := by
  unfold agrB AgrOk
  simp only [lst, List.all_map, List.all_eq_true, List.mem_range, Function.comp, id, Bool.and_eq_true, decide_eq_true_eq, Bool.or_eq_true]
  constructor
  · intro h2 i hi
    exact ⟨(h2 i hi).1, fun h => (h2 i hi).2.resolve_left (by omega)⟩
  · intro h2 i hi
    refine ⟨(h2 i hi).1, ?_⟩
    rcases Nat.eq_zero_or_pos i with h | h
    · exact .inl h
    · exact .inr ((h2 i hi).2 h)
theorem agrB_no {L : List Dif} {n : Nat} {a : Nat → Dif} (i : Nat) (hi : i < n) (h : a i ∉ L ∨ (0 < i ∧ lessD (a (i - 1)) (a i) = false)) : agrB L n a = false := by
  rw [← Bool.not_eq_true, agrB_iff]
  intro h1
  rcases h with h | h
  · exact h (h1 i hi).1
  · have := (h1 i hi).2 h.1; rw [h.2] at this; cases this
def allT (t : TL) (a : Acs) : List Dif := allD t.n t.g a.nr a.r
def chkH (t : TL) (a : Acs) : Int := if (tlChk t).2 ≠ 0 then 1 else if (inB a.ID 1 1073741824 && inB a.Day 0 1048575) = false then 2 else if a.Of ≠ t.ID then 10 else if a.Day < t.Day then 5 else if ordR a.nr a.r = false then 1 else if 128 < a.na then 8 else 0
def chkA (t : TL) (a : Acs) : Int := if chkH t a ≠ 0 then chkH t a else if agrB (allT t a) a.na a.a = false then 14 else 0
theorem chkH_zero {t : TL} {a : Acs} (h : chkH t a = 0) : (tlChk t).2 = 0 ∧ inB a.ID 1 1073741824 = true ∧ inB a.Day 0 1048575 = true ∧ a.Of = t.ID ∧ t.Day ≤ a.Day ∧ ordR a.nr a.r = true ∧ a.na ≤ 128 := by
  unfold chkH at h
  split at h
  · cases h
  · split at h
    · cases h
    · split at h
      · cases h
      · split at h
        · cases h
        · split at h
          · cases h
          · split at h
            · cases h
            · simp_all
theorem chkA_zero {t : TL} {a : Acs} : chkA t a = 0 ↔ chkH t a = 0 ∧ agrB (allT t a) a.na a.a = true := by
  unfold chkA
  by_cases h : chkH t a = 0
  · rw [if_neg (by simp [h])]
    cases agrB (allT t a) a.na a.a <;> simp [h]
  · rw [if_pos h]; simp [h]
theorem allD_len (n : Nat) (f : Nat → Lis) (m : Nat) (g : Nat → Rec) : (allD n f m g).length ≤ 20000 := by
  have := difQ_len n f m g 9999
  rw [allD_eq]; omega
def cmpP (t : TL) (m : Nat) (g : Nat → Rec) : List Dif × Int := if (tlChk t).2 = 0 ∧ ordR m g = true then (allD t.n t.g m g, 0) else ([], 1)


theorem ref17_Compare_cs (σ : List Blk) (t : TL) (c : Option Nat) (m : Nat) (g : Nat → Rec) (hn : t.n < 1000000000) (hN : ∀ i, i < t.n → (t.g i).Title.size < 4294967281) (hm : m < 1000000000) : CSF Tryz.prog 30 [.agg (t.enc.map .d), .d (SL c 3 Rec.enc m g)] σ (.tup [.d (SL none 2 Dif.enc (cmpP t m g).1.length (nth (cmpP t m g).1)), .d (I (cmpP t m g).2)]) := by
  refine CSF.of_body T.en30 Tryz.func30 rfl (by simp [Tryz.ntmps30]) (by simp [go_sem]) fun hwf => ?_
  refine awp_reg_seq fun K hK => ?_
  simp [go_sem, Tryz.ntmps30]
  repeat refine ⟨by omega, ?_⟩
  refine hK _ ?_; clear hK K
  refine awp_seq ?_
  refine awp_reg_seq fun K hK => ?_
  simp [go_sem]
  repeat refine ⟨by omega, ?_⟩
  refine CSk.mk (ref16_Right_cs _ t hn hN) ?_
  simp [go_sem]
  repeat refine ⟨by omega, ?_⟩
  refine CSm.mk (ref17_inOrder_cs _ c m g hm) ?_
  simp [go_sem]
  repeat refine ⟨by omega, ?_⟩
  refine hK _ ?_; clear hK K
  refine awp_forget [1, 2, 13] (by simp only [restr, List.contains_cons, List.contains_nil, Nat.reduceBEq, Bool.or_false, Bool.or_true, Bool.true_or, Bool.false_or, if_true, if_false, Bool.false_eq_true]; rfl) ?_
  refine awp_cond rfl (fun c0 => ?_) (fun c0 => ?_)
  · have d0 := c0; try simp at d0
    have hz : cmpP t m g = ([], 1) := by unfold cmpP; rw [if_neg]; rintro ⟨h1, h2⟩; simp [h1, h2] at c0
    refine awp_reg_seq fun K hK => ?_
    simp [go_sem, c0, d0]
    repeat refine ⟨by omega, ?_⟩
    refine hK _ ?_; clear hK K
    refine awp_ret ?_
    rw [hz]; simp [go_sem, Tryz.results30]
  · have d0 := c0; try simp at d0
    have hz : cmpP t m g = (allD t.n t.g m g, 0) := by unfold cmpP; rw [if_pos]; simpa using d0
    refine awp_skip ?_
    refine awp_reg_seq fun K hK => ?_
    simp [go_sem, c0, d0]
    repeat refine ⟨by omega, ?_⟩
    refine CSk.mk (ref17_differences_cs _ t c m g hn hm) ?_
    simp [go_sem, c0, d0]
    repeat refine ⟨by omega, ?_⟩
    refine hK _ ?_; clear hK K
    refine awp_ret ?_
    rw [hz]; simp [go_sem, Tryz.results30]

theorem accession_Compare_cs (σ : List Blk) (t : TL) (c : Option Nat) (m : Nat) (g : Nat → Rec) (hn : t.n < 1000000000) (hN : ∀ i, i < t.n → (t.g i).Title.size < 4294967281) (hm : m < 1000000000) (hσ : σ[0]? = some (.loc 0)) : CSF Tryz.prog 28 [.agg (t.enc.map .d), .d (SL c 3 Rec.enc m g)] σ (.tup [.d (SL none 2 Dif.enc (cmpP t m g).1.length (nth (cmpP t m g).1)), .d (I (cmpP t m g).2)]) := by
  refine CSF.of_body T.en28 Tryz.func28 rfl (by simp [Tryz.ntmps28]) (by simp [go_sem]) fun hwf => ?_
  refine awp_reg_seq fun K hK => ?_
  simp [go_sem, Tryz.ntmps28]
  repeat refine ⟨by omega, ?_⟩
  refine hK _ ?_; clear hK K
  refine awp_seq ?_
  refine awp_reg_seq fun K hK => ?_
  simp [go_sem]
  repeat refine ⟨by omega, ?_⟩
  refine CSk.mk (accession_listed_cs _ t hn hN (loc_app hσ)) ?_
  simp [go_sem]
  repeat refine ⟨by omega, ?_⟩
  refine CSm.mk (accession_ordered_cs _ c m g hm) ?_
  simp [go_sem]
  repeat refine ⟨by omega, ?_⟩
  refine hK _ ?_; clear hK K
  refine awp_forget [1, 2, 13] (by simp only [restr, List.contains_cons, List.contains_nil, Nat.reduceBEq, Bool.or_false, Bool.or_true, Bool.true_or, Bool.false_or, if_true, if_false, Bool.false_eq_true]; rfl) ?_
  refine awp_cond rfl (fun c0 => ?_) (fun c0 => ?_)
  · have d0 := c0; try simp at d0
    have hz : cmpP t m g = ([], 1) := by unfold cmpP; rw [if_neg]; rintro ⟨h1, h2⟩; simp [h1, h2] at c0
    refine awp_reg_seq fun K hK => ?_
    simp [go_sem, c0, d0]
    repeat refine ⟨by omega, ?_⟩
    refine hK _ ?_; clear hK K
    refine awp_ret ?_
    rw [hz]; simp [go_sem, Tryz.results28]
  · have d0 := c0; try simp at d0
    have hz : cmpP t m g = (allD t.n t.g m g, 0) := by unfold cmpP; rw [if_pos]; simpa using d0
    refine awp_skip ?_
    refine awp_reg_seq fun K hK => ?_
    simp [go_sem, c0, d0]
    repeat refine ⟨by omega, ?_⟩
    refine CSk.mk (compare_cs _ t c m g d0.1 ((ordR_iff _ _).1 d0.2).2 (by have := ((ordR_iff _ _).1 d0.2).1; omega)) ?_
    simp [go_sem, c0, d0]
    repeat refine ⟨by omega, ?_⟩
    refine hK _ ?_; clear hK K
    refine awp_ret ?_
    rw [hz]; simp [go_sem, Tryz.results28]

theorem ref17_agreed_cs (σ : List Blk) (t : TL) (a : Acs) (hn : t.n < 1000000000) (hm : a.nr < 1000000000) (hk : a.na < 1000000000) : CSF Tryz.prog 53 [.agg (t.enc.map .d), .agg (a.enc.map .d)] σ (.d (B (agrB (allT t a) a.na a.a))) := by
  have hal := allD_len t.n t.g a.nr a.r
  refine CSF.of_body T.en53 Tryz.func53 rfl (by simp [Tryz.ntmps53]) (by simp [go_sem]) fun hwf => ?_
  refine awp_reg_seq fun K hK => ?_
  simp [go_sem, Tryz.ntmps53]
  repeat refine ⟨by omega, ?_⟩
  refine hK _ ?_; clear hK K
  refine awp_reg_seq fun K hK => ?_
  simp [go_sem]
  repeat refine ⟨by omega, ?_⟩
  refine CSk.mk (ref17_differences_cs _ t none a.nr a.r hn hm) ?_
  simp [go_sem]
  repeat refine ⟨by omega, ?_⟩
  refine hK _ ?_; clear hK K
  refine awp_seq ?_
  refine awp_reg_seq fun K hK => ?_
  simp [go_sem]
  repeat refine ⟨by omega, ?_⟩
  refine hK _ ?_; clear hK K
  refine awp_block ?_
  refine awp_forget [3, 5, 6] (by simp [go_sem, restr]; rfl) ?_
  refine awp_loopU (α := Nat) (fun i => [(6, .d (I i))]) (fun i => _) (fun i => i ≤ a.na ∧ AgrOk (allT t a) i a.a) (fun i => a.na - i) 0 (by simp [go_sem]) (rfl) (⟨Nat.zero_le _, fun i hi => absurd hi (Nat.not_lt_zero i)⟩) ?_
  rintro i ⟨hi, hx⟩
  refine awp_seq ?_
  refine awp_reg_seq fun K hK => ?_
  simp [go_sem, wrap_pred (i := i) (by omega)]
  repeat refine ⟨by omega, ?_⟩
  refine hK _ ?_; clear hK K
  refine awp_forget [3, 5, 6, 15] (by simp only [restr, List.contains_cons, List.contains_nil, Nat.reduceBEq, Bool.or_false, Bool.or_true, Bool.true_or, Bool.false_or, if_true, if_false, Bool.false_eq_true]; rfl) ?_
  refine awp_cond rfl (fun c0 => ?_) (fun c0 => ?_)
  · have d0 := c0; try simp at d0
    refine awp_skip ?_
    refine awp_seq ?_
    refine awp_block ?_
    refine awp_draw_seq 27 T.mixed (by kernel_rfl) fun K hK => ?_
    simp [go_sem, wrap_pred (i := i) (by omega), c0, d0]
    try simp (disch := omega) only [wrapI]
    repeat refine ⟨by omega, ?_⟩
    refine CSg.mk (ref17_has_cs _ none (allD t.n t.g a.nr a.r).length (nth (allD t.n t.g a.nr a.r)) (a.a i) (by omega)) ?_
    simp [go_sem, wrap_pred (i := i) (by omega), c0, d0]
    try simp (disch := omega) only [wrapI]
    repeat refine ⟨by omega, ?_⟩
    refine CSg.mk (ref17_less_cs _ (a.a (i - 1)) (a.a i)) ?_
    simp [go_sem, wrap_pred (i := i) (by omega), c0, d0]
    try simp (disch := omega) only [wrapI]
    repeat refine ⟨by omega, ?_⟩
    refine hK _ ?_; clear hK K
    refine awp_forget [3, 5, 6, 44] (by simp only [restr, List.contains_cons, List.contains_nil, Nat.reduceBEq, Bool.or_false, Bool.or_true, Bool.true_or, Bool.false_or, if_true, if_false, Bool.false_eq_true]; rfl) ?_
    refine awp_cond rfl (fun c1 => ?_) (fun c1 => ?_)
    · have d1 := c1; try simp at d1
      have hz : agrB (allT t a) a.na a.a = false := agrB_no i d0 (by
        by_cases h : a.a i ∈ allT t a
        · have h1 := (hasD_iff (allT t a) (a.a i)).2 h
          unfold allT at h1
          rw [h1] at d1
          exact .inr (by simpa using d1)
        · exact .inl h)
      refine awp_reg_seq fun K hK => ?_
      simp [go_sem, wrap_pred (i := i) (by omega), c0, d0, c1, d1]
      repeat refine ⟨by omega, ?_⟩
      refine hK _ ?_; clear hK K
      refine awp_ret ?_
      rw [hz]; simp [go_sem, Tryz.results53]
    · have d1 := c1; try simp at d1
      have hnx : a.a i ∈ allT t a ∧ (0 < i → lessD (a.a (i - 1)) (a.a i) = true) := ⟨(hasD_iff _ _).1 d1.1, d1.2⟩
      refine awp_skip ?_
      refine awp_reg_end fun K hK => ?_
      simp [go_sem, wrap_pred (i := i) (by omega), c0, d0, c1, d1]
      try simp (disch := omega) only [wrapI]
      repeat refine ⟨by omega, ?_⟩
      refine hK _ ?_; clear hK K
      refine ⟨i + 1, back_of' (by simp) (.refl _) (by (simp [go_sem, wrap_succ (i := i) (by omega), wrap_pred (i := i) (by omega), c0, d0, c1, d1] <;> omega)), ⟨by omega, fun q hq => by rcases Nat.lt_or_eq_of_le (Nat.le_of_lt_succ hq) with h | h; exact hx q h; rw [h]; exact hnx⟩, by first | omega | (dsimp only; omega)⟩
  · have d0 := c0; try simp at d0
    have hin : i = a.na := by omega
    have hz : agrB (allT t a) a.na a.a = true := by rw [agrB_iff, ← hin]; exact hx
    refine awp_exit ?_
    refine awp_reg_seq fun K hK => ?_
    simp [go_sem, wrap_pred (i := i) (by omega), c0, d0]
    repeat refine ⟨by omega, ?_⟩
    refine hK _ ?_; clear hK K
    refine awp_ret ?_
    rw [hz]; simp [go_sem, Tryz.results53]

end Go.Proofs.YtnbokgmimbeihaaGreatDoor

/-! Ci -/
namespace Go.Proofs.YtnbokgmimbeihaaGreatDoor
open Go.Abs Go.Arch
set_option linter.unusedVariables false
set_option linter.unusedSimpArgs false
set_option maxRecDepth 100000
set_option maxHeartbeats 1000000

def opnL (t : TL) (a : Acs) : List Dif := kept (fun d => hasD a.na a.a d) (nth (allT t a)) (allT t a).length
theorem opnL_eq (t : TL) (a : Acs) : opnL t a = kept (fun d => hasD a.na a.a d) (nth (allD t.n t.g a.nr a.r)) (allD t.n t.g a.nr a.r).length := by unfold opnL allT; rfl
theorem opnL_len (t : TL) (a : Acs) : (opnL t a).length ≤ 20000 := by
  have h1 := kept_len (fun d => hasD a.na a.a d) (nth (allT t a)) (allT t a).length
  have h2 := allD_len t.n t.g a.nr a.r
  unfold opnL
  have e : (allT t a).length = (allD t.n t.g a.nr a.r).length := rfl
  omega
def opnP (t : TL) (a : Acs) : List Dif × Int := if chkA t a = 0 then (opnL t a, 0) else ([], chkA t a)
def numL (t : TL) (a : Acs) : List Int := if (opnL t a).length = 0 then lst a.nr (fun i => (a.r i).Number) else []
def numP (t : TL) (a : Acs) : List Int × Int := if chkA t a = 0 then (numL t a, 0) else ([], chkA t a)


theorem accession_Check_cs (σ : List Blk) (t : TL) (a : Acs) (hn : t.n < 1000000000) (hN : ∀ i, i < t.n → (t.g i).Title.size < 4294967281) (hσ : σ[0]? = some (.loc 0)) (hm : a.nr < 1000000000) (hk : a.na < 1000000000) : CSF Tryz.prog 19 [.agg (t.enc.map .d), .agg (a.enc.map .d)] σ (.d (I (chkA t a))) := by
  have hal := allD_len t.n t.g a.nr a.r
  refine CSF.of_body T.en19 Tryz.func19 rfl (by simp [Tryz.ntmps19]) (by simp [go_sem]) fun hwf => ?_
  refine awp_reg_seq fun K hK => ?_
  simp [go_sem, Tryz.ntmps19]
  repeat refine ⟨by omega, ?_⟩
  refine hK _ ?_; clear hK K
  refine awp_seq ?_
  refine awp_block ?_
  refine awp_reg_seq fun K hK => ?_
  simp [go_sem]
  repeat refine ⟨by omega, ?_⟩
  refine CSk.mk (accession_listed_cs _ t hn hN (loc_app hσ)) ?_
  simp [go_sem]
  repeat refine ⟨by omega, ?_⟩
  refine hK _ ?_; clear hK K
  refine awp_forget [2, 3, 10] (by simp only [restr, List.contains_cons, List.contains_nil, Nat.reduceBEq, Bool.or_false, Bool.or_true, Bool.true_or, Bool.false_or, if_true, if_false, Bool.false_eq_true]; rfl) ?_
  refine awp_cond rfl (fun c0 => ?_) (fun c0 => ?_)
  · have d0 := c0; try simp at d0
    have hh : chkH t a = 1 := by unfold chkH; rw [if_pos (d0)]
    have hz : chkA t a = 1 := by unfold chkA; rw [hh]; rfl
    refine awp_reg_seq fun K hK => ?_
    simp [go_sem, c0, d0]
    repeat refine ⟨by omega, ?_⟩
    refine hK _ ?_; clear hK K
    refine awp_ret ?_
    rw [hz]; simp [go_sem, Tryz.results19]
  · have d0 := c0; try simp at d0
    refine awp_reg_seq fun K hK => ?_
    simp [go_sem, c0, d0]
    repeat refine ⟨by omega, ?_⟩
    refine CSk.mk (accession_within_cs _ a.ID 1 1073741824) ?_
    simp [go_sem, c0, d0]
    repeat refine ⟨by omega, ?_⟩
    refine CSm.mk (accession_within_cs _ a.Day 0 1048575) ?_
    simp [go_sem, c0, d0]
    repeat refine ⟨by omega, ?_⟩
    refine hK _ ?_; clear hK K
    refine awp_forget [2, 3, 14] (by simp only [restr, List.contains_cons, List.contains_nil, Nat.reduceBEq, Bool.or_false, Bool.or_true, Bool.true_or, Bool.false_or, if_true, if_false, Bool.false_eq_true]; rfl) ?_
    refine awp_cond rfl (fun c1 => ?_) (fun c1 => ?_)
    · have d1 := c1; try simp at d1
      have hh : chkH t a = 2 := by unfold chkH; rw [if_neg (by simp [d0]), if_pos (by cases h1 : inB a.ID 1 1073741824 <;> simp_all)]
      have hz : chkA t a = 2 := by unfold chkA; rw [hh]; rfl
      refine awp_reg_seq fun K hK => ?_
      simp [go_sem, c0, d0, c1, d1]
      repeat refine ⟨by omega, ?_⟩
      refine hK _ ?_; clear hK K
      refine awp_ret ?_
      rw [hz]; simp [go_sem, Tryz.results19]
    · have d1 := c1; try simp at d1
      refine awp_reg_seq fun K hK => ?_
      simp [go_sem, c0, d0, c1, d1]
      repeat refine ⟨by omega, ?_⟩
      refine hK _ ?_; clear hK K
      refine awp_forget [2, 3, 25] (by simp only [restr, List.contains_cons, List.contains_nil, Nat.reduceBEq, Bool.or_false, Bool.or_true, Bool.true_or, Bool.false_or, if_true, if_false, Bool.false_eq_true]; rfl) ?_
      refine awp_cond rfl (fun c2 => ?_) (fun c2 => ?_)
      · have d2 := c2; try simp at d2
        have hh : chkH t a = 10 := by unfold chkH; rw [if_neg (by simp [d0]), if_neg (by simp [d1]), if_pos (d2)]
        have hz : chkA t a = 10 := by unfold chkA; rw [hh]; rfl
        refine awp_reg_seq fun K hK => ?_
        simp [go_sem, c0, d0, c1, d1, c2, d2]
        repeat refine ⟨by omega, ?_⟩
        refine hK _ ?_; clear hK K
        refine awp_ret ?_
        rw [hz]; simp [go_sem, Tryz.results19]
      · have d2 := c2; try simp at d2
        have e2 : a.Of = t.ID := d2
        clear c2 d2
        have c2 := trivial
        have d2 := trivial
        refine awp_reg_seq fun K hK => ?_
        simp [go_sem, c0, d0, c1, d1, c2, d2]
        repeat refine ⟨by omega, ?_⟩
        refine hK _ ?_; clear hK K
        refine awp_forget [2, 3, 31] (by simp only [restr, List.contains_cons, List.contains_nil, Nat.reduceBEq, Bool.or_false, Bool.or_true, Bool.true_or, Bool.false_or, if_true, if_false, Bool.false_eq_true]; rfl) ?_
        refine awp_cond rfl (fun c3 => ?_) (fun c3 => ?_)
        · have d3 := c3; try simp at d3
          have hh : chkH t a = 5 := by unfold chkH; rw [if_neg (by simp [d0]), if_neg (by simp [d1]), if_neg (by simp [e2]), if_pos (d3)]
          have hz : chkA t a = 5 := by unfold chkA; rw [hh]; rfl
          refine awp_reg_seq fun K hK => ?_
          simp [go_sem, c0, d0, c1, d1, c2, d2, c3, d3]
          repeat refine ⟨by omega, ?_⟩
          refine hK _ ?_; clear hK K
          refine awp_ret ?_
          rw [hz]; simp [go_sem, Tryz.results19]
        · have d3 := c3; try simp at d3
          refine awp_reg_seq fun K hK => ?_
          simp [go_sem, c0, d0, c1, d1, c2, d2, c3, d3]
          repeat refine ⟨by omega, ?_⟩
          refine CSk.mk (accession_ordered_cs _ none a.nr a.r hm) ?_
          simp [go_sem, c0, d0, c1, d1, c2, d2, c3, d3]
          repeat refine ⟨by omega, ?_⟩
          refine hK _ ?_; clear hK K
          refine awp_forget [2, 3, 37] (by simp only [restr, List.contains_cons, List.contains_nil, Nat.reduceBEq, Bool.or_false, Bool.or_true, Bool.true_or, Bool.false_or, if_true, if_false, Bool.false_eq_true]; rfl) ?_
          refine awp_cond rfl (fun c4 => ?_) (fun c4 => ?_)
          · have d4 := c4; try simp at d4
            have hh : chkH t a = 1 := by unfold chkH; rw [if_neg (by simp [d0]), if_neg (by simp [d1]), if_neg (by simp [e2]), if_neg (by omega), if_pos (d4)]
            have hz : chkA t a = 1 := by unfold chkA; rw [hh]; rfl
            refine awp_reg_seq fun K hK => ?_
            simp [go_sem, c0, d0, c1, d1, c2, d2, c3, d3, c4, d4]
            repeat refine ⟨by omega, ?_⟩
            refine hK _ ?_; clear hK K
            refine awp_ret ?_
            rw [hz]; simp [go_sem, Tryz.results19]
          · have d4 := c4; try simp at d4
            refine awp_reg_seq fun K hK => ?_
            simp [go_sem, c0, d0, c1, d1, c2, d2, c3, d3, c4, d4]
            repeat refine ⟨by omega, ?_⟩
            refine hK _ ?_; clear hK K
            refine awp_forget [2, 3, 42] (by simp only [restr, List.contains_cons, List.contains_nil, Nat.reduceBEq, Bool.or_false, Bool.or_true, Bool.true_or, Bool.false_or, if_true, if_false, Bool.false_eq_true]; rfl) ?_
            refine awp_cond rfl (fun c5 => ?_) (fun c5 => ?_)
            · have d5 := c5; try simp at d5
              have hh : chkH t a = 8 := by unfold chkH; rw [if_neg (by simp [d0]), if_neg (by simp [d1]), if_neg (by simp [e2]), if_neg (by omega), if_neg (by simp [d4]), if_pos (by omega)]
              have hz : chkA t a = 8 := by unfold chkA; rw [hh]; rfl
              refine awp_reg_seq fun K hK => ?_
              simp [go_sem, c0, d0, c1, d1, c2, d2, c3, d3, c4, d4, c5, d5]
              repeat refine ⟨by omega, ?_⟩
              refine hK _ ?_; clear hK K
              refine awp_ret ?_
              rw [hz]; simp [go_sem, Tryz.results19]
            · have d5 := c5; try simp at d5
              have hh : chkH t a = 0 := by unfold chkH; rw [if_neg (by simp [d0]), if_neg (by simp [d1]), if_neg (by simp [e2]), if_neg (by omega), if_neg (by simp [d4]), if_neg (by omega)]
              have hb := fun d => bs_is (allD_asc t.n t.g a.nr a.r) d
              refine awp_skip ?_
              refine awp_reg_seq fun K hK => ?_
              simp [go_sem, c0, d0, c1, d1, c2, d2, c3, d3, c4, d4, c5, d5]
              repeat refine ⟨by omega, ?_⟩
              refine CSk.mk (compare_cs _ t none a.nr a.r d0 ((ordR_iff _ _).1 d4).2 (by have := ((ordR_iff _ _).1 d4).1; omega)) ?_
              simp [go_sem, c0, d0, c1, d1, c2, d2, c3, d3, c4, d4, c5, d5]
              repeat refine ⟨by omega, ?_⟩
              refine hK _ ?_; clear hK K
              refine awp_seq ?_
              refine awp_reg_seq fun K hK => ?_
              simp [go_sem, c0, d0, c1, d1, c2, d2, c3, d3, c4, d4, c5, d5]
              repeat refine ⟨by omega, ?_⟩
              refine hK _ ?_; clear hK K
              refine awp_block ?_
              refine awp_forget [3, 5, 52, 53, 54] (by simp [go_sem, restr]; rfl) ?_
              refine awp_loopU (α := Nat) (fun i => [(54, .d (I i))]) (fun i => σ ++ [.var (t.enc.map .d), .var (a.enc.map .d)]) (fun i => i ≤ a.na ∧ AgrOk (allT t a) i a.a) (fun i => a.na - i) 0 (by simp [go_sem]) (rfl) (⟨Nat.zero_le _, fun i hi => absurd hi (Nat.not_lt_zero i)⟩) ?_
              rintro i ⟨hi, hx⟩
              refine awp_reg_seq fun K hK => ?_
              simp [go_sem, c0, d0, c1, d1, c2, d2, c3, d3, c4, d4, c5, d5, wrap_pred (i := i) (by omega)]
              repeat refine ⟨by omega, ?_⟩
              refine hK _ ?_; clear hK K
              refine awp_seq ?_
              refine awp_forget [3, 5, 52, 53, 54, 55] (by simp only [restr, List.contains_cons, List.contains_nil, Nat.reduceBEq, Bool.or_false, Bool.or_true, Bool.true_or, Bool.false_or, if_true, if_false, Bool.false_eq_true]; rfl) ?_
              refine awp_cond rfl (fun c6 => ?_) (fun c6 => ?_)
              · have d6 := c6; try simp at d6
                refine awp_skip ?_
                refine awp_seq ?_
                refine awp_block ?_
                refine awp_reg_seq fun K hK => ?_
                simp [go_sem, c0, d0, c1, d1, c2, d2, c3, d3, c4, d4, c5, d5, wrap_pred (i := i) (by omega), c6, d6]
                repeat refine ⟨by omega, ?_⟩
                refine hK _ ?_; clear hK K
                refine awp_reg_seq fun K hK => ?_
                simp [go_sem, c0, d0, c1, d1, c2, d2, c3, d3, c4, d4, c5, d5, wrap_pred (i := i) (by omega), c6, d6]
                repeat refine ⟨by omega, ?_⟩
                refine CSk.mk (accession_find_cs _ none (allD t.n t.g a.nr a.r).length (nth (allD t.n t.g a.nr a.r)) (a.a i) (by omega)) ?_
                simp [go_sem, c0, d0, c1, d1, c2, d2, c3, d3, c4, d4, c5, d5, wrap_pred (i := i) (by omega), c6, d6]
                repeat refine ⟨by omega, ?_⟩
                refine hK _ ?_; clear hK K
                refine awp_draw_seq 17 T.mixed (by kernel_rfl) fun K hK => ?_
                simp [go_sem, c0, d0, c1, d1, c2, d2, c3, d3, c4, d4, c5, d5, wrap_pred (i := i) (by omega), c6, d6]
                try simp (disch := omega) only [wrapI]
                repeat refine ⟨by omega, ?_⟩
                refine CSg.mk (accession_order_cs _ (a.a (i - 1)) (a.a i)) ?_
                simp [go_sem, c0, d0, c1, d1, c2, d2, c3, d3, c4, d4, c5, d5, wrap_pred (i := i) (by omega), c6, d6]
                try simp (disch := omega) only [wrapI]
                repeat refine ⟨by omega, ?_⟩
                refine hK _ ?_; clear hK K
                refine awp_forget [3, 5, 52, 53, 54, 81] (by simp only [restr, List.contains_cons, List.contains_nil, Nat.reduceBEq, Bool.or_false, Bool.or_true, Bool.true_or, Bool.false_or, if_true, if_false, Bool.false_eq_true]; rfl) ?_
                refine awp_cond rfl (fun c7 => ?_) (fun c7 => ?_)
                · have d7 := c7; try simp at d7
                  have hz : agrB (allT t a) a.na a.a = false := agrB_no i d6 (by
                    rw [hb] at d7
                    rcases d7 with h1 | h1
                    · exact .inl (by show a.a i ∉ allD _ _ _ _; simpa using h1)
                    · exact .inr ⟨h1.1, by rw [← Bool.not_eq_true, ← ordD_neg]; omega⟩)
                  have hz : chkA t a = 14 := by unfold chkA; rw [if_neg (by simp [hh]), if_pos hz]
                  refine awp_reg_seq fun K hK => ?_
                  simp [go_sem, c0, d0, c1, d1, c2, d2, c3, d3, c4, d4, c5, d5, wrap_pred (i := i) (by omega), c6, d6, c7, d7]
                  repeat refine ⟨by omega, ?_⟩
                  refine hK _ ?_; clear hK K
                  refine awp_ret ?_
                  rw [hz]; simp [go_sem, Tryz.results19]
                · have d7 := c7; try simp at d7
                  have hnx : a.a i ∈ allT t a ∧ (0 < i → lessD (a.a (i - 1)) (a.a i) = true) := by
                    rw [hb] at d7
                    refine ⟨by show a.a i ∈ allD _ _ _ _; simpa using d7.1, fun h => ?_⟩
                    have := d7.2 h
                    rw [← ordD_neg]; omega
                  refine awp_skip ?_
                  refine awp_reg_end fun K hK => ?_
                  simp [go_sem, c0, d0, c1, d1, c2, d2, c3, d3, c4, d4, c5, d5, wrap_pred (i := i) (by omega), c6, d6, c7, d7]
                  try simp (disch := omega) only [wrapI]
                  repeat refine ⟨by omega, ?_⟩
                  refine hK _ ?_; clear hK K
                  refine ⟨i + 1, back_of' (by simp [go_sem, wrap_succ (i := i) (by omega), c0, d0, c1, d1, c2, d2, c3, d3, c4, d4, c5, d5, wrap_pred (i := i) (by omega), c6, d6, c7, d7]) ((leaves_app (by simp [go_sem]))) (by (simp [go_sem, wrap_succ (i := i) (by omega), c0, d0, c1, d1, c2, d2, c3, d3, c4, d4, c5, d5, wrap_pred (i := i) (by omega), c6, d6, c7, d7] <;> omega)), ⟨by omega, fun q hq => by rcases Nat.lt_or_eq_of_le (Nat.le_of_lt_succ hq) with h | h; exact hx q h; rw [h]; exact hnx⟩, by first | omega | (dsimp only; omega)⟩
              · have d6 := c6; try simp at d6
                have hin : i = a.na := by omega
                have hz : chkA t a = 0 := by rw [chkA_zero]; exact ⟨hh, by rw [agrB_iff, ← hin]; exact hx⟩
                refine awp_exit ?_
                refine awp_reg_seq fun K hK => ?_
                simp [go_sem, c0, d0, c1, d1, c2, d2, c3, d3, c4, d4, c5, d5, wrap_pred (i := i) (by omega), c6, d6]
                repeat refine ⟨by omega, ?_⟩
                refine hK _ ?_; clear hK K
                refine awp_ret ?_
                rw [hz]; simp [go_sem, Tryz.results19]

theorem ref17_Check_cs (σ : List Blk) (t : TL) (a : Acs) (hn : t.n < 1000000000) (hN : ∀ i, i < t.n → (t.g i).Title.size < 4294967281) (hm : a.nr < 1000000000) (hk : a.na < 1000000000) : CSF Tryz.prog 20 [.agg (t.enc.map .d), .agg (a.enc.map .d)] σ (.d (I (chkA t a))) := by
  refine CSF.of_body T.en20 Tryz.func20 rfl (by simp [Tryz.ntmps20]) (by simp [go_sem]) fun hwf => ?_
  refine awp_reg_seq fun K hK => ?_
  simp [go_sem, Tryz.ntmps20]
  repeat refine ⟨by omega, ?_⟩
  refine hK _ ?_; clear hK K
  refine awp_seq ?_
  refine awp_block ?_
  refine awp_reg_seq fun K hK => ?_
  simp [go_sem]
  repeat refine ⟨by omega, ?_⟩
  refine CSk.mk (ref16_Right_cs _ t hn hN) ?_
  simp [go_sem]
  repeat refine ⟨by omega, ?_⟩
  refine hK _ ?_; clear hK K
  refine awp_forget [2, 3, 5] (by simp only [restr, List.contains_cons, List.contains_nil, Nat.reduceBEq, Bool.or_false, Bool.or_true, Bool.true_or, Bool.false_or, if_true, if_false, Bool.false_eq_true]; rfl) ?_
  refine awp_cond rfl (fun c0 => ?_) (fun c0 => ?_)
  · have d0 := c0; try simp at d0
    have hh : chkH t a = 1 := by unfold chkH; rw [if_pos (d0)]
    have hz : chkA t a = 1 := by unfold chkA; rw [hh]; rfl
    refine awp_reg_seq fun K hK => ?_
    simp [go_sem, c0, d0]
    repeat refine ⟨by omega, ?_⟩
    refine hK _ ?_; clear hK K
    refine awp_ret ?_
    rw [hz]; simp [go_sem, Tryz.results20]
  · have d0 := c0; try simp at d0
    refine awp_reg_seq fun K hK => ?_
    simp [go_sem, c0, d0]
    repeat refine ⟨by omega, ?_⟩
    refine hK _ ?_; clear hK K
    refine awp_forget [2, 3, 9] (by simp only [restr, List.contains_cons, List.contains_nil, Nat.reduceBEq, Bool.or_false, Bool.or_true, Bool.true_or, Bool.false_or, if_true, if_false, Bool.false_eq_true]; rfl) ?_
    refine awp_cond rfl (fun c1 => ?_) (fun c1 => ?_)
    · have d1 := c1; try simp at d1
      have hh : chkH t a = 2 := by unfold chkH; rw [if_neg (by simp [d0]), if_pos (by rw [← Bool.not_eq_true, Bool.and_eq_true, inB_iff, inB_iff]; omega)]
      have hz : chkA t a = 2 := by unfold chkA; rw [hh]; rfl
      refine awp_reg_seq fun K hK => ?_
      simp [go_sem, c0, d0, c1, d1]
      repeat refine ⟨by omega, ?_⟩
      refine hK _ ?_; clear hK K
      refine awp_ret ?_
      rw [hz]; simp [go_sem, Tryz.results20]
    · have d1 := c1; try simp at d1
      refine awp_reg_seq fun K hK => ?_
      simp [go_sem, c0, d0, c1, d1]
      repeat refine ⟨by omega, ?_⟩
      refine hK _ ?_; clear hK K
      refine awp_forget [2, 3, 28] (by simp only [restr, List.contains_cons, List.contains_nil, Nat.reduceBEq, Bool.or_false, Bool.or_true, Bool.true_or, Bool.false_or, if_true, if_false, Bool.false_eq_true]; rfl) ?_
      refine awp_cond rfl (fun c2 => ?_) (fun c2 => ?_)
      · have d2 := c2; try simp at d2
        have hh : chkH t a = 10 := by unfold chkH; rw [if_neg (by simp [d0]), if_neg (by rw [Bool.not_eq_false, Bool.and_eq_true, inB_iff, inB_iff]; omega), if_pos (d2)]
        have hz : chkA t a = 10 := by unfold chkA; rw [hh]; rfl
        refine awp_reg_seq fun K hK => ?_
        simp [go_sem, c0, d0, c1, d1, c2, d2]
        repeat refine ⟨by omega, ?_⟩
        refine hK _ ?_; clear hK K
        refine awp_ret ?_
        rw [hz]; simp [go_sem, Tryz.results20]
      · have d2 := c2; try simp at d2
        have e2 : a.Of = t.ID := d2
        clear c2 d2
        have c2 := trivial
        have d2 := trivial
        refine awp_reg_seq fun K hK => ?_
        simp [go_sem, c0, d0, c1, d1, c2, d2]
        repeat refine ⟨by omega, ?_⟩
        refine hK _ ?_; clear hK K
        refine awp_forget [2, 3, 34] (by simp only [restr, List.contains_cons, List.contains_nil, Nat.reduceBEq, Bool.or_false, Bool.or_true, Bool.true_or, Bool.false_or, if_true, if_false, Bool.false_eq_true]; rfl) ?_
        refine awp_cond rfl (fun c3 => ?_) (fun c3 => ?_)
        · have d3 := c3; try simp at d3
          have hh : chkH t a = 5 := by unfold chkH; rw [if_neg (by simp [d0]), if_neg (by rw [Bool.not_eq_false, Bool.and_eq_true, inB_iff, inB_iff]; omega), if_neg (by simp [e2]), if_pos (d3)]
          have hz : chkA t a = 5 := by unfold chkA; rw [hh]; rfl
          refine awp_reg_seq fun K hK => ?_
          simp [go_sem, c0, d0, c1, d1, c2, d2, c3, d3]
          repeat refine ⟨by omega, ?_⟩
          refine hK _ ?_; clear hK K
          refine awp_ret ?_
          rw [hz]; simp [go_sem, Tryz.results20]
        · have d3 := c3; try simp at d3
          refine awp_reg_seq fun K hK => ?_
          simp [go_sem, c0, d0, c1, d1, c2, d2, c3, d3]
          repeat refine ⟨by omega, ?_⟩
          refine CSk.mk (ref17_inOrder_cs _ none a.nr a.r hm) ?_
          simp [go_sem, c0, d0, c1, d1, c2, d2, c3, d3]
          repeat refine ⟨by omega, ?_⟩
          refine hK _ ?_; clear hK K
          refine awp_forget [2, 3, 40] (by simp only [restr, List.contains_cons, List.contains_nil, Nat.reduceBEq, Bool.or_false, Bool.or_true, Bool.true_or, Bool.false_or, if_true, if_false, Bool.false_eq_true]; rfl) ?_
          refine awp_cond rfl (fun c4 => ?_) (fun c4 => ?_)
          · have d4 := c4; try simp at d4
            have hh : chkH t a = 1 := by unfold chkH; rw [if_neg (by simp [d0]), if_neg (by rw [Bool.not_eq_false, Bool.and_eq_true, inB_iff, inB_iff]; omega), if_neg (by simp [e2]), if_neg (by omega), if_pos (d4)]
            have hz : chkA t a = 1 := by unfold chkA; rw [hh]; rfl
            refine awp_reg_seq fun K hK => ?_
            simp [go_sem, c0, d0, c1, d1, c2, d2, c3, d3, c4, d4]
            repeat refine ⟨by omega, ?_⟩
            refine hK _ ?_; clear hK K
            refine awp_ret ?_
            rw [hz]; simp [go_sem, Tryz.results20]
          · have d4 := c4; try simp at d4
            refine awp_reg_seq fun K hK => ?_
            simp [go_sem, c0, d0, c1, d1, c2, d2, c3, d3, c4, d4]
            repeat refine ⟨by omega, ?_⟩
            refine hK _ ?_; clear hK K
            refine awp_forget [2, 3, 45] (by simp only [restr, List.contains_cons, List.contains_nil, Nat.reduceBEq, Bool.or_false, Bool.or_true, Bool.true_or, Bool.false_or, if_true, if_false, Bool.false_eq_true]; rfl) ?_
            refine awp_cond rfl (fun c5 => ?_) (fun c5 => ?_)
            · have d5 := c5; try simp at d5
              have hh : chkH t a = 8 := by unfold chkH; rw [if_neg (by simp [d0]), if_neg (by rw [Bool.not_eq_false, Bool.and_eq_true, inB_iff, inB_iff]; omega), if_neg (by simp [e2]), if_neg (by omega), if_neg (by simp [d4]), if_pos (by omega)]
              have hz : chkA t a = 8 := by unfold chkA; rw [hh]; rfl
              refine awp_reg_seq fun K hK => ?_
              simp [go_sem, c0, d0, c1, d1, c2, d2, c3, d3, c4, d4, c5, d5]
              repeat refine ⟨by omega, ?_⟩
              refine hK _ ?_; clear hK K
              refine awp_ret ?_
              rw [hz]; simp [go_sem, Tryz.results20]
            · have d5 := c5; try simp at d5
              have hh : chkH t a = 0 := by unfold chkH; rw [if_neg (by simp [d0]), if_neg (by rw [Bool.not_eq_false, Bool.and_eq_true, inB_iff, inB_iff]; omega), if_neg (by simp [e2]), if_neg (by omega), if_neg (by simp [d4]), if_neg (by omega)]
              refine awp_reg_seq fun K hK => ?_
              simp [go_sem, c0, d0, c1, d1, c2, d2, c3, d3, c4, d4, c5, d5]
              repeat refine ⟨by omega, ?_⟩
              refine CSk.mk (ref17_agreed_cs _ t a hn hm hk) ?_
              simp [go_sem, c0, d0, c1, d1, c2, d2, c3, d3, c4, d4, c5, d5]
              repeat refine ⟨by omega, ?_⟩
              refine hK _ ?_; clear hK K
              refine awp_forget [50] (by simp only [restr, List.contains_cons, List.contains_nil, Nat.reduceBEq, Bool.or_false, Bool.or_true, Bool.true_or, Bool.false_or, if_true, if_false, Bool.false_eq_true]; rfl) ?_
              refine awp_cond rfl (fun c6 => ?_) (fun c6 => ?_)
              · have d6 := c6; try simp at d6
                have hz : chkA t a = 14 := by unfold chkA; rw [if_neg (by simp [hh]), if_pos d6]
                refine awp_reg_seq fun K hK => ?_
                simp [go_sem, c0, d0, c1, d1, c2, d2, c3, d3, c4, d4, c5, d5, c6, d6]
                repeat refine ⟨by omega, ?_⟩
                refine hK _ ?_; clear hK K
                refine awp_ret ?_
                rw [hz]; simp [go_sem, Tryz.results20]
              · have d6 := c6; try simp at d6
                have hz : chkA t a = 0 := by rw [chkA_zero]; exact ⟨hh, d6⟩
                refine awp_skip ?_
                refine awp_reg_seq fun K hK => ?_
                simp [go_sem, c0, d0, c1, d1, c2, d2, c3, d3, c4, d4, c5, d5, c6, d6]
                repeat refine ⟨by omega, ?_⟩
                refine hK _ ?_; clear hK K
                refine awp_ret ?_
                rw [hz]; simp [go_sem, Tryz.results20]

theorem accession_open_1_cs (σ : List Blk) (τ : List Blk) (a : Acs) (d : Dif) (hk : a.na < 1000000000) : CSF Tryz.prog 77 [.agg (d.enc.map .d), .ptr σ.length 0] (σ ++ .var (a.enc.map .d) :: τ) (.d (B (hasD a.na a.a d))) := by
  refine CSF.of_body T.en77 Tryz.func77 rfl (by simp [Tryz.ntmps77]) (by simp [go_sem]) fun hwf => ?_
  refine awp_reg_seq fun K hK => ?_
  simp [go_sem, Tryz.ntmps77]
  repeat refine ⟨by omega, ?_⟩
  refine hK _ ?_; clear hK K
  refine awp_reg_seq fun K hK => ?_
  simp [go_sem]
  repeat refine ⟨by omega, ?_⟩
  refine CSk.mk (containsOf_cs _ none a.na a.a d hk) ?_
  simp [go_sem]
  repeat refine ⟨by omega, ?_⟩
  refine hK _ ?_; clear hK K
  refine awp_ret ?_
  simp [go_sem, Tryz.results77] <;> omega

theorem accession_open_cs (σ : List Blk) (t : TL) (a : Acs) (ht : (tlChk t).2 = 0) (hg : OrdR a.nr a.r) (hm : a.nr ≤ 1000) (hk : a.na < 1000000000) : CSF Tryz.prog 39 [.agg (t.enc.map .d), .agg (a.enc.map .d)] σ (.d (SL none 2 Dif.enc (opnL t a).length (nth (opnL t a)))) := by
  have hal := allD_len t.n t.g a.nr a.r
  refine CSF.of_body T.en39 Tryz.func39 rfl (by simp [Tryz.ntmps39]) (by simp [go_sem]) fun hwf => ?_
  refine awp_reg_seq fun K hK => ?_
  simp [go_sem, Tryz.ntmps39]
  repeat refine ⟨by omega, ?_⟩
  refine hK _ ?_; clear hK K
  refine awp_reg_seq fun K hK => ?_
  simp [go_sem]
  repeat refine ⟨by omega, ?_⟩
  have hco := compareM_cs (σ ++ [.var (t.enc.map .d), .var (a.enc.map .d)]) t none a.nr a.r ht hg hm; simp only [List.append_assoc, List.cons_append, List.nil_append, List.length_append, List.length_cons, List.length_nil, Nat.zero_add, Nat.add_assoc, Nat.reduceAdd] at hco; refine CSk.gen hco ?_; rintro r σ' X ⟨B, rfl, rfl, rfl⟩
  simp [go_sem]
  repeat refine ⟨by omega, ?_⟩
  have hde := deleteDif_cs (σ ++ [.var (t.enc.map .d), .var (a.enc.map .d), .var (t.enc.map .d), B]) [] (allD t.n t.g a.nr a.r).length (nth (allD t.n t.g a.nr a.r)) 77 [.ptr (σ.length + 1) 0] (fun d => hasD a.na a.a d) (by omega) (fun h r υ => by have h := accession_open_1_cs (σ ++ [.var (t.enc.map .d)]) (.var (t.enc.map .d) :: B :: .arr 2 (allD t.n t.g a.nr a.r).length (fun i => Dif.enc (h i)) :: υ) a r hk; simpa using h); simp only [List.append_assoc, List.cons_append, List.nil_append, List.length_append, List.length_cons, List.length_nil, Nat.zero_add, Nat.add_assoc, Nat.reduceAdd] at hde; refine CSk.gen hde ?_; rintro r σ' X ⟨rfl, rfl, rfl⟩
  simp [go_sem]
  repeat refine ⟨by omega, ?_⟩
  refine hK _ ?_; clear hK K
  refine awp_freeze (σ.length + 4) (by simp [go_sem]; first | exact ⟨rfl, rfl, rfl⟩ | exact ⟨rfl, rfl⟩ | rfl) (by simp [go_sem]; rfl) (by simp [go_sem, hwf.frz, hwf.frz0]; rfl) ?_
  refine awp_ret ?_
  have ho := opnL_eq t a
  rw [ho]
  simp [go_sem, Tryz.results39] <;> omega

theorem accession_Open_cs (σ : List Blk) (t : TL) (a : Acs) (hn : t.n < 1000000000) (hN : ∀ i, i < t.n → (t.g i).Title.size < 4294967281) (hσ : σ[0]? = some (.loc 0)) (hm : a.nr < 1000000000) (hk : a.na < 1000000000) : CSF Tryz.prog 12 [.agg (t.enc.map .d), .agg (a.enc.map .d)] σ (.tup [.d (SL none 2 Dif.enc (opnP t a).1.length (nth (opnP t a).1)), .d (I (opnP t a).2)]) := by
  refine CSF.of_body T.en12 Tryz.func12 rfl (by simp [Tryz.ntmps12]) (by simp [go_sem]) fun hwf => ?_
  refine awp_reg_seq fun K hK => ?_
  simp [go_sem, Tryz.ntmps12]
  repeat refine ⟨by omega, ?_⟩
  refine hK _ ?_; clear hK K
  refine awp_seq ?_
  refine awp_reg_seq fun K hK => ?_
  simp [go_sem]
  repeat refine ⟨by omega, ?_⟩
  refine CSk.mk (accession_Check_cs _ t a hn hN (loc_app hσ) hm hk) ?_
  simp [go_sem]
  repeat refine ⟨by omega, ?_⟩
  refine hK _ ?_; clear hK K
  refine awp_reg_seq fun K hK => ?_
  simp [go_sem]
  repeat refine ⟨by omega, ?_⟩
  refine hK _ ?_; clear hK K
  refine awp_forget [2, 3, 6, 11] (by simp only [restr, List.contains_cons, List.contains_nil, Nat.reduceBEq, Bool.or_false, Bool.or_true, Bool.true_or, Bool.false_or, if_true, if_false, Bool.false_eq_true]; rfl) ?_
  refine awp_cond rfl (fun c0 => ?_) (fun c0 => ?_)
  · have d0 := c0; try simp at d0
    have hz : opnP t a = ([], chkA t a) := by unfold opnP; rw [if_neg d0]
    refine awp_reg_seq fun K hK => ?_
    simp [go_sem, c0, d0]
    repeat refine ⟨by omega, ?_⟩
    refine hK _ ?_; clear hK K
    refine awp_ret ?_
    rw [hz]; simp [go_sem, Tryz.results12]
  · have d0 := c0; try simp at d0
    have hz : opnP t a = (opnL t a, 0) := by unfold opnP; rw [if_pos d0]
    have hc := chkH_zero (chkA_zero.1 d0).1
    have ho := (ordR_iff _ _).1 hc.2.2.2.2.2.1
    refine awp_skip ?_
    refine awp_reg_seq fun K hK => ?_
    simp [go_sem, c0, d0]
    repeat refine ⟨by omega, ?_⟩
    refine CSk.mk (accession_open_cs _ t a hc.1 ho.2 (by omega) hk) ?_
    simp [go_sem, c0, d0]
    repeat refine ⟨by omega, ?_⟩
    refine hK _ ?_; clear hK K
    refine awp_ret ?_
    rw [hz]; simp [go_sem, Tryz.results12]

theorem ref17_Open_cs (σ : List Blk) (t : TL) (a : Acs) (hn : t.n < 1000000000) (hN : ∀ i, i < t.n → (t.g i).Title.size < 4294967281) (hm : a.nr < 1000000000) (hk : a.na < 1000000000) : CSF Tryz.prog 14 [.agg (t.enc.map .d), .agg (a.enc.map .d)] σ (.tup [.d (SL none 2 Dif.enc (opnP t a).1.length (nth (opnP t a).1)), .d (I (opnP t a).2)]) := by
  have hal := allD_len t.n t.g a.nr a.r
  have hkl := kept_len (fun d => hasD a.na a.a d) (nth (allD t.n t.g a.nr a.r))
  refine CSF.of_body T.en14 Tryz.func14 rfl (by simp [Tryz.ntmps14]) (by simp [go_sem]) fun hwf => ?_
  refine awp_reg_seq fun K hK => ?_
  simp [go_sem, Tryz.ntmps14]
  repeat refine ⟨by omega, ?_⟩
  refine hK _ ?_; clear hK K
  refine awp_seq ?_
  refine awp_reg_seq fun K hK => ?_
  simp [go_sem]
  repeat refine ⟨by omega, ?_⟩
  refine CSk.mk (ref17_Check_cs _ t a hn hN hm hk) ?_
  simp [go_sem]
  repeat refine ⟨by omega, ?_⟩
  refine hK _ ?_; clear hK K
  refine awp_reg_seq fun K hK => ?_
  simp [go_sem]
  repeat refine ⟨by omega, ?_⟩
  refine hK _ ?_; clear hK K
  refine awp_forget [2, 3, 6, 14] (by simp only [restr, List.contains_cons, List.contains_nil, Nat.reduceBEq, Bool.or_false, Bool.or_true, Bool.true_or, Bool.false_or, if_true, if_false, Bool.false_eq_true]; rfl) ?_
  refine awp_cond rfl (fun c0 => ?_) (fun c0 => ?_)
  · have d0 := c0; try simp at d0
    have hz : opnP t a = ([], chkA t a) := by unfold opnP; rw [if_neg d0]
    refine awp_reg_seq fun K hK => ?_
    simp [go_sem, c0, d0]
    repeat refine ⟨by omega, ?_⟩
    refine hK _ ?_; clear hK K
    refine awp_ret ?_
    rw [hz]; simp [go_sem, Tryz.results14]
  · have d0 := c0; try simp at d0
    have hz : opnP t a = (opnL t a, 0) := by unfold opnP; rw [if_pos d0]
    refine awp_skip ?_
    refine awp_reg_seq fun K hK => ?_
    simp [go_sem, c0, d0]
    repeat refine ⟨by omega, ?_⟩
    refine hK _ ?_; clear hK K
    refine awp_thawT 7 2 (fun i => Dif.enc (nth ([] : List Dif) i)) (by simp [go_sem]) (by simp [go_sem]; rfl) ?_
    refine awp_reg_seq fun K hK => ?_
    simp [go_sem, c0, d0]
    repeat refine ⟨by omega, ?_⟩
    refine CSk.mk (ref17_differences_cs _ t none a.nr a.r hn hm) ?_
    simp [go_sem, c0, d0]
    repeat refine ⟨by omega, ?_⟩
    refine hK _ ?_; clear hK K
    refine awp_seq ?_
    refine awp_reg_seq fun K hK => ?_
    simp [go_sem, c0, d0]
    repeat refine ⟨by omega, ?_⟩
    refine hK _ ?_; clear hK K
    refine awp_block ?_
    refine awp_forget [3, 7, 8, 9] (by simp [go_sem, restr]; rfl) ?_
    refine awp_mv [σ.length + 2] (by simp) ?_
    refine awp_loopU (α := Nat) (fun i => [(7, .ms (σ.length + 2) 2 0 (kept (fun d => hasD a.na a.a d) (nth (allD t.n t.g a.nr a.r)) i).length), (9, .d (I i))]) (fun i => σ ++ [.var (t.enc.map .d), .var (a.enc.map .d), .arr 2 (kept (fun d => hasD a.na a.a d) (nth (allD t.n t.g a.nr a.r)) i).length (fun q => Dif.enc (nth (kept (fun d => hasD a.na a.a d) (nth (allD t.n t.g a.nr a.r)) i) q))]) (fun i => i ≤ (allD t.n t.g a.nr a.r).length) (fun i => (allD t.n t.g a.nr a.r).length - i) 0 (by simp [go_sem, kept, lst]) (rfl) (by simp) ?_
    rintro i hi
    refine awp_seq ?_
    refine awp_reg_seq fun K hK => ?_
    simp [go_sem, c0, d0]
    repeat refine ⟨by omega, ?_⟩
    refine hK _ ?_; clear hK K
    refine awp_forget [3, 7, 8, 9, 23] (by simp only [restr, List.contains_cons, List.contains_nil, Nat.reduceBEq, Bool.or_false, Bool.or_true, Bool.true_or, Bool.false_or, if_true, if_false, Bool.false_eq_true]; rfl) ?_
    refine awp_cond rfl (fun c1 => ?_) (fun c1 => ?_)
    · have d1 := c1; try simp at d1
      have hkli := hkl i
      refine awp_skip ?_
      refine awp_seq ?_
      refine awp_block ?_
      refine awp_draw_seq 8 T.mixed (by kernel_rfl) fun K hK => ?_
      simp [go_sem, c0, d0, c1, d1]
      repeat refine ⟨by omega, ?_⟩
      refine CSg.mk (ref17_has_cs _ none a.na a.a (nth (allD t.n t.g a.nr a.r) i) hk) ?_
      simp [go_sem, c0, d0, c1, d1]
      repeat refine ⟨by omega, ?_⟩
      refine hK _ ?_; clear hK K
      refine awp_forget [3, 7, 8, 9, 33] (by simp only [restr, List.contains_cons, List.contains_nil, Nat.reduceBEq, Bool.or_false, Bool.or_true, Bool.true_or, Bool.false_or, if_true, if_false, Bool.false_eq_true]; rfl) ?_
      refine awp_cond rfl (fun c2 => ?_) (fun c2 => ?_)
      · have d2 := c2; try simp at d2
        have ha : kept (fun d => hasD a.na a.a d) (nth (allD t.n t.g a.nr a.r)) (i + 1) = kept (fun d => hasD a.na a.a d) (nth (allD t.n t.g a.nr a.r)) i ++ [nth (allD t.n t.g a.nr a.r) i] := by rw [kept_succ, if_neg (by simp [d2])]
        refine awp_reg_end fun K hK => ?_
        simp [go_sem, c0, d0, c1, d1, c2, d2, ha, hwf.one, hwf.zero]
        repeat refine ⟨by omega, ?_⟩
        refine hK _ ?_; clear hK K
        refine awp_rows (σ.length + 2) (fun q => Dif.enc (nth (kept (fun d => hasD a.na a.a d) (nth (allD t.n t.g a.nr a.r)) i ++ [nth (allD t.n t.g a.nr a.r) i]) q)) (by simp [go_sem]; first | exact ⟨rfl, rfl, rfl⟩ | exact ⟨rfl, rfl⟩ | rfl) (by exact fun q hq => cat_nth (enc := Dif.enc) (x := nth (allD t.n t.g a.nr a.r) i) rfl hq) (by simp [go_sem]; rfl) ?_
        refine awp_reg_end fun K hK => ?_
        simp [go_sem, c0, d0, c1, d1, c2, d2, ha]
        try simp (disch := omega) only [wrapI]
        repeat refine ⟨by omega, ?_⟩
        refine hK _ ?_; clear hK K
        refine ⟨i + 1, back_of' (by simp [go_sem, wrap_succ (i := i) (by omega), c0, d0, c1, d1, c2, d2, ha]) ((leaves_app (by simp [go_sem]))) (by (simp [go_sem, wrap_succ (i := i) (by omega), c0, d0, c1, d1, c2, d2, ha] <;> omega)), by omega, by first | omega | (dsimp only; omega)⟩
      · have d2 := c2; try simp at d2
        have ha : kept (fun d => hasD a.na a.a d) (nth (allD t.n t.g a.nr a.r)) (i + 1) = kept (fun d => hasD a.na a.a d) (nth (allD t.n t.g a.nr a.r)) i := by rw [kept_succ, if_pos d2]
        refine awp_skip ?_
        refine awp_reg_end fun K hK => ?_
        simp [go_sem, c0, d0, c1, d1, c2, d2, ha]
        try simp (disch := omega) only [wrapI]
        repeat refine ⟨by omega, ?_⟩
        refine hK _ ?_; clear hK K
        refine ⟨i + 1, back_of' (by simp [go_sem, wrap_succ (i := i) (by omega), c0, d0, c1, d1, c2, d2, ha]) ((leaves_app (by simp [go_sem]))) (by (simp [go_sem, wrap_succ (i := i) (by omega), c0, d0, c1, d1, c2, d2, ha] <;> omega)), by omega, by first | omega | (dsimp only; omega)⟩
    · have d1 := c1; try simp at d1
      have hin : i = (allD t.n t.g a.nr a.r).length := by omega
      have ho := opnL_eq t a
      rw [← hin] at ho
      refine awp_exit ?_
      refine awp_reg_seq fun K hK => ?_
      simp [go_sem, c0, d0, c1, d1]
      repeat refine ⟨by omega, ?_⟩
      refine hK _ ?_; clear hK K
      refine awp_freeze (σ.length + 2) (by simp [go_sem]; first | exact ⟨rfl, rfl, rfl⟩ | exact ⟨rfl, rfl⟩ | rfl) (by simp [go_sem]; rfl) (by simp [go_sem, hwf.frz, hwf.frz0]; rfl) ?_
      refine awp_ret ?_
      rw [hz, ho]; simp [go_sem, Tryz.results14]

theorem accession_Numbers_cs (σ : List Blk) (t : TL) (a : Acs) (hn : t.n < 1000000000) (hN : ∀ i, i < t.n → (t.g i).Title.size < 4294967281) (hσ : σ[0]? = some (.loc 0)) (hm : a.nr < 1000000000) (hk : a.na < 1000000000) : CSF Tryz.prog 15 [.agg (t.enc.map .d), .agg (a.enc.map .d)] σ (.tup [.d (SL none 1 encI (numP t a).1.length (nth (numP t a).1)), .d (I (numP t a).2)]) := by
  refine CSF.of_body T.en15 Tryz.func15 rfl (by simp [Tryz.ntmps15]) (by simp [go_sem]) fun hwf => ?_
  refine awp_reg_seq fun K hK => ?_
  simp [go_sem, Tryz.ntmps15]
  repeat refine ⟨by omega, ?_⟩
  refine hK _ ?_; clear hK K
  refine awp_seq ?_
  refine awp_reg_seq fun K hK => ?_
  simp [go_sem]
  repeat refine ⟨by omega, ?_⟩
  refine CSk.mk (accession_Check_cs _ t a hn hN (loc_app hσ) hm hk) ?_
  simp [go_sem]
  repeat refine ⟨by omega, ?_⟩
  refine hK _ ?_; clear hK K
  refine awp_reg_seq fun K hK => ?_
  simp [go_sem]
  repeat refine ⟨by omega, ?_⟩
  refine hK _ ?_; clear hK K
  refine awp_forget [2, 3, 6, 14] (by simp only [restr, List.contains_cons, List.contains_nil, Nat.reduceBEq, Bool.or_false, Bool.or_true, Bool.true_or, Bool.false_or, if_true, if_false, Bool.false_eq_true]; rfl) ?_
  refine awp_cond rfl (fun c0 => ?_) (fun c0 => ?_)
  · have d0 := c0; try simp at d0
    have hz : numP t a = ([], chkA t a) := by unfold numP; rw [if_neg d0]
    refine awp_reg_seq fun K hK => ?_
    simp [go_sem, c0, d0]
    repeat refine ⟨by omega, ?_⟩
    refine hK _ ?_; clear hK K
    refine awp_ret ?_
    rw [hz]; simp [go_sem, Tryz.results15]
  · have d0 := c0; try simp at d0
    have hz : numP t a = (numL t a, 0) := by unfold numP; rw [if_pos d0]
    have hc := chkH_zero (chkA_zero.1 d0).1
    have ho := (ordR_iff _ _).1 hc.2.2.2.2.2.1
    have hol := opnL_len t a
    refine awp_skip ?_
    refine awp_reg_seq fun K hK => ?_
    simp [go_sem, c0, d0]
    repeat refine ⟨by omega, ?_⟩
    refine hK _ ?_; clear hK K
    refine awp_seq ?_
    refine awp_thawT 7 1 (fun q => encI (a.r q).Number) (by simp [go_sem]) (by simp [go_sem]; rfl) ?_
    refine awp_reg_seq fun K hK => ?_
    simp [go_sem, c0, d0]
    repeat refine ⟨by omega, ?_⟩
    refine CSk.mk (accession_open_cs _ t a hc.1 ho.2 (by omega) hk) ?_
    simp [go_sem, c0, d0]
    repeat refine ⟨by omega, ?_⟩
    refine hK _ ?_; clear hK K
    refine awp_forget [3, 7, 20] (by simp only [restr, List.contains_cons, List.contains_nil, Nat.reduceBEq, Bool.or_false, Bool.or_true, Bool.true_or, Bool.false_or, if_true, if_false, Bool.false_eq_true]; rfl) ?_
    refine awp_cond rfl (fun c1 => ?_) (fun c1 => ?_)
    · have d1 := c1; try simp at d1
      have hl : numL t a = lst a.nr (fun i => (a.r i).Number) := by unfold numL; rw [if_pos (by simp [d1])]
      refine awp_reg_seq fun K hK => ?_
      simp [go_sem, c0, d0, c1, d1]
      repeat refine ⟨by omega, ?_⟩
      refine hK _ ?_; clear hK K
      refine awp_block ?_
      refine awp_forget [7, 22, 23, 24] (by simp [go_sem, restr]; rfl) ?_
      refine awp_mv [σ.length + 2] (by simp) ?_
      refine awp_loopU (α := Nat) (fun i => [(7, .ms (σ.length + 2) 1 0 i), (24, .d (I i))]) (fun i => σ ++ [.var (t.enc.map .d), .var (a.enc.map .d), .arr 1 i (fun q => encI (a.r q).Number)]) (fun i => i ≤ a.nr) (fun i => a.nr - i) 0 (by simp [go_sem]) (rfl) (by simp) ?_
      rintro i hi
      refine awp_reg_seq fun K hK => ?_
      simp [go_sem, c0, d0, c1, d1]
      repeat refine ⟨by omega, ?_⟩
      refine hK _ ?_; clear hK K
      refine awp_seq ?_
      refine awp_forget [7, 22, 23, 24, 25] (by simp only [restr, List.contains_cons, List.contains_nil, Nat.reduceBEq, Bool.or_false, Bool.or_true, Bool.true_or, Bool.false_or, if_true, if_false, Bool.false_eq_true]; rfl) ?_
      refine awp_cond rfl (fun c2 => ?_) (fun c2 => ?_)
      · have d2 := c2; try simp at d2
        refine awp_skip ?_
        refine awp_seq ?_
        refine awp_block ?_
        refine awp_reg_seq fun K hK => ?_
        simp [go_sem, c0, d0, c1, d1, c2, d2]
        repeat refine ⟨by omega, ?_⟩
        refine hK _ ?_; clear hK K
        refine awp_reg_end fun K hK => ?_
        simp [go_sem, c0, d0, c1, d1, c2, d2, hwf.one, hwf.zero]
        repeat refine ⟨by omega, ?_⟩
        refine hK _ ?_; clear hK K
        refine awp_rows (σ.length + 2) (fun q => encI (a.r q).Number) (by simp [go_sem]; first | exact ⟨rfl, rfl, rfl⟩ | exact ⟨rfl, rfl⟩ | rfl) (by intro q hq; unfold catRows; split; rfl; rw [show q = i by omega]; simp [rowsOf, encI]) (by simp [go_sem]; rfl) ?_
        refine awp_reg_end fun K hK => ?_
        simp [go_sem, c0, d0, c1, d1, c2, d2]
        try simp (disch := omega) only [wrapI]
        repeat refine ⟨by omega, ?_⟩
        refine hK _ ?_; clear hK K
        refine ⟨i + 1, back_of' (by simp [go_sem, wrap_succ (i := i) (by omega), c0, d0, c1, d1, c2, d2]) ((leaves_app (by simp [go_sem]))) (by (simp [go_sem, wrap_succ (i := i) (by omega), c0, d0, c1, d1, c2, d2] <;> omega)), by omega, by first | omega | (dsimp only; omega)⟩
      · have d2 := c2; try simp at d2
        obtain rfl : i = a.nr := by omega
        refine awp_exit ?_
        refine awp_reg_seq fun K hK => ?_
        simp [go_sem, c0, d0, c1, d1, c2, d2]
        repeat refine ⟨by omega, ?_⟩
        refine hK _ ?_; clear hK K
        refine awp_freeze (σ.length + 2) (by simp [go_sem]; first | exact ⟨rfl, rfl, rfl⟩ | exact ⟨rfl, rfl⟩ | rfl) (by simp [go_sem]; rfl) (by simp [go_sem, hwf.frz, hwf.frz0]; rfl) ?_
        refine awp_ret ?_
        rw [hz, hl]; simp [go_sem, Tryz.results15, lst_length]
        exact fun q hq => by rw [nth_lst hq]
    · have d1 := c1; try simp at d1
      have hl : numL t a = [] := by unfold numL; rw [if_neg (by simpa using d1)]
      refine awp_skip ?_
      refine awp_reg_seq fun K hK => ?_
      simp [go_sem, c0, d0, c1, d1]
      repeat refine ⟨by omega, ?_⟩
      refine hK _ ?_; clear hK K
      refine awp_freeze (σ.length + 2) (by simp [go_sem]; first | exact ⟨rfl, rfl, rfl⟩ | exact ⟨rfl, rfl⟩ | rfl) (by simp [go_sem]; rfl) (by simp [go_sem, hwf.frz, hwf.frz0]; rfl) ?_
      refine awp_ret ?_
      rw [hz, hl]; simp [go_sem, Tryz.results15]

end Go.Proofs.YtnbokgmimbeihaaGreatDoor

/-! Axo -/
namespace Go.Abs
set_option linter.unusedVariables false
set_option linter.unusedSimpArgs false

/-- the operations that compute; the call that makes the block yields r -/
def evalC (P : Program) (all : List Oper) (ia : Nat) (r : AV) : List Oper → Nat → St → (St → Prop) → Prop
  | [], _, s, K => K s
  | o :: os, i, s, K => if Nat.beq i ia then evalC P all ia r os (i + 1) (s.put o.dst r) K
    else guardA all s o fun gd g => opA P true gd g o s fun s' => evalC P all ia r os (i + 1) s' K

theorem unrollC {P : Program} {all : List Oper} {ia : Nat} {r : AV} : ∀ {os : List Oper} {i0 : Nat} {s : St} {K : St → Prop}, evalC P all ia r os i0 s K →
    ∃ xs : Nat → AV, K (stAt s os xs os.length) ∧ (∀ i, i0 + i = ia → xs i = r) ∧ ∀ i o, os[i]? = some o → i0 + i ≠ ia → Local P all o (stAt s os xs i) (xs i)
  | [], i0, s, K, h => ⟨fun _ => r, h, fun _ _ => rfl, by simp⟩
  | o :: os, i0, s, K, h => by
    have key : ∀ x : AV, evalC P all ia r os (i0 + 1) (s.put o.dst x) K → (i0 = ia → x = r) → (i0 ≠ ia → Local P all o s x) →
        ∃ xs : Nat → AV, K (stAt s (o :: os) xs (o :: os).length) ∧ (∀ i, i0 + i = ia → xs i = r) ∧ ∀ i o', (o :: os)[i]? = some o' → i0 + i ≠ ia → Local P all o' (stAt s (o :: os) xs i) (xs i) := by
      intro x h hx hl
      obtain ⟨xs, hK, hia, hloc⟩ := unrollC h
      have hst : ∀ i, stAt s (o :: os) (fun | 0 => x | i + 1 => xs i) (i + 1) = stAt (s.put o.dst x) os xs i := by
        intro i
        induction i with
        | zero => rfl
        | succ i ih =>
          show (match (o :: os)[i + 1]? with | some o' => (stAt s (o :: os) (fun | 0 => x | i + 1 => xs i) (i + 1)).put o'.dst (xs i) | none => stAt s (o :: os) (fun | 0 => x | i + 1 => xs i) (i + 1)) = _
          rw [ih]
          simp only [List.getElem?_cons_succ]
          rfl
      refine ⟨fun | 0 => x | i + 1 => xs i, ?_, fun i hi => ?_, fun i o' hi h1 => ?_⟩
      · rw [List.length_cons, hst]; exact hK
      · cases i with
        | zero => exact hx (by simpa using hi)
        | succ i => exact hia i (by omega)
      · cases i with
        | zero => simp at hi; subst hi; exact hl (by simpa using h1)
        | succ i => rw [hst]; exact hloc i o' (by simpa using hi) (by omega)
    simp only [evalC] at h
    by_cases h1 : i0 = ia
    · rw [if_pos (by simpa using h1)] at h
      exact key _ h (fun _ => rfl) (fun h2 => absurd h1 h2)
    · rw [if_neg (by simpa using h1)] at h
      obtain ⟨x, hl, h⟩ := local_of h
      exact key x h (fun h3 => absurd h3 h1) (fun _ => hl)

/-- the block, as far as it is -/
def tauC (ia : Nat) (blk : Blk) (listed : Array Bool) : List Blk := if listed.getD ia false then [blk] else []

structure InvC (s : St) (ops : List Oper) (m ia : Nat) (blk : Blk) (t1 : List (Nat × AV)) (j0 : J0) (listed : Array Bool) (j : Js) (a : Act) (w : World) : Prop where
  defers : Marks j0.n0 w j a.defers
  rdok : ∀ l, j0.rd = some l → ∃ r, w.heap[l]? = some (.loop r)
  size : a.tmps.size = s.N
  sto : RelS w j (s.σ ++ tauC ia blk listed)
  len0 : j0.js.length ≤ j.length
  ag : Ag j0.js j s.mv
  lsize : listed.size = ops.length
  lB : ∀ k, m ≤ k → k < ops.length → ∀ b, listed.getD k b = false
  cl : ∀ q oq, q < m → ops[q]? = some oq → listed.getD q true = true → ∀ e ∈ oq.after, Region.binds .any e = true → listed.getD e.on false = true
  c1 : ∀ q oq k av, q < m → ops[q]? = some oq → oq.dst = some k → listed.getD q true = true → get t1 k = some av → k < s.N ∧ R w j av (a.tmps.getD k Go.undef)
  c2 : ∀ k av, (∀ q oq, q < m → ops[q]? = some oq → oq.dst = some k → listed.getD q true = false) → get s.t k = some av → k < s.N ∧ R w j av (a.tmps.getD k Go.undef)

section
variable {P : Program} {ops : List Oper} {m ia : Nat}

/-- what the operations of the part that computes come to, whatever the block is -/
structure PureC (P : Program) (s : St) (ops : List Oper) (m ia : Nat) (t1 : List (Nat × AV)) (r : AV) : Prop where
  at_ : ∀ τ : List Blk, ∃ xs : Nat → AV, (stAt s (ops.take m) xs m).t = t1 ∧ (xs ia = r) ∧
    ∀ i o, i < m → ops[i]? = some o → i ≠ ia → Local P ops o ⟨s.N, (stAt s (ops.take m) xs i).t, s.σ ++ τ, s.mv⟩ (xs i)

/-- the state as the text has it fits what an operation looks at -/
theorem InvC.looks_rel (hok : drawOk ops m = true) (hmn : m ≤ ops.length) {s : St} {blk : Blk} {t1 : List (Nat × AV)} {j0 : J0} {listed : Array Bool} {j : Js} {a : Act} {w : World}
    (hI : InvC s ops m ia blk t1 j0 listed j a w) {xs : Nat → AV} (hxs : (stAt s (ops.take m) xs m).t = t1) {i : Nat} {o : Oper} (him : i < m) (ho : ops[i]? = some o) (h0 : listed.getD i true = false)
    (hall : ∀ e ∈ o.after, Region.binds .any e = true → listed.getD e.on false = true) {k : Nat} {av : AV} (hkl : k ∈ looks ops o) (hk : get (stAt s (ops.take m) xs i).t k = some av) : k < s.N ∧ R w j av (a.tmps.getD k Go.undef) := by
  have hokA := okA_spec ((drawOk_spec hok ho).2.1 him)
  have hil : i < ops.length := by omega
  by_cases hw : ∃ q oq, q < i ∧ ops[q]? = some oq ∧ oq.dst = some k
  · obtain ⟨q, oq, hq, hqo, hqd⟩ := hw
    have hdep := (hokA.1 k hkl q oq hqo hqd).1 hq
    obtain ⟨e, he1, he2, he3⟩ := depB_spec hdep
    have hlq := hall e he1 he3
    rw [he2, getD_tf hI.lsize (by omega)] at hlq
    rw [get_writ hok hmn (by omega) hqo hqd hq (by omega)] at hk
    have hk1 : get t1 k = some av := by
      rw [← hxs, get_writ hok hmn (by omega) hqo hqd (by omega) (Nat.le_refl _)]; exact hk
    exact hI.c1 q oq k av (by omega) hqo hqd hlq hk1
  · rw [get_unwrit (by omega) hw] at hk
    refine hI.c2 k av (fun q oq h1 h2 h3 => ?_) hk
    rcases Nat.lt_trichotomy q i with h | h | h
    · exact absurd ⟨q, oq, h, h2, h3⟩ hw
    · subst h; exact h0
    · have hdep := (hokA.1 k hkl q oq h2 h3).2 h
      obtain ⟨e, he1, he2, he3⟩ := depB_spec hdep
      by_cases hb : listed.getD q true = true
      · have := hI.cl q oq h1 h2 hb e he1 he3
        rw [he2, getD_tf hI.lsize hil, h0] at this; cases this
      · simpa using hb

structure OwnC (P : Program) (ops : List Oper) (m ia : Nat) (s : St) (t1 : List (Nat × AV)) (d : Tmp) (r : AV) (blk : Blk) (f : FuncId) (avs : List AV) : Prop where
  lt : ia < m
  al : ∃ oa cl, ops[ia]? = some oa ∧ oa.op = .call cl ∧ cl.callee = .value (.func f) ∧ oa.guard = none ∧ oa.dst = some d
  cs : CS P f avs s.σ fun r' σ' X => r' = r ∧ σ' = s.σ ++ [blk] ∧ X = []
  self : ∀ o, ops[ia]? = some o → d ∉ looks ops o
  late : ∀ q oq k, ia < q → q < m → ops[q]? = some oq → oq.dst = some k → ∀ o, ops[ia]? = some o → k ∉ looks ops o
  args : ∀ o cl, ops[ia]? = some o → o.op = .call cl → avs.length = cl.args.toList.length ∧ ∀ k, k < cl.args.toList.length → Arg true ((⟨s.N, t1, s.σ, s.mv⟩ : St).restr (looks ops o)) (cl.args.toList.getD k (.const Go.undef)) (avs.getD k .undef)

theorem phaseC (hok : drawOk ops m = true) (hmn : m ≤ ops.length) {Q : Exit → St → Prop} {j0 : J0} {j1 : Js} {w1 : World} {s : St} {t1 : List (Nat × AV)} {d : Tmp} {r : AV} {blk : Blk} {f : FuncId} {avs : List AV}
    (hW : OwnC P ops m ia s t1 d r blk f avs) (hP : PureC P s ops m ia t1 r)
    (hK : evalOps P false ops (ops.drop m) ⟨s.N, t1, s.σ ++ [blk], s.mv⟩ (Q .normal)) :
    ∀ (fuel : Nat) (j : Js) (a : Act) (w : World) (listed : Array Bool), left listed ops.length = fuel → InvC s ops m ia blk t1 j0 listed j a w → Ev j1 w1 j w → wpAnyIn (FW j0.rd) 0 P .any ops.toArray (APost j0 j1 w1 Q) fuel listed a w := by
  have fin : ∀ (j : Js) (a : Act) (w : World) (listed : Array Bool), (∀ q, q < m → listed.getD q true = true) → InvC s ops m ia blk t1 j0 listed j a w → Rel j0 ⟨s.N, t1, s.σ ++ [blk], s.mv⟩ j a w := by
    intro j a w listed hdone hI
    have hia : listed.getD ia false = true := by rw [getD_tf hI.lsize (by have := hW.lt; omega)]; exact hdone ia hW.lt
    have htau : tauC ia blk listed = [blk] := by simp only [tauC, hia, if_true]
    refine ⟨hI.defers, hI.rdok, hI.size, fun k av hk => ?_, by have := hI.sto; rw [htau] at this; exact this, hI.len0, hI.ag⟩
    by_cases hw : ∃ q oq, q < m ∧ ops[q]? = some oq ∧ oq.dst = some k
    · obtain ⟨q, oq, hq, hqo, hqd⟩ := hw
      exact hI.c1 q oq k av hq hqo hqd (hdone q hq) hk
    · obtain ⟨xs, hxs, _, _⟩ := hP.at_ []
      have hk' : get t1 k = some av := hk
      rw [← hxs, get_unwrit (Nat.le_refl _) hw] at hk'
      exact hI.c2 k av (fun q oq h1 h2 h3 => absurd ⟨q, oq, h1, h2, h3⟩ hw) hk'
  intro fuel
  induction fuel with
  | zero =>
    intro j a w listed hf hI he
    have hall : ∀ k, k < ops.length → listed.getD k true = true := by
      intro k hk
      by_cases hb : listed.getD k true = true
      · exact hb
      · have : k ∈ (List.range ops.length).filter fun k => !listed.getD k true := by
          rw [List.mem_filter]; exact ⟨by simpa using hk, by simpa using hb⟩
        have h0 : (List.range ops.length).filter (fun k => !listed.getD k true) = [] := List.length_eq_zero_iff.1 hf
        rw [h0] at this; simp at this
    have hme : m = ops.length := by
      rcases Nat.lt_or_ge m ops.length with h | h
      · have := hall m h; rw [hI.lB m (Nat.le_refl _) h] at this; simp at this
      · omega
    exact phaseB hok 0 m _ j a w listed (by omega) (Nat.le_refl _) (by omega) hI.lsize (fun k hk b => by
      have h1 := hall k hk
      have hsz : k < listed.size := by rw [hI.lsize]; exact hk
      have h2 : listed[k] = true := by simpa [hsz] using h1
      simp [hsz, h2, show k < m by omega]) (fin j a w listed (fun q hq => hall q (by omega)) hI) he hK
  | succ fuel ih =>
    intro j a w listed hf hI he
    by_cases hdone : ∀ q, q < m → listed.getD q true = true
    · have hL : ∀ k, k < ops.length → ∀ b, listed.getD k b = decide (k < m) := by
        intro k hk b
        rcases Nat.lt_or_ge k m with h | h
        · have h1 := hdone k h
          have hsz : k < listed.size := by rw [hI.lsize]; exact hk
          have h2 : listed[k] = true := by simpa [hsz] using h1
          simp [hsz, h2, h]
        · rw [hI.lB k h hk]; simp; omega
      have hfuel : fuel + 1 = ops.length - m := by
        rw [← hf]
        unfold left
        have gen : ∀ n, n ≤ ops.length → ((List.range n).filter fun k => !listed.getD k true).length = n - m := by
          intro n
          induction n with
          | zero => simp
          | succ n ihn =>
            intro hn
            rw [List.range_succ, List.filter_append, List.length_append, ihn (by omega)]
            have h1 := hL n (by omega) true
            by_cases hnm : n < m
            · have : (List.filter (fun k => !listed.getD k true) [n]).length = 0 := by
                rw [List.filter_cons_of_neg (by rw [h1]; simp [hnm])]; simp
              omega
            · have : (List.filter (fun k => !listed.getD k true) [n]).length = 1 := by
                rw [List.filter_cons_of_pos (by rw [h1]; simp; omega)]; simp
              omega
        exact gen _ (Nat.le_refl _)
      exact phaseB hok (fuel + 1) m _ j a w listed hfuel.symm (Nat.le_refl _) (by omega) hI.lsize hL (fin j a w listed hdone hI) he hK
    · have hex : ∃ q, q < m ∧ listed.getD q true = false ∧ ∀ p, p < q → listed.getD p true = true := by
        have hex0 : ∃ q, q < m ∧ listed.getD q true = false := by
          apply Classical.byContradiction
          intro hne
          apply hdone
          intro q hq
          by_cases hb : listed.getD q true = true
          · exact hb
          · exact absurd ⟨q, hq, by simpa using hb⟩ hne
        obtain ⟨q, hq1, hq2⟩ := hex0
        induction q using Nat.strongRecOn with
        | _ q ihq =>
          by_cases hall : ∀ p, p < q → listed.getD p true = true
          · exact ⟨q, hq1, hq2, hall⟩
          · have : ∃ p, p < q ∧ listed.getD p true = false := by
              apply Classical.byContradiction
              intro hne
              apply hall
              intro p hp
              by_cases hb : listed.getD p true = true
              · exact hb
              · exact absurd ⟨p, hp, by simpa using hb⟩ hne
            obtain ⟨p, hp1, hp2⟩ := this
            exact ihq p hp1 (by omega) hp2
      obtain ⟨q0, hq0, hq0l, hq0all⟩ := hex
      have hlt0 : q0 < ops.length := by omega
      have hready : q0 ∈ Region.ready .any ops.toArray listed := by
        rw [mem_ready]
        refine ⟨hq0l, ops[q0], by simp [hlt0], fun e he hb => ?_⟩
        have h1 := (drawOk_spec hok (i := q0) (o := ops[q0]) (by simp [hlt0])).1 e he hb
        rw [getD_tf hI.lsize (by omega)]
        exact hq0all e.on h1
      refine ⟨fun h0 => by rw [h0] at hready; simp at hready, fun i hi => ?_⟩
      rw [mem_ready] at hi
      obtain ⟨h0, o, ho, hall⟩ := hi
      have ho' : ops[i]? = some o := by simpa using ho
      have hil : i < ops.length := lt_of_getElem? ho'
      have him : i < m := by
        rcases Nat.lt_or_ge i m with h | h
        · exact h
        · have := depT_near (L := fun q => listed.getD q false) (fun q h1 h2 => hI.lB q h1 h2 false) (fun q oq h1 h2 h3 e he1 he2 => hI.cl q oq h1 h2 (by
            have hsz : q < listed.size := by rw [hI.lsize]; omega
            have h4 : listed[q] = true := by simpa [hsz] using h3
            simp [hsz, h4]) e he1 he2) ((drawOk_spec hok ho').2.2 h q0 (by omega)) hall
          simp only [getD_tf hI.lsize hlt0, hq0l] at this; cases this
      have hokA := okA_spec ((drawOk_spec hok ho').2.1 him)
      have hset0 : left (listed.setIfInBounds i true) ops.length = fuel := by
        have := left_set hI.lsize hil h0; omega
      have hszi : i < listed.size := by rw [hI.lsize]; exact hil
      have hseti : ∀ b, (listed.setIfInBounds i true).getD i b = true := by intro b; simp [hszi]
      -- the step, whatever it was
      have step : ∀ (j' : Js) (w' : World) (v : Value), RelS w' j' (s.σ ++ tauC ia blk (listed.setIfInBounds i true)) → Ev j w j' w' → Ag j j' [] → j.length ≤ j'.length →
          (∀ k av, o.dst = some k → get t1 k = some av → k < s.N ∧ R w' j' av v) → wpAnyIn (FW j0.rd) 0 P .any ops.toArray (APost j0 j1 w1 Q) fuel (listed.setIfInBounds i true) (a.put o.dst v) w' := by
        intro j' w' v hsto hev hagj hlj hv
        have oth : ∀ {k}, o.dst ≠ some k → (a.put o.dst v).tmps.getD k Go.undef = a.tmps.getD k Go.undef := by
          intro k hne
          cases hd : o.dst with
          | none => rfl
          | some d =>
            have hdk : d ≠ k := fun h => hne (by rw [hd, h])
            simp [Act.put, Array.getD_eq_getD_getElem?, Array.getElem?_setIfInBounds, hdk]
        refine ih j' _ w' _ hset0 ⟨?_, fun l hl => (by obtain ⟨r, hr⟩ := hI.rdok l hl; exact hev.lps l r hr), ?_, hsto, Nat.le_trans hI.len0 hlj, ?_, by simpa using hI.lsize, ?_, ?_, ?_, ?_⟩ (he.trans hev)
        · have := hI.defers.mono hev
          cases hd : o.dst <;> simpa [Act.put] using this
        · cases hd : o.dst <;> simp [Act.put, hI.size]
        · intro b hb hn
          rw [hagj b (by have := hI.len0; omega) (by simp)]
          exact hI.ag b hb hn
        · intro k hk1 hk2 b
          rw [getD_set_ne b (by omega)]; exact hI.lB k hk1 hk2 b
        · intro q oq hq hqo hl e he1 he2
          by_cases hqi : i = q
          · subst hqi
            have : oq = o := by rw [ho'] at hqo; exact (Option.some.inj hqo).symm
            subst this
            exact getD_set_true (hall e he1 he2)
          · rw [getD_set_ne true hqi] at hl
            exact getD_set_true (hI.cl q oq hq hqo hl e he1 he2)
        · intro q oq k av hq hqo hqd hl hk
          by_cases hqi : i = q
          · subst hqi
            have : oq = o := by rw [ho'] at hqo; exact (Option.some.inj hqo).symm
            subst this
            have h1 := hv k av hqd hk
            simp only [Act.put, hqd]
            rw [R_setIfInBounds (w := w) (j := j) (by rw [hI.size]; exact h1.1), if_pos rfl]; exact h1
          · rw [getD_set_ne true hqi] at hl
            have h1 := hI.c1 q oq k av hq hqo hqd hl hk
            rw [oth (fun hd => hokA.2 q oq k hq (fun h => hqi h.symm) hqo hd hqd)]
            exact ⟨h1.1, h1.2.mono0 hev hI.sto.lt hagj⟩
        · intro k av hk hg
          have hne : o.dst ≠ some k := fun hd => by
            have := hk i o him ho' hd
            rw [hseti] at this; cases this
          have h1 := hI.c2 k av (fun q oq h1 h2 h3 => by
            have hqi : i ≠ q := fun h => by subst h; rw [ho'] at h2; cases h2; exact hne h3
            have := hk q oq h1 h2 h3
            rwa [getD_set_ne true hqi] at this) hg
          rw [oth hne]; exact ⟨h1.1, h1.2.mono0 hev hI.sto.lt hagj⟩
      simp only [wpOpIn, ho]
      by_cases hia : i = ia
      · -- the call that makes the block
        subst hia
        obtain ⟨oa, cl, hoa, hop, hcal, hgd, hdst⟩ := hW.al
        obtain rfl : o = oa := by rw [ho'] at hoa; exact Option.some.inj hoa
        have hnl : listed.getD i false = false := by rw [getD_tf hI.lsize hil]; exact h0
        have htau : tauC i blk listed = [] := by simp only [tauC, hnl]; rfl
        have hsto := hI.sto
        rw [htau, List.append_nil] at hsto
        obtain ⟨xs, hxs, hxa, hloc⟩ := hP.at_ []
        have hr : Rel j0 ((⟨s.N, t1, s.σ, s.mv⟩ : St).restr (looks ops o)) j a w := by
          refine ⟨hI.defers, hI.rdok, hI.size, fun k av hk => ?_, hsto, hI.len0, hI.ag⟩
          simp only [St.restr, get_restr] at hk
          split at hk
          · rename_i hkl
            have hkl : k ∈ looks ops o := by simpa using hkl
            by_cases hw : ∃ q oq, q < m ∧ ops[q]? = some oq ∧ oq.dst = some k
            · obtain ⟨q, oq, hq, hqo, hqd⟩ := hw
              have hqi : q < i := by
                rcases Nat.lt_trichotomy q i with h | h | h
                · exact h
                · subst h; rw [ho'] at hqo; cases hqo; rw [hdst] at hqd; cases hqd; exact absurd hkl (hW.self o ho')
                · exact absurd hkl (hW.late q oq k h hq hqo hqd o ho')
              obtain ⟨e, he1, he2, he3⟩ := depB_spec ((hokA.1 k hkl q oq hqo hqd).1 hqi)
              have hlq := hall e he1 he3
              rw [he2, getD_tf hI.lsize (by omega)] at hlq
              exact hI.c1 q oq k av hq hqo hqd hlq hk
            · rw [← hxs, get_unwrit (Nat.le_refl _) hw] at hk
              exact hI.c2 k av (fun q oq h1 h2 h3 => absurd ⟨q, oq, h1, h2, h3⟩ hw) hk
          · simp at hk
        have hw : Region.wanted o (yielded ops.toArray a.tmps) = true := by simp [Region.wanted, hgd]
        rw [if_pos hw]
        have hfv : a.eval (.func f) = .func (.func f) #[] #[] := rfl
        have hen := hW.cs.1
        refine opw (by simp [hop]) (call_run (P := P) (w := w) hop hcal hfv hen) ?_
        refine ⟨by simp [FW], FW_calls ?_⟩
        have hmem : ∀ x ∈ cl.args.toList, ∀ t, x = .tmp t → t ∈ looks ops o := fun x hx t ht => List.mem_append.2 (.inl (mem_opTmps (by
          simp only [hop, Op.operands, Call.operands, Array.mem_append]; exact .inr (by simpa using hx)) ht))
        have hargs := hW.args o cl ho' hop
        have hrs := rs_args (g := true) rfl hargs.1 hargs.2 hr
        have e : (cl.args.toList.map a.eval).toArray = cl.args.map a.eval := by apply Array.ext'; simp
        rw [e] at hrs
        have e2 : (#[] : Array Value) ++ cl.args.map a.eval ++ #[] = cl.args.map a.eval := by simp
        rw [e2]
        refine (hW.cs.2 j w _ hsto hrs).mono ?_
        rintro e w' ⟨v, r', σ', j', X, rfl, h6, h7, h8, h9, h10, rfl, rfl, rfl⟩
        refine step j' w' v ?_ h8 h10 h9 (fun k av hk hgt => ?_)
        · have : tauC i blk (listed.setIfInBounds i true) = [blk] := by simp only [tauC, hseti, if_true]
          rw [this]; exact h6
        · rw [← hxs, get_writ hok hmn him ho' hk him (Nat.le_refl _), hxa] at hgt
          split at hgt
          · rename_i hlt
            obtain rfl : r' = av := Option.some.inj hgt
            exact ⟨hlt, h7⟩
          · simp at hgt
      · -- one that computes
        obtain ⟨xs, hxs, hxa, hloc⟩ := hP.at_ (tauC ia blk listed)
        have hL := hloc i o him ho' hia
        have hrel : Rel j0 ((⟨s.N, (stAt s (ops.take m) xs i).t, s.σ ++ tauC ia blk listed, s.mv⟩ : St).restr (looks ops o)) j a w := by
          refine ⟨hI.defers, hI.rdok, hI.size, fun k av hk => ?_, hI.sto, hI.len0, hI.ag⟩
          simp only [St.restr, get_restr] at hk
          split at hk
          · rename_i hkl
            exact hI.looks_rel hok hmn hxs him ho' h0 hall (by simpa using hkl) hk
          · simp at hk
        have htau : tauC ia blk (listed.setIfInBounds i true) = tauC ia blk listed := by
          simp only [tauC, getD_set_ne false hia]
        have hval : ∀ (w' : World) (v : Value), R w' j (xs i) v → ∀ k av, o.dst = some k → get t1 k = some av → k < s.N ∧ R w' j av v := by
          intro w' v hr k av hk hgt
          rw [← hxs, get_writ hok hmn him ho' hk him (Nat.le_refl _)] at hgt
          split at hgt
          · rename_i hlt
            obtain rfl : xs i = av := Option.some.inj hgt
            exact ⟨hlt, hr⟩
          · simp at hgt
        by_cases hw : Region.wanted o (yielded ops.toArray a.tmps) = true
        · rw [if_pos hw]
          exact hL.run j0 j a w _ _ hrel hw fun w' v h1 h2 h3 => step j w' v (by rw [htau]; exact h1) h2 (.refl _ _) (Nat.le_refl _) (hval w' v h3)
        · rw [if_neg hw]
          exact ⟨fun _ _ => trivial, step j w Go.undef (by rw [htau]; exact hI.sto) (.refl _ _) (.refl _ _) (Nat.le_refl _) (hval w _ (hL.skip j0 j a w hrel (by simpa using hw)))⟩


end

def ownCOk (ops : List Oper) (m ia : Nat) (f : FuncId) : Bool :=
  match ops[ia]? with
  | some oa => (match oa.op, oa.guard, oa.dst with
    | .call cl, none, some d => (match cl.callee with
      | .value (.func f') => Nat.beq f' f
      | _ => false) && Nat.blt ia m && !(looks ops oa).contains d && (List.range m).all (fun q => Nat.ble q ia || (match ops[q]? with
        | some oq => (match oq.dst with
          | some d => !(looks ops oa).contains d
          | none => true)
        | none => true))
    | _, _, _ => false)
  | none => false

theorem ownCOk_spec {ops : List Oper} {m ia : Nat} {f : FuncId} (h : ownCOk ops m ia f = true) : ∃ oa cl d, ops[ia]? = some oa ∧ oa.op = .call cl ∧ cl.callee = .value (.func f) ∧ oa.guard = none ∧ oa.dst = some d ∧ ia < m ∧ d ∉ looks ops oa ∧
    (∀ q oq k, ia < q → q < m → ops[q]? = some oq → oq.dst = some k → k ∉ looks ops oa) := by
  unfold ownCOk at h
  split at h
  · rename_i oa hoa
    split at h
    · rename_i cl d e1 e2 e3
      simp only [Bool.and_eq_true, Nat.blt_eq, Bool.not_eq_true', List.all_eq_true, List.mem_range, Bool.or_eq_true, Nat.ble_eq, List.contains_eq_mem, decide_eq_false_iff_not] at h
      obtain ⟨⟨⟨h1, h2⟩, h3⟩, h4⟩ := h
      split at h1
      · rename_i f' hc
        have := Nat.eq_of_beq_eq_true h1
        subst this
        refine ⟨oa, cl, d, hoa, e1, hc, e2, e3, h2, h3, fun q oq k hq hqm hqo hqd hkl => ?_⟩
        rcases h4 q hqm with h | h
        · omega
        · simp only [hqo, hqd, Bool.not_eq_true', List.contains_eq_mem, decide_eq_false_iff_not] at h
          exact h hkl
      · cases h1
    · cases h
  · cases h

/-- the call that makes the block: its arguments, and what it does -/
def callC (P : Program) (ops : List Oper) (ia : Nat) (s : St) (K : List AV → Prop) : Prop :=
  match nthOp ops ia with
  | some oa => (match oa.op with
    | .call c => args true s c.args.toList K
    | _ => False)
  | none => False

theorem awp_ownc {P : Program} {Q : Exit → St → Prop} {N : Nat} {t : List (Nat × AV)} {σ : List Blk} {mv : List Nat} {id : Nat} {ops : List Oper} (m ia : Nat) (f : FuncId) (r : AV) (blk : Blk) (hm : P.follows .mixedOrders = true) (hok : (drawOk ops m && Nat.ble m ops.length && ownCOk ops m ia f) = true) {t1 : List (Nat × AV)}
    (h1 : ∀ (τ : List Blk) (K : St → Prop), (∀ σ' mv', K ⟨N, t1, σ', mv'⟩) → evalC P ops ia r (ops.take m) 0 ⟨N, t, σ ++ τ, mv⟩ K)
    (h2 : callC P ops ia ⟨N, t1, σ, mv⟩ fun avs => CS P f avs σ fun r' σ' X => r' = r ∧ σ' = σ ++ [blk] ∧ X = [])
    (h3 : evalOps P false ops (ops.drop m) ⟨N, t1, σ ++ [blk], mv⟩ (Q .normal)) : AWP P (.region id ops.toArray true) Q ⟨N, t, σ, mv⟩ := by
  intro j0 j a w hr
  simp only [Bool.and_eq_true, Nat.ble_eq] at hok
  obtain ⟨⟨hok, hmn⟩, hown⟩ := hok
  obtain ⟨oa, cl, d, hoa, hopa, hcl, hga, hda, hlt, hself, hlate⟩ := ownCOk_spec hown
  have hP : PureC P ⟨N, t, σ, mv⟩ ops m ia t1 r := ⟨fun τ => by
    have h := h1 τ (fun s' => s'.t = t1) (fun _ _ => rfl)
    have hlen : (ops.take m).length = m := by simp; omega
    obtain ⟨xs, hK, hia, hloc⟩ := unrollC h
    have hext := stAt_ext ⟨N, t, σ, mv⟩ τ (ops.take m) xs
    refine ⟨xs, ?_, hia ia (by omega), fun i o him ho h3 => ?_⟩
    · rw [hlen, hext] at hK; exact hK
    · have := hloc i o (by rw [take_get him]; exact ho) (by omega)
      rw [hext] at this; exact this⟩
  have hr' : Rel j0 ⟨N, t, σ, mv⟩ j a w.drew := hr.after (ev_drew j w) hr.sto.drew (Nat.le_refl _) (.refl _ [])
  have hf : ∀ k b, k < ops.length → (Array.replicate ops.toArray.size false).getD k b = false := by
    intro k b hk; simp [hk]
  unfold callC at h2
  rw [nthOp_eq, hoa] at h2
  simp only [hopa] at h2
  have hmem : ∀ x ∈ cl.args.toList, ∀ t, x = .tmp t → t ∈ looks ops oa := fun x hx t ht => List.mem_append.2 (.inl (mem_opTmps (by
    simp only [hopa, Op.operands, Call.operands, Array.mem_append]; exact .inr (by simpa using hx)) ht))
  rw [← args_restr (L := looks ops oa) hmem] at h2
  obtain ⟨avs, hcs, hl, ha⟩ := args_sound h2
  have hW : OwnC P ops m ia ⟨N, t, σ, mv⟩ t1 d r blk f avs := ⟨hlt, ⟨oa, cl, hoa, hopa, hcl, hga, hda⟩, hcs, fun o ho => by rw [hoa] at ho; cases ho; exact hself, fun q oq k h1 h2 h3 h4 o ho => by rw [hoa] at ho; cases ho; exact hlate q oq k h1 h2 h3 h4,
    fun o c ho hc => by rw [hoa] at ho; cases ho; rw [hopa] at hc; cases hc; exact ⟨hl, ha⟩⟩
  refine wpIn_region_any hm ?_
  refine phaseC hok hmn hW hP h3 _ j a w.drew _ ?_ ⟨hr'.defers, hr'.rdok, hr'.size, ?_, hr'.len0, hr'.ag, by simp, fun k _ hk b => hf k b hk, fun q oq hq hqo hl => ?_, fun q oq k av hq hqo hd hl => ?_, fun k av _ hk => hr'.tmp k av hk⟩ (ev_drew j w)
  · unfold left
    have : (List.range ops.length).filter (fun k => !(Array.replicate ops.toArray.size false).getD k true) = List.range ops.length := by
      apply List.filter_eq_self.2
      intro k hk
      rw [hf k true (by simpa using hk)]; rfl
    rw [this]; simp
  · have : tauC ia blk (Array.replicate ops.toArray.size false) = [] := by simp only [tauC, hf ia false (by omega)]; rfl
    rw [this, List.append_nil]; exact hr'.sto
  · rw [hf q true (by omega)] at hl; cases hl
  · rw [hf q true (by omega)] at hl; cases hl

theorem awp_ownc_seq {P : Program} {Q : Exit → St → Prop} {N : Nat} {t : List (Nat × AV)} {σ : List Blk} {mv : List Nat} {id : Nat} {ops : List Oper} {y : Code} (m ia : Nat) (f : FuncId) (r : AV) (blk : Blk) (hm : P.follows .mixedOrders = true) (hok : (drawOk ops m && Nat.ble m ops.length && ownCOk ops m ia f) = true) {t1 : List (Nat × AV)}
    (h1 : ∀ (τ : List Blk) (K : St → Prop), (∀ σ' mv', K ⟨N, t1, σ', mv'⟩) → evalC P ops ia r (ops.take m) 0 ⟨N, t, σ ++ τ, mv⟩ K)
    (h2 : callC P ops ia ⟨N, t1, σ, mv⟩ fun avs => CS P f avs σ fun r' σ' X => r' = r ∧ σ' = σ ++ [blk] ∧ X = [])
    (h3 : ∀ K : St → Prop, (∀ s', AWP P y Q s' → K s') → evalOps P false ops (ops.drop m) ⟨N, t1, σ ++ [blk], mv⟩ K) : AWP P (.seq (.region id ops.toArray true) y) Q ⟨N, t, σ, mv⟩ :=
  awp_seq (awp_ownc m ia f r blk hm hok h1 h2 (h3 _ fun s' h => h))

def RestC (P : Program) (all : List Oper) (ia : Nat) (r : AV) (os : List Oper) (i : Nat) (K : St → Prop) (s : St) : Prop := evalC P all ia r os i s K
theorem evalC_nil (P : Program) (all : List Oper) (ia i : Nat) (r : AV) (s : St) (K : St → Prop) : evalC P all ia r [] i s K = K s := rfl
theorem evalC_cons (P : Program) (all os : List Oper) (ia i : Nat) (r : AV) (o : Oper) (s : St) (K : St → Prop) : evalC P all ia r (o :: os) i s K = if Nat.beq i ia then RestC P all ia r os (i + 1) K (s.put o.dst r)
    else guardA all s o fun gd g => opA P true gd g o s (RestC P all ia r os (i + 1) K) := rfl
theorem RestC_mk (P : Program) (all os : List Oper) (ia i : Nat) (r : AV) (K : St → Prop) (N : Nat) (t : List (Nat × AV)) (σ : List Blk) (mv : List Nat) : RestC P all ia r os i K ⟨N, t, σ, mv⟩ = evalC P all ia r os i ⟨N, t, σ, mv⟩ K := rfl
attribute [go_sem ↓] evalC_nil evalC_cons RestC_mk callC
attribute [go_sem] RestC_mk
end Go.Abs

/-! Cj -/
namespace Go.Proofs.YtnbokgmimbeihaaGreatDoor
open Go.Abs Go.Arch
set_option linter.unusedVariables false
set_option linter.unusedSimpArgs false
set_option maxRecDepth 100000
set_option maxHeartbeats 1000000


theorem ref17_Numbers_cs (σ : List Blk) (t : TL) (a : Acs) (hn : t.n < 1000000000) (hN : ∀ i, i < t.n → (t.g i).Title.size < 4294967281) (hm : a.nr < 1000000000) (hk : a.na < 1000000000) : CSF Tryz.prog 16 [.agg (t.enc.map .d), .agg (a.enc.map .d)] σ (.tup [.d (SL none 1 encI (numP t a).1.length (nth (numP t a).1)), .d (I (numP t a).2)]) := by
  have hol := opnL_len t a
  have hp2 : (opnP t a).2 = chkA t a := by
    unfold opnP; split
    · next h => exact h.symm
    · rfl
  refine CSF.of_body T.en16 Tryz.func16 rfl (by simp [Tryz.ntmps16]) (by simp [go_sem]) fun hwf => ?_
  refine awp_reg_seq fun K hK => ?_
  simp [go_sem, Tryz.ntmps16, hp2]
  repeat refine ⟨by omega, ?_⟩
  refine hK _ ?_; clear hK K
  refine awp_reg_seq fun K hK => ?_
  simp [go_sem, hp2]
  repeat refine ⟨by omega, ?_⟩
  refine CSk.mk (ref17_Open_cs _ t a hn hN hm hk) ?_
  simp [go_sem, hp2]
  repeat refine ⟨by omega, ?_⟩
  refine hK _ ?_; clear hK K
  refine awp_seq ?_
  refine awp_reg_seq fun K hK => ?_
  simp [go_sem, hp2]
  repeat refine ⟨by omega, ?_⟩
  refine hK _ ?_; clear hK K
  refine awp_forget [3, 6, 7, 17] (by simp only [restr, List.contains_cons, List.contains_nil, Nat.reduceBEq, Bool.or_false, Bool.or_true, Bool.true_or, Bool.false_or, if_true, if_false, Bool.false_eq_true]; rfl) ?_
  refine awp_cond rfl (fun c0 => ?_) (fun c0 => ?_)
  · have d0 := c0; try simp at d0
    have hz : numP t a = ([], chkA t a) := by unfold numP; rw [if_neg d0]
    refine awp_reg_seq fun K hK => ?_
    simp [go_sem, hp2, c0, d0]
    repeat refine ⟨by omega, ?_⟩
    refine hK _ ?_; clear hK K
    refine awp_ret ?_
    rw [hz]; simp [go_sem, Tryz.results16]
  · have d0 := c0; try simp at d0
    have hz : numP t a = (numL t a, 0) := by unfold numP; rw [if_pos d0]
    have hp1 : (opnP t a).1 = opnL t a := by unfold opnP; rw [if_pos d0]
    refine awp_skip ?_
    refine awp_reg_seq fun K hK => ?_
    simp [go_sem, hp2, c0, d0, hp1]
    repeat refine ⟨by omega, ?_⟩
    refine hK _ ?_; clear hK K
    refine awp_seq ?_
    refine awp_thawT 8 1 (fun q => encI (a.r q).Number) (by simp [go_sem]) (by simp [go_sem]; rfl) ?_
    refine awp_reg_seq fun K hK => ?_
    simp [go_sem, hp2, c0, d0, hp1]
    repeat refine ⟨by omega, ?_⟩
    refine hK _ ?_; clear hK K
    refine awp_block ?_
    refine awp_forget [3, 6, 8, 9] (by simp [go_sem, restr]; rfl) ?_
    refine awp_mv [σ.length + 2] (by simp) ?_
    refine awp_loopU (α := Nat) (fun i => [(8, .ms (σ.length + 2) 1 0 i), (9, .d (I i))]) (fun i => σ ++ [.var (t.enc.map .d), .var (a.enc.map .d), .arr 1 i (fun q => encI (a.r q).Number)]) (fun i => i ≤ a.nr ∧ ((opnL t a).length ≠ 0 → i = 0)) (fun i => a.nr - i) 0 (by simp [go_sem, hp2]) (rfl) (by simp) ?_
    rintro i ⟨hi, hi0⟩
    refine awp_seq ?_
    refine awp_reg_seq fun K hK => ?_
    simp [go_sem, hp2, c0, d0, hp1]
    repeat refine ⟨by omega, ?_⟩
    refine hK _ ?_; clear hK K
    refine awp_forget [3, 6, 8, 9, 28] (by simp only [restr, List.contains_cons, List.contains_nil, Nat.reduceBEq, Bool.or_false, Bool.or_true, Bool.true_or, Bool.false_or, if_true, if_false, Bool.false_eq_true]; rfl) ?_
    refine awp_cond rfl (fun c1 => ?_) (fun c1 => ?_)
    · have d1 := c1; try simp at d1
      have h2 : (opnL t a).length = 0 := by simp [d1.2]
      refine awp_skip ?_
      refine awp_seq ?_
      refine awp_block ?_
      refine awp_reg_end fun K hK => ?_
      simp [go_sem, hp2, c0, d0, hp1, c1, d1, hwf.one, hwf.zero]
      repeat refine ⟨by omega, ?_⟩
      refine hK _ ?_; clear hK K
      refine awp_rows (σ.length + 2) (fun q => encI (a.r q).Number) (by simp [go_sem]; first | exact ⟨rfl, rfl, rfl⟩ | exact ⟨rfl, rfl⟩ | rfl) (by intro q hq; unfold catRows; split; rfl; rw [show q = i by omega]; simp [rowsOf, encI]) (by simp [go_sem]; rfl) ?_
      refine awp_reg_end fun K hK => ?_
      simp [go_sem, hp2, c0, d0, hp1, c1, d1]
      try simp (disch := omega) only [wrapI]
      repeat refine ⟨by omega, ?_⟩
      refine hK _ ?_; clear hK K
      refine ⟨i + 1, back_of' (by simp [go_sem, wrap_succ (i := i) (by omega), hp2, c0, d0, hp1, c1, d1]) ((leaves_app (by simp [go_sem]))) (by (simp [go_sem, wrap_succ (i := i) (by omega), hp2, c0, d0, hp1, c1, d1] <;> omega)), ⟨by omega, by omega⟩, by first | omega | (dsimp only; omega)⟩
    · have d1 := c1; try simp at d1
      have hl : numL t a = lst i (fun i => (a.r i).Number) := by
        unfold numL
        by_cases h : (opnL t a).length = 0
        · have h3 : i = a.nr := by
            refine Decidable.byContradiction fun h4 => d1 (by omega) (List.length_eq_zero_iff.1 h)
          rw [if_pos h, h3]
        · rw [if_neg h, hi0 h]; rfl
      refine awp_exit ?_
      refine awp_reg_seq fun K hK => ?_
      simp [go_sem, hp2, c0, d0, hp1, c1, d1]
      repeat refine ⟨by omega, ?_⟩
      refine hK _ ?_; clear hK K
      refine awp_freeze (σ.length + 2) (by simp [go_sem]; first | exact ⟨rfl, rfl, rfl⟩ | exact ⟨rfl, rfl⟩ | rfl) (by simp [go_sem]; rfl) (by simp [go_sem, hwf.frz, hwf.frz0]; rfl) ?_
      refine awp_ret ?_
      rw [hz, hl]; simp [go_sem, Tryz.results16, lst_length]
      exact fun q hq => by rw [nth_lst hq]

theorem ownA_cs (σ : List Blk) (a : Acs) (hm : a.nr < 1000000000) (hk : a.na < 1000000000) : CS Tryz.prog 54 [.agg (a.enc.map .d)] σ (fun r σ' X => r = .agg [.d (I a.ID), .d (I a.Of), .d (I a.Day), .d (SL none 3 Rec.enc a.nr a.r), .ms (σ.length + 2) 2 0 a.na] ∧ X = [] ∧ ∃ x y, σ' = σ ++ [x, y, .arr 2 a.na (fun i => Dif.enc (a.a i))]) := by
  refine CS.of_bodyW T.en54 Tryz.func54 rfl (by simp [Tryz.ntmps54]) fun hwf => ?_
  refine awp_reg_seq fun K hK => ?_
  simp [go_sem, Tryz.ntmps54]
  repeat refine ⟨by omega, ?_⟩
  refine hK _ ?_; clear hK K
  apply awp_ownc_seq 7 5 40 (.ms (σ.length + 2) 2 0 a.na) (.arr 2 a.na (fun i => Dif.enc (a.a i))) T.mixed (by kernel_rfl)
  · intro τ K hK
    simp [go_sem]
    repeat refine ⟨by omega, ?_⟩
    refine CSg.mk (cloneRec_cs _ none a.nr a.r hm) ?_
    simp [go_sem]
    repeat refine ⟨by omega, ?_⟩
    exact hK _ _
  · simp [go_sem]
    exact CS.mono (cloneDifM_cs _ none a.na a.a hk) (by rintro r σ' X ⟨rfl, rfl, rfl⟩; simp [Dif.enc])
  intro K hK
  simp [go_sem]
  repeat refine ⟨by omega, ?_⟩
  refine hK _ ?_; clear hK K
  refine awp_reg_seq fun K hK => ?_
  simp [go_sem]
  repeat refine ⟨by omega, ?_⟩
  refine hK _ ?_; clear hK K
  refine awp_ret ?_
  simp [go_sem, Tryz.results54] <;> omega

theorem ownR_cs (σ : List Blk) (a : Acs) (hm : a.nr < 1000000000) (hk : a.na < 1000000000) : CS Tryz.prog 54 [.agg (a.enc.map .d)] σ (fun r σ' X => r = .agg [.d (I a.ID), .d (I a.Of), .d (I a.Day), .ms (σ.length + 2) 3 0 a.nr, .d (SL none 2 Dif.enc a.na a.a)] ∧ X = [] ∧ ∃ x y, σ' = σ ++ [x, y, .arr 3 a.nr (fun i => Rec.enc (a.r i))]) := by
  refine CS.of_bodyW T.en54 Tryz.func54 rfl (by simp [Tryz.ntmps54]) fun hwf => ?_
  refine awp_reg_seq fun K hK => ?_
  simp [go_sem, Tryz.ntmps54]
  repeat refine ⟨by omega, ?_⟩
  refine hK _ ?_; clear hK K
  apply awp_ownc_seq 7 2 29 (.ms (σ.length + 2) 3 0 a.nr) (.arr 3 a.nr (fun i => Rec.enc (a.r i))) T.mixed (by kernel_rfl)
  · intro τ K hK
    simp [go_sem]
    repeat refine ⟨by omega, ?_⟩
    refine CSg.mk (cloneDif_cs _ none a.na a.a hk) ?_
    simp [go_sem]
    repeat refine ⟨by omega, ?_⟩
    exact hK _ _
  · simp [go_sem]
    exact CS.mono (cloneRecM_cs _ none a.nr a.r hm) (by rintro r σ' X ⟨rfl, rfl, rfl⟩; simp [Rec.enc])
  intro K hK
  simp [go_sem]
  repeat refine ⟨by omega, ?_⟩
  refine hK _ ?_; clear hK K
  refine awp_reg_seq fun K hK => ?_
  simp [go_sem]
  repeat refine ⟨by omega, ?_⟩
  refine hK _ ?_; clear hK K
  refine awp_ret ?_
  simp [go_sem, Tryz.results54] <;> omega

end Go.Proofs.YtnbokgmimbeihaaGreatDoor

/-! Ck -/
namespace Go.Proofs.YtnbokgmimbeihaaGreatDoor
open Go.Abs Go.Arch
set_option linter.unusedVariables false
set_option linter.unusedSimpArgs false
set_option maxRecDepth 100000
set_option maxHeartbeats 1000000

noncomputable def sameA (a b : Acs) : Bool := decide (a.ID = b.ID) && decide (a.Of = b.Of) && decide (a.Day = b.Day) && eqL (lst a.nr a.r) (lst b.nr b.r) && eqL (lst a.na a.a) (lst b.na b.a)
theorem sameA_iff (a b : Acs) : sameA a b = true ↔ a.ID = b.ID ∧ a.Of = b.Of ∧ a.Day = b.Day ∧ lst a.nr a.r = lst b.nr b.r ∧ lst a.na a.a = lst b.na b.a := by
  unfold sameA; simp [eqL_iff, and_assoc]
theorem lst_len_eq {α : Type} {n m : Nat} {f g : Nat → α} (h : lst n f = lst m g) : n = m := by
  have := congrArg List.length h; rwa [lst_length, lst_length] at this


theorem ref17_Same_cs (σ : List Blk) (a b : Acs) (h1 : a.nr < 1000000000) (h2 : b.nr < 1000000000) (h3 : a.na < 1000000000) (h4 : b.na < 1000000000) : CSF Tryz.prog 27 [.agg (a.enc.map .d), .agg (b.enc.map .d)] σ (.d (B (sameA a b))) := by
  refine CSF.of_body T.en27 Tryz.func27 rfl (by simp [Tryz.ntmps27]) (by simp [go_sem]) fun hwf => ?_
  refine awp_reg_seq fun K hK => ?_
  simp [go_sem, Tryz.ntmps27]
  repeat refine ⟨by omega, ?_⟩
  refine hK _ ?_; clear hK K
  refine awp_seq ?_
  refine awp_reg_seq fun K hK => ?_
  simp [go_sem]
  repeat refine ⟨by omega, ?_⟩
  refine hK _ ?_; clear hK K
  refine awp_forget [2, 3, 43] (by simp only [restr, List.contains_cons, List.contains_nil, Nat.reduceBEq, Bool.or_false, Bool.or_true, Bool.true_or, Bool.false_or, if_true, if_false, Bool.false_eq_true]; rfl) ?_
  refine awp_cond rfl (fun c0 => ?_) (fun c0 => ?_)
  · have d0 := c0; try simp at d0
    have hz : sameA a b = false := by
      rw [← Bool.not_eq_true, sameA_iff]
      rintro ⟨k1, k2, k3, k4, k5⟩
      have := lst_len_eq k4
      have := lst_len_eq k5
      omega
    refine awp_reg_seq fun K hK => ?_
    simp [go_sem, c0, d0]
    repeat refine ⟨by omega, ?_⟩
    refine hK _ ?_; clear hK K
    refine awp_ret ?_
    rw [hz]; simp [go_sem, Tryz.results27]
  · have d0 := c0; try simp at d0
    have e0 : a.ID = b.ID ∧ a.Of = b.Of ∧ a.Day = b.Day ∧ a.nr = b.nr ∧ a.na = b.na := by omega
    clear c0 d0
    have c0 := trivial
    have d0 := trivial
    refine awp_skip ?_
    refine awp_seq ?_
    refine awp_reg_seq fun K hK => ?_
    simp [go_sem, c0, d0]
    repeat refine ⟨by omega, ?_⟩
    refine hK _ ?_; clear hK K
    refine awp_block ?_
    refine awp_forget [2, 3, 5] (by simp [go_sem, restr]; rfl) ?_
    refine awp_loopU (α := Nat) (fun i => [(5, .d (I i))]) (fun i => σ ++ [.var (a.enc.map .d), .var (b.enc.map .d)]) (fun i => i ≤ a.nr ∧ ∀ q, q < i → a.r q = b.r q) (fun i => a.nr - i) 0 (by simp [go_sem]) (rfl) (by simp) ?_
    rintro i ⟨hi, hx⟩
    refine awp_seq ?_
    refine awp_reg_seq fun K hK => ?_
    simp [go_sem, c0, d0]
    repeat refine ⟨by omega, ?_⟩
    refine hK _ ?_; clear hK K
    refine awp_forget [2, 3, 5, 48] (by simp only [restr, List.contains_cons, List.contains_nil, Nat.reduceBEq, Bool.or_false, Bool.or_true, Bool.true_or, Bool.false_or, if_true, if_false, Bool.false_eq_true]; rfl) ?_
    refine awp_cond rfl (fun c1 => ?_) (fun c1 => ?_)
    · have d1 := c1; try simp at d1
      have hib : i < b.nr := by omega
      refine awp_skip ?_
      refine awp_seq ?_
      refine awp_block ?_
      refine awp_draw_seq 11 T.mixed (by kernel_rfl) fun K hK => ?_
      simp [go_sem, c0, d0, c1, d1, hib]
      repeat refine ⟨by omega, ?_⟩
      refine hK _ ?_; clear hK K
      refine awp_forget [2, 3, 5, 61] (by simp only [restr, List.contains_cons, List.contains_nil, Nat.reduceBEq, Bool.or_false, Bool.or_true, Bool.true_or, Bool.false_or, if_true, if_false, Bool.false_eq_true]; rfl) ?_
      refine awp_cond rfl (fun c2 => ?_) (fun c2 => ?_)
      · have d2 := c2; try simp at d2
        have hz : sameA a b = false := by
          rw [← Bool.not_eq_true, sameA_iff]
          rintro ⟨k1, k2, k3, k4, k5⟩
          have := (lst_ext.1 (k4.trans (by rw [← e0.2.2.2.1]))) i d1
          simp [this] at d2
        refine awp_reg_seq fun K hK => ?_
        simp [go_sem, c0, d0, c1, d1, hib, c2, d2]
        repeat refine ⟨by omega, ?_⟩
        refine hK _ ?_; clear hK K
        refine awp_ret ?_
        rw [hz]; simp [go_sem, Tryz.results27]
      · have d2 := c2; try simp at d2
        have heq : a.r i = b.r i := by
          revert c2; rcases a.r i with ⟨_, _, _⟩; rcases b.r i with ⟨_, _, _⟩; simp <;> (intros; simp_all)
        refine awp_skip ?_
        refine awp_reg_end fun K hK => ?_
        simp [go_sem, c0, d0, c1, d1, hib, c2, d2]
        try simp (disch := omega) only [wrapI]
        repeat refine ⟨by omega, ?_⟩
        refine hK _ ?_; clear hK K
        refine ⟨i + 1, back_of' (by simp [go_sem, wrap_succ (i := i) (by omega), c0, d0, c1, d1, hib, c2, d2]) (.refl _) (by (simp [go_sem, wrap_succ (i := i) (by omega), c0, d0, c1, d1, hib, c2, d2] <;> omega)), ⟨by omega, fun q hq => by rcases Nat.lt_or_eq_of_le (Nat.le_of_lt_succ hq) with h | h; exact hx q h; rw [h]; exact heq⟩, by first | omega | (dsimp only; omega)⟩
    · have d1 := c1; try simp at d1
      refine awp_exit ?_
      refine awp_seq ?_
      refine awp_reg_seq fun K hK => ?_
      simp [go_sem, c0, d0, c1, d1]
      repeat refine ⟨by omega, ?_⟩
      refine hK _ ?_; clear hK K
      refine awp_block ?_
      refine awp_forget [2, 3, 6] (by simp [go_sem, restr]; rfl) ?_
      refine awp_loopU (α := Nat) (fun k => [(6, .d (I k))]) (fun k => σ ++ [.var (a.enc.map .d), .var (b.enc.map .d)]) (fun k => k ≤ a.na ∧ ∀ q, q < k → a.a q = b.a q) (fun k => a.na - k) 0 (by simp [go_sem]) (rfl) (by simp) ?_
      rintro k ⟨hk, hy⟩
      refine awp_seq ?_
      refine awp_reg_seq fun K hK => ?_
      simp [go_sem, c0, d0, c1, d1]
      repeat refine ⟨by omega, ?_⟩
      refine hK _ ?_; clear hK K
      refine awp_forget [2, 3, 6, 66] (by simp only [restr, List.contains_cons, List.contains_nil, Nat.reduceBEq, Bool.or_false, Bool.or_true, Bool.true_or, Bool.false_or, if_true, if_false, Bool.false_eq_true]; rfl) ?_
      refine awp_cond rfl (fun c3 => ?_) (fun c3 => ?_)
      · have d3 := c3; try simp at d3
        have hkb : k < b.na := by omega
        refine awp_skip ?_
        refine awp_seq ?_
        refine awp_block ?_
        refine awp_draw_seq 11 T.mixed (by kernel_rfl) fun K hK => ?_
        simp [go_sem, c0, d0, c1, d1, c3, d3, hkb]
        repeat refine ⟨by omega, ?_⟩
        refine hK _ ?_; clear hK K
        refine awp_forget [2, 3, 6, 79] (by simp only [restr, List.contains_cons, List.contains_nil, Nat.reduceBEq, Bool.or_false, Bool.or_true, Bool.true_or, Bool.false_or, if_true, if_false, Bool.false_eq_true]; rfl) ?_
        refine awp_cond rfl (fun c4 => ?_) (fun c4 => ?_)
        · have d4 := c4; try simp at d4
          have hz : sameA a b = false := by
            rw [← Bool.not_eq_true, sameA_iff]
            rintro ⟨k1, k2, k3, k4, k5⟩
            have := (lst_ext.1 (k5.trans (by rw [← e0.2.2.2.2]))) k d3
            simp [this] at d4
          refine awp_reg_seq fun K hK => ?_
          simp [go_sem, c0, d0, c1, d1, c3, d3, hkb, c4, d4]
          repeat refine ⟨by omega, ?_⟩
          refine hK _ ?_; clear hK K
          refine awp_ret ?_
          rw [hz]; simp [go_sem, Tryz.results27]
        · have d4 := c4; try simp at d4
          have heq : a.a k = b.a k := by
            revert c4; rcases a.a k with ⟨_, _⟩; rcases b.a k with ⟨_, _⟩; simp <;> (intros; simp_all)
          refine awp_skip ?_
          refine awp_reg_end fun K hK => ?_
          simp [go_sem, c0, d0, c1, d1, c3, d3, hkb, c4, d4]
          try simp (disch := omega) only [wrapI]
          repeat refine ⟨by omega, ?_⟩
          refine hK _ ?_; clear hK K
          refine ⟨k + 1, back_of' (by simp [go_sem, wrap_succ (i := k) (by omega), c0, d0, c1, d1, c3, d3, hkb, c4, d4]) (.refl _) (by (simp [go_sem, wrap_succ (i := k) (by omega), c0, d0, c1, d1, c3, d3, hkb, c4, d4] <;> omega)), ⟨by omega, fun q hq => by rcases Nat.lt_or_eq_of_le (Nat.le_of_lt_succ hq) with h | h; exact hy q h; rw [h]; exact heq⟩, by first | omega | (dsimp only; omega)⟩
      · have d3 := c3; try simp at d3
        have hz : sameA a b = true := by
          rw [sameA_iff]
          exact ⟨e0.1, e0.2.1, e0.2.2.1, by rw [← e0.2.2.2.1]; exact lst_ext.2 fun q hq => hx q (by omega), by rw [← e0.2.2.2.2]; exact lst_ext.2 fun q hq => hy q (by omega)⟩
        refine awp_exit ?_
        refine awp_reg_seq fun K hK => ?_
        simp [go_sem, c0, d0, c1, d1, c3, d3]
        repeat refine ⟨by omega, ?_⟩
        refine hK _ ?_; clear hK K
        refine awp_ret ?_
        rw [hz]; simp [go_sem, Tryz.results27]

theorem law17_few_cs (σ : List Blk) (t : TL) (a : Acs) (hn : t.n ≤ 9223372036854775807) (h1 : a.nr ≤ 9223372036854775807) (h2 : a.na ≤ 9223372036854775807) : CSF Tryz.prog 11 [.agg (t.enc.map .d), .agg (a.enc.map .d)] σ (.d (B (few16 t && fewA a))) := by
  refine CSF.of_body T.en11 Tryz.func11 rfl (by simp [Tryz.ntmps11]) (by simp [go_sem]) fun hwf => ?_
  refine awp_reg_seq fun K hK => ?_
  simp [go_sem, Tryz.ntmps11]
  repeat refine ⟨by omega, ?_⟩
  refine hK _ ?_; clear hK K
  refine awp_reg_seq fun K hK => ?_
  simp [go_sem]
  repeat refine ⟨by omega, ?_⟩
  refine CSk.mk (ref16_Few_cs _ t hn) ?_
  simp [go_sem]
  repeat refine ⟨by omega, ?_⟩
  refine CSm.mk (ref17_Few_cs _ a h1 h2) ?_
  simp [go_sem]
  repeat refine ⟨by omega, ?_⟩
  refine hK _ ?_; clear hK K
  refine awp_ret ?_
  simp [go_sem, Tryz.results11] <;> omega

theorem law17_cp_cs (σ : List Blk) (a : Acs) (hm : a.nr < 1000000000) (hk : a.na < 1000000000) : CSF Tryz.prog 13 [.agg (a.enc.map .d)] σ (.agg (a.enc.map .d)) := by
  refine CSF.of_body T.en13 Tryz.func13 rfl (by simp [Tryz.ntmps13]) (by simp [go_sem]) fun hwf => ?_
  refine awp_reg_seq fun K hK => ?_
  simp [go_sem, Tryz.ntmps13]
  repeat refine ⟨by omega, ?_⟩
  refine hK _ ?_; clear hK K
  refine awp_draw_seq 7 T.mixed (by kernel_rfl) fun K hK => ?_
  simp [go_sem]
  repeat refine ⟨by omega, ?_⟩
  refine CSg.mk (cloneRec_cs _ none a.nr a.r hm) ?_
  simp [go_sem]
  repeat refine ⟨by omega, ?_⟩
  refine CSg.mk (cloneDif_cs _ none a.na a.a hk) ?_
  simp [go_sem]
  repeat refine ⟨by omega, ?_⟩
  refine hK _ ?_; clear hK K
  refine awp_reg_seq fun K hK => ?_
  simp [go_sem]
  repeat refine ⟨by omega, ?_⟩
  refine hK _ ?_; clear hK K
  refine awp_ret ?_
  simp [go_sem, Tryz.results13] <;> omega

theorem accession_Receive_2_cs (σ : List Blk) (b1 b2 b3 : Blk) (τ : List Blk) (r : Rec) (c : Option Nat) (n : Nat) (g : Nat → Dif) (d : Dif) (hn : n < 1000000000) : CSF Tryz.prog 61 [.agg (d.enc.map .d), .ptr (σ.length + 4) 0, .ptr σ.length 0] (σ ++ .var (r.enc.map .d) :: b1 :: b2 :: b3 :: .var [.d (SL c 2 Dif.enc n g)] :: τ) (.d (B (d.Number == r.Number && !(bsIs n fun i => ordD (g i) d)))) := by
  refine CSF.of_body T.en61 Tryz.func61 rfl (by simp [Tryz.ntmps61]) (by simp [go_sem]) fun hwf => ?_
  refine awp_reg_seq fun K hK => ?_
  simp [go_sem, Tryz.ntmps61]
  repeat refine ⟨by omega, ?_⟩
  refine hK _ ?_; clear hK K
  refine awp_reg_seq fun K hK => ?_
  simp [go_sem]
  repeat refine ⟨by omega, ?_⟩
  refine CSk.mk (accession_find_cs _ c n g d hn) ?_
  simp [go_sem]
  repeat refine ⟨by omega, ?_⟩
  refine hK _ ?_; clear hK K
  refine awp_reg_seq fun K hK => ?_
  simp [go_sem]
  repeat refine ⟨by omega, ?_⟩
  refine hK _ ?_; clear hK K
  refine awp_ret ?_
  simp [go_sem, Tryz.results61] <;> omega

end Go.Proofs.YtnbokgmimbeihaaGreatDoor

/-! Cl -/
namespace Go.Proofs.YtnbokgmimbeihaaGreatDoor
open Go.Abs Go.Arch Go.Shelf Go.RowKit Go.Lib
set_option linter.unusedVariables false
set_option linter.unusedSimpArgs false
set_option maxRecDepth 100000
set_option maxHeartbeats 1000000

theorem conv_w (W : World) (n : Nat) (hn : n < 10) : (convert 105 9 (.slice (some ⟨W.heap.size, 0, none⟩) 1 1)).run Tryz.prog (W.alloc (Obj.cells #[Value.int IntKind.u8 (48 + (n : Int))] 5)) = .ok (.string ⟨(Lib.decDigits n).toArray⟩) (W.alloc (Obj.cells #[Value.int IntKind.u8 (48 + (n : Int))] 5)) := by
  rw [Lib.decDigits_one hn]
  refine run_convert_bytes_back (l := [UInt8.ofNat (48 + n)]) _ 105 9 5 ⟨W.heap.size, 0, none⟩ 1 (by kernel_rfl) (by kernel_rfl) (by kernel_rfl) fun j hj => ?_
  have hj0 : j = 0 := by simpa using hj
  subst hj0
  have h1 : (W.alloc (Obj.cells #[Value.int IntKind.u8 (48 + (n : Int))] 5)).heap[W.heap.size]? = some (.cells #[Value.int IntKind.u8 (48 + (n : Int))] 5) := alloc_get W _
  have h2 : (UInt8.ofNat (48 + n)).toNat = 48 + n := by simp; omega
  show World.cell? _ ⟨W.heap.size, 0 + 0, none⟩ = _
  unfold World.cell?
  rw [h1]
  simp; omega
theorem dec_len (n : Nat) : (Lib.decDigits n).length ≤ n + 1 := by
  induction n using Nat.strongRecOn with
  | _ n ih =>
  rw [Lib.decDigits]
  split
  · simp
  · have := ih (n / 10) (by omega)
    simp only [List.length_append, List.length_singleton]; omega
theorem decimal_w (n : Nat) : ∀ (hn : n < 1000000000) (W : World), Calls Tryz.prog 45 #[.int .i64 n] W fun e w' => e = .returned (.string ⟨(Lib.decDigits n).toArray⟩) ∧ Below W.heap.size W w' := by
  induction n using Nat.strongRecOn with
  | _ n ih =>
  intro hn W
  by_cases h10 : n < 10
  · have hd : ((n : Int) < 10) = True := by simp; omega
    have hw : IntKind.i64.wrap (48 + (n : Int)) = 48 + n := by rw [wrapI (by omega) (by omega)]
    have hc := conv_w W n h10
    clear ih
    go_enter Tryz.func45, Tryz.ntmps45
    go_wp2
    go_ret
    exact ⟨rfl, Below.alloc (.refl _ _) (Nat.le_refl _) _⟩
  · have hd : ((n : Int) < 10) = False := by simp; omega
    have h1 : (n : Int).tdiv 10 = ((n / 10 : Nat) : Int) := rfl
    have h2 : (n : Int).tmod 10 = ((n % 10 : Nat) : Int) := rfl
    have h3 : IntKind.i64.wrap ((n / 10 : Nat) : Int) = ((n / 10 : Nat) : Int) := wrapI (by omega) (by omega)
    have i1 := ih (n / 10) (by omega) (by omega)
    have i2 := ih (n % 10) (by omega) (by omega)
    have e1 : Lib.decDigits n = Lib.decDigits (n / 10) ++ Lib.decDigits (n % 10) := by
      rw [Lib.decDigits, dif_neg h10, Lib.decDigits_one (show n % 10 < 10 by omega)]
    have l1 := dec_len (n / 10)
    have l2 := dec_len (n % 10)
    have b1 : n / 10 ≤ 1000000000 := by omega
    have b2 : n % 10 ≤ 1000000000 := by omega
    generalize n / 10 = p at h1 h3 i1 e1 l1 b1
    generalize n % 10 = q at h2 i2 e1 l2 b2
    have H1 : Hid (∀ (W : World), Calls Tryz.prog 45 #[.int .i64 p] W fun e w' => e = .returned (.string ⟨(Lib.decDigits p).toArray⟩) ∧ Below W.heap.size W w') := i1
    have H2 : Hid (∀ (W : World), Calls Tryz.prog 45 #[.int .i64 q] W fun e w' => e = .returned (.string ⟨(Lib.decDigits q).toArray⟩) ∧ Below W.heap.size W w') := i2
    clear ih i1 i2 h10
    have HE : Hid (Lib.decDigits n = Lib.decDigits p ++ Lib.decDigits q) := e1
    clear e1
    go_enter Tryz.func45, Tryz.ntmps45
    go_wp2_with (go_at_call 45; first | ((with_reducible refine (H1.out _).mono ?_); rintro e w1 ⟨rfl, hb1⟩) | ((with_reducible refine (H2.out _).mono ?_); rintro e w2 ⟨rfl, hb2⟩))
    all_goals go_ret
    all_goals refine ⟨?_, hb1.trans ⟨hb2.os, hb2.tape, hb2.output, hb2.size, fun k hk => hb2.block k (Nat.lt_of_lt_of_le hk hb1.size)⟩⟩
    all_goals (rw [HE.out]; simp; try rfl)
theorem decimal_cs (σ : List Blk) (n : Nat) (hn : n < 1000000000) : CSF Tryz.prog 45 [.d (I n)] σ (.d (Sb ⟨(Lib.decDigits n).toArray⟩)) := by
  refine CSF.of_calls T.en45 #[.int .i64 n] (fun w j vs hr => rs_vals1 hr (fun _ h => R_v h)) (fun w j hS => ?_)
  exact decimal_w n hn w
end Go.Proofs.YtnbokgmimbeihaaGreatDoor

/-! Cn -/
namespace Go.Proofs.YtnbokgmimbeihaaGreatDoor
open Go.Abs Go.Arch Go.Shelf Go.RowKit Go.Lib Go.Proofs
set_option linter.unusedVariables false
set_option linter.unusedSimpArgs false
set_option maxRecDepth 100000
set_option maxHeartbeats 1000000

theorem repX : Builder.Extra Tryz.prog Tryz.strRepeat_ren where
  sizeBuilder := by kernel_rfl
  liesBuilder := by kernel_rfl
  t5 := Tryz.underlying5
  a5 := Tryz.isAgg5
  z5 := Tryz.sizeOf5
  v5 := Tryz.zeroValue5
  infoByte := by kernel_rfl
  cellsByte := by kernel_rfl
  sizeByte := by kernel_rfl
  neB5 := by decide
theorem repeat_cs (σ : List Blk) (s : ByteArray) (c : Nat) (hc2 : 2 ≤ c) (hc : c ≤ 9223372036854775807) (hlen : s.size * c ≤ 140737488355328) (h0 : 0 < s.size) : CSF Tryz.prog 37 [.d (Sb s), .d (I c)] σ (.d (Sb ⟨(Lib.repeatL s.data.toList c).toArray⟩)) := by
  refine CSF.of_calls T.en37 #[.string s, .int .i64 c] (fun w j vs hr => rs_vals2 hr (fun _ h => R_v h) (fun _ h => R_v h)) (fun w j hS => ?_)
  exact Any.strings_Repeat_main Tryz.strRepeat repX s c w hc2 hc hlen h0
end Go.Proofs.YtnbokgmimbeihaaGreatDoor

/-! Co -/
namespace Go.Proofs.YtnbokgmimbeihaaGreatDoor
open Go.Abs Go.Arch Go.Shelf Go.RowKit Go.Lib Go.Proofs Go.Sort
set_option linter.unusedVariables false
set_option linter.unusedSimpArgs false
set_option maxRecDepth 100000
set_option maxHeartbeats 1000000

/-- the table of powers of ten -/
def powV : Array Value := (Lib.pow10Tab.map fun z => Value.int .u64 z).toArray
theorem pow_tab {w : World} {j : Js} {σ : List Blk} (hS : RelS w j σ) {b : Nat} (h : σ[b]? = some (.tab 1 powV)) : Lib.TabIs Tryz.prog w "internal/strconv.uint64pow10" .u64 Lib.pow10Tab := by
  obtain ⟨e, f, hc⟩ := tab_cells hS h
  have hg : Tryz.prog.globalNamed "internal/strconv.uint64pow10" = some 1 := by kernel_rfl
  unfold Lib.TabIs World.var?
  rw [hg]
  simp only [Option.bind_some, hc]
  rfl
theorem below_grow (w : World) (os : Array Obj) (k : Nat) : Below w.heap.size w (grow (w.drewN k) os) :=
  ⟨rfl, rfl, rfl, by simp [grow], fun i hi => by simp [grow, Array.getElem?_append_left hi]⟩
theorem itoa_cs (σ : List Blk) (n : Nat) (hn : n < 1000000000) (hσ : σ[1]? = some (.tab 1 powV)) : CSF Tryz.prog 44 [.d (I n)] σ (.d (Sb ⟨(Lib.decDigits n).toArray⟩)) := by
  refine CSF.of_calls T.en44 #[.int .i64 n] (fun w j vs hr => rs_vals1 hr (fun _ h => R_v h)) (fun w j hS => ?_)
  refine (Any.strconv_Itoa Tryz.itoa n (by omega) (by omega) w (pow_tab hS hσ)).mono ?_
  rintro e w' ⟨rfl, k, os, rfl⟩
  exact ⟨by rw [Lib.itoa, if_neg (by omega), Int.toNat_natCast], below_grow w os k⟩
end Go.Proofs.YtnbokgmimbeihaaGreatDoor
