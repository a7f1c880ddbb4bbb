/- Contracts and lemmas (Dc, Dd, Df, De, Dg, Oc, Dh, Di, Dj), joined out of smaller texts by a program; no conditions. -/
import Derived.Test.YtkochmppmpmddaaGreatKA4
import Derived.Test.YtkochmppmpmddaaGreatKA2
/-! Dc -/
namespace Go.Proofs.YtkochmppmpmddaaGreat
open Go.Abs Go.Arch
set_option linter.unusedVariables false
set_option linter.unusedSimpArgs false
set_option maxRecDepth 100000
set_option maxHeartbeats 400000

open Classical in
noncomputable def eqL {α : Type} (l m : List α) : Bool := decide (l = m)
theorem eqL_iff {α : Type} {l m : List α} : eqL l m = true ↔ l = m := by unfold eqL; simp
theorem eqL_not {α : Type} {l m : List α} : eqL l m = false ↔ l ≠ m := by rw [← Bool.not_eq_true, eqL_iff]
theorem eqL_len {α : Type} {n m : Nat} {f g : Nat → α} (h : ¬ n = m) : eqL (lst n f) (lst m g) = false := by
  rw [eqL_not]; intro he; have := congrArg List.length he; rw [lst_length, lst_length] at this; exact h this
theorem eqL_at {α : Type} {n m : Nat} {f g : Nat → α} {i : Nat} (h1 : i < n) (h2 : i < m) (h : f i ≠ g i) : eqL (lst n f) (lst m g) = false := by
  rw [eqL_not]; intro he
  have e1 := lst_get (f := f) h1
  rw [he, lst_get h2] at e1
  exact h (Option.some.inj e1).symm
theorem lst_congr {α : Type} {n : Nat} {f g : Nat → α} (h : ∀ q, q < n → f q = g q) : lst n f = lst n g :=
  List.map_congr_left fun q hq => h q (by simpa using hq)
theorem eqL_yes {α : Type} {n m : Nat} {f g : Nat → α} (h : n = m) (hq : ∀ q, q < n → f q = g q) : eqL (lst n f) (lst m g) = true := by
  rw [eqL_iff, ← h]; exact lst_congr hq
structure Reason where
  Gd : Ground
  Pm : Int
instance : Inhabited Reason := ⟨⟨⟨0, 0, 0, 0⟩, 0⟩⟩
def Reason.enc (r : Reason) : List D := [I r.Gd.Kind, I r.Gd.Source, I r.Gd.Unit, I r.Gd.Until, I r.Pm]
attribute [go_sem] Reason.enc
structure Sbj where
  Unit : Int
  Made : Dating
  Class : Int
  np : Nat
  ps : Nat → Int
instance : Inhabited Sbj := ⟨⟨0, ⟨0, 0⟩, 0, 0, fun _ => 0⟩⟩
def Sbj.enc (s : Sbj) : List D := [I s.Unit, I s.Made.First, I s.Made.Last, I s.Class, SL none 1 encI s.np s.ps]
attribute [go_sem] Sbj.enc


theorem equalInt_cs (σ : List Blk) (c c' : Option Nat) (n m : Nat) (f g : Nat → Int) (hn : n < 1000000000) (hm : m < 1000000000) : CSF Tryz.prog 21 [.d (SL c 1 encI n f), .d (SL c' 1 encI m g)] σ (.d (B (eqL (lst n f) (lst m g)))) := by
  refine CSF.of_body T.en21 Tryz.func21 rfl (by simp [Tryz.ntmps21]) (by simp [go_sem]) fun hwf => ?_
  refine awp_reg_seq fun K hK => ?_
  simp [go_sem, Tryz.ntmps21]
  repeat refine ⟨by omega, ?_⟩
  refine hK _ ?_; clear hK K
  refine awp_seq ?_
  refine awp_reg_seq fun K hK => ?_
  simp [go_sem]
  repeat refine ⟨by omega, ?_⟩
  refine hK _ ?_; clear hK K
  refine awp_forget [0, 1, 10] (by simp only [restr, List.contains_cons, List.contains_nil, Nat.reduceBEq, Bool.or_false, Bool.or_true, Bool.true_or, Bool.false_or, if_true, if_false, Bool.false_eq_true]; rfl) ?_
  refine awp_cond rfl (fun c0 => ?_) (fun c0 => ?_)
  · have d0 := c0; try simp at d0
    have hz : eqL (lst n f) (lst m g) = false := eqL_len (by omega)
    refine awp_reg_seq fun K hK => ?_
    simp [go_sem, c0, d0]
    repeat refine ⟨by omega, ?_⟩
    refine hK _ ?_; clear hK K
    refine awp_ret ?_
    rw [hz]; simp [go_sem, Tryz.results21]
  · have d0 := c0; try simp at d0
    refine awp_skip ?_
    refine awp_seq ?_
    refine awp_reg_seq fun K hK => ?_
    simp [go_sem, c0, d0]
    repeat refine ⟨by omega, ?_⟩
    refine hK _ ?_; clear hK K
    refine awp_block ?_
    refine awp_forget [0, 1, 12, 13] (by simp [go_sem, restr]; rfl) ?_
    refine awp_loopU (α := Nat) (fun i => [(13, .d (I i))]) (fun i => _) (fun i => i ≤ n ∧ ∀ q, q < i → f q = g q) (fun i => n - i) 0 (by simp [go_sem]) rfl (by simp) ?_
    rintro i ⟨hi, hx⟩
    refine awp_reg_seq fun K hK => ?_
    simp [go_sem, c0, d0]
    repeat refine ⟨by omega, ?_⟩
    refine hK _ ?_; clear hK K
    refine awp_seq ?_
    refine awp_forget [0, 1, 12, 13, 14] (by simp only [restr, List.contains_cons, List.contains_nil, Nat.reduceBEq, Bool.or_false, Bool.or_true, Bool.true_or, Bool.false_or, if_true, if_false, Bool.false_eq_true]; rfl) ?_
    refine awp_cond rfl (fun c1 => ?_) (fun c1 => ?_)
    · have d1 := c1; try simp at d1
      refine awp_skip ?_
      refine awp_seq ?_
      refine awp_block ?_
      refine awp_reg_seq fun K hK => ?_
      simp [go_sem, c0, d0, c1, d1]
      repeat refine ⟨by omega, ?_⟩
      refine hK _ ?_; clear hK K
      refine awp_draw_seq 9 T.mixed (by kernel_rfl) fun K hK => ?_
      simp [go_sem, c0, d0, c1, d1]
      repeat refine ⟨by omega, ?_⟩
      refine hK _ ?_; clear hK K
      refine awp_forget [0, 1, 12, 13, 24] (by simp only [restr, List.contains_cons, List.contains_nil, Nat.reduceBEq, Bool.or_false, Bool.or_true, Bool.true_or, Bool.false_or, if_true, if_false, Bool.false_eq_true]; rfl) ?_
      refine awp_cond rfl (fun c2 => ?_) (fun c2 => ?_)
      · have d2 := c2; try simp at d2
        have hz : eqL (lst n f) (lst m g) = false := eqL_at (i := i) (by omega) (by omega) (fun h => by simp [h] at d2)
        refine awp_reg_seq fun K hK => ?_
        simp [go_sem, c0, d0, c1, d1, c2, d2]
        repeat refine ⟨by omega, ?_⟩
        refine hK _ ?_; clear hK K
        refine awp_ret ?_
        rw [hz]; simp [go_sem, Tryz.results21]
      · have d2 := c2; try simp at d2
        have heq : f i = g i := by
          revert c2; rcases f i with _; rcases g i with _; simp <;> (intros; simp_all)
        refine awp_skip ?_
        refine awp_reg_end fun K hK => ?_
        simp [go_sem, c0, d0, c1, d1, c2, d2]
        try simp (disch := omega) only [wrapI]
        repeat refine ⟨by omega, ?_⟩
        refine hK _ ?_; clear hK K
        refine ⟨i + 1, back_of' (by simp) (.refl _) (by (simp [go_sem, wrap_succ (i := i) (by omega), c0, d0, c1, d1, c2, d2] <;> omega)), ⟨by omega, fun q hq => by rcases Nat.lt_or_eq_of_le (Nat.le_of_lt_succ hq) with h | h; exact hx q h; rw [h]; exact heq⟩, by first | omega | (dsimp only; omega)⟩
    · have d1 := c1; try simp at d1
      have hz : eqL (lst n f) (lst m g) = true := eqL_yes (by omega) (fun q hq => hx q (by omega))
      refine awp_exit ?_
      refine awp_reg_seq fun K hK => ?_
      simp [go_sem, c0, d0, c1, d1]
      repeat refine ⟨by omega, ?_⟩
      refine hK _ ?_; clear hK K
      refine awp_ret ?_
      rw [hz]; simp [go_sem, Tryz.results21]

theorem equalReason_cs (σ : List Blk) (c c' : Option Nat) (n m : Nat) (f g : Nat → Reason) (hn : n < 1000000000) (hm : m < 1000000000) : CSF Tryz.prog 64 [.d (SL c 5 Reason.enc n f), .d (SL c' 5 Reason.enc m g)] σ (.d (B (eqL (lst n f) (lst m g)))) := by
  refine CSF.of_body T.en64 Tryz.func64 rfl (by simp [Tryz.ntmps64]) (by simp [go_sem]) fun hwf => ?_
  refine awp_reg_seq fun K hK => ?_
  simp [go_sem, Tryz.ntmps64]
  repeat refine ⟨by omega, ?_⟩
  refine hK _ ?_; clear hK K
  refine awp_seq ?_
  refine awp_reg_seq fun K hK => ?_
  simp [go_sem]
  repeat refine ⟨by omega, ?_⟩
  refine hK _ ?_; clear hK K
  refine awp_forget [0, 1, 10] (by simp only [restr, List.contains_cons, List.contains_nil, Nat.reduceBEq, Bool.or_false, Bool.or_true, Bool.true_or, Bool.false_or, if_true, if_false, Bool.false_eq_true]; rfl) ?_
  refine awp_cond rfl (fun c0 => ?_) (fun c0 => ?_)
  · have d0 := c0; try simp at d0
    have hz : eqL (lst n f) (lst m g) = false := eqL_len (by omega)
    refine awp_reg_seq fun K hK => ?_
    simp [go_sem, c0, d0]
    repeat refine ⟨by omega, ?_⟩
    refine hK _ ?_; clear hK K
    refine awp_ret ?_
    rw [hz]; simp [go_sem, Tryz.results64]
  · have d0 := c0; try simp at d0
    refine awp_skip ?_
    refine awp_seq ?_
    refine awp_reg_seq fun K hK => ?_
    simp [go_sem, c0, d0]
    repeat refine ⟨by omega, ?_⟩
    refine hK _ ?_; clear hK K
    refine awp_block ?_
    refine awp_forget [0, 1, 12, 13] (by simp [go_sem, restr]; rfl) ?_
    refine awp_loopU (α := Nat) (fun i => [(13, .d (I i))]) (fun i => _) (fun i => i ≤ n ∧ ∀ q, q < i → f q = g q) (fun i => n - i) 0 (by simp [go_sem]) rfl (by simp) ?_
    rintro i ⟨hi, hx⟩
    refine awp_reg_seq fun K hK => ?_
    simp [go_sem, c0, d0]
    repeat refine ⟨by omega, ?_⟩
    refine hK _ ?_; clear hK K
    refine awp_seq ?_
    refine awp_forget [0, 1, 12, 13, 14] (by simp only [restr, List.contains_cons, List.contains_nil, Nat.reduceBEq, Bool.or_false, Bool.or_true, Bool.true_or, Bool.false_or, if_true, if_false, Bool.false_eq_true]; rfl) ?_
    refine awp_cond rfl (fun c1 => ?_) (fun c1 => ?_)
    · have d1 := c1; try simp at d1
      refine awp_skip ?_
      refine awp_seq ?_
      refine awp_block ?_
      refine awp_reg_seq fun K hK => ?_
      simp [go_sem, c0, d0, c1, d1]
      repeat refine ⟨by omega, ?_⟩
      refine hK _ ?_; clear hK K
      refine awp_draw_seq 9 T.mixed (by kernel_rfl) fun K hK => ?_
      simp [go_sem, c0, d0, c1, d1]
      repeat refine ⟨by omega, ?_⟩
      refine hK _ ?_; clear hK K
      refine awp_forget [0, 1, 12, 13, 24] (by simp only [restr, List.contains_cons, List.contains_nil, Nat.reduceBEq, Bool.or_false, Bool.or_true, Bool.true_or, Bool.false_or, if_true, if_false, Bool.false_eq_true]; rfl) ?_
      refine awp_cond rfl (fun c2 => ?_) (fun c2 => ?_)
      · have d2 := c2; try simp at d2
        have hz : eqL (lst n f) (lst m g) = false := eqL_at (i := i) (by omega) (by omega) (fun h => by simp [h] at d2)
        refine awp_reg_seq fun K hK => ?_
        simp [go_sem, c0, d0, c1, d1, c2, d2]
        repeat refine ⟨by omega, ?_⟩
        refine hK _ ?_; clear hK K
        refine awp_ret ?_
        rw [hz]; simp [go_sem, Tryz.results64]
      · have d2 := c2; try simp at d2
        have heq : f i = g i := by
          revert c2; rcases f i with ⟨⟨_,_,_,_⟩,_⟩; rcases g i with ⟨⟨_,_,_,_⟩,_⟩; simp <;> (intros; simp_all)
        refine awp_skip ?_
        refine awp_reg_end fun K hK => ?_
        simp [go_sem, c0, d0, c1, d1, c2, d2]
        try simp (disch := omega) only [wrapI]
        repeat refine ⟨by omega, ?_⟩
        refine hK _ ?_; clear hK K
        refine ⟨i + 1, back_of' (by simp) (.refl _) (by (simp [go_sem, wrap_succ (i := i) (by omega), c0, d0, c1, d1, c2, d2] <;> omega)), ⟨by omega, fun q hq => by rcases Nat.lt_or_eq_of_le (Nat.le_of_lt_succ hq) with h | h; exact hx q h; rw [h]; exact heq⟩, by first | omega | (dsimp only; omega)⟩
    · have d1 := c1; try simp at d1
      have hz : eqL (lst n f) (lst m g) = true := eqL_yes (by omega) (fun q hq => hx q (by omega))
      refine awp_exit ?_
      refine awp_reg_seq fun K hK => ?_
      simp [go_sem, c0, d0, c1, d1]
      repeat refine ⟨by omega, ?_⟩
      refine hK _ ?_; clear hK K
      refine awp_ret ?_
      rw [hz]; simp [go_sem, Tryz.results64]

theorem equalGround_cs (σ : List Blk) (c c' : Option Nat) (n m : Nat) (f g : Nat → Ground) (hn : n < 1000000000) (hm : m < 1000000000) : CSF Tryz.prog 28 [.d (SL c 4 Ground.enc n f), .d (SL c' 4 Ground.enc m g)] σ (.d (B (eqL (lst n f) (lst m g)))) := by
  refine CSF.of_body T.en28 Tryz.func28 rfl (by simp [Tryz.ntmps28]) (by simp [go_sem]) fun hwf => ?_
  refine awp_reg_seq fun K hK => ?_
  simp [go_sem, Tryz.ntmps28]
  repeat refine ⟨by omega, ?_⟩
  refine hK _ ?_; clear hK K
  refine awp_seq ?_
  refine awp_reg_seq fun K hK => ?_
  simp [go_sem]
  repeat refine ⟨by omega, ?_⟩
  refine hK _ ?_; clear hK K
  refine awp_forget [0, 1, 10] (by simp only [restr, List.contains_cons, List.contains_nil, Nat.reduceBEq, Bool.or_false, Bool.or_true, Bool.true_or, Bool.false_or, if_true, if_false, Bool.false_eq_true]; rfl) ?_
  refine awp_cond rfl (fun c0 => ?_) (fun c0 => ?_)
  · have d0 := c0; try simp at d0
    have hz : eqL (lst n f) (lst m g) = false := eqL_len (by omega)
    refine awp_reg_seq fun K hK => ?_
    simp [go_sem, c0, d0]
    repeat refine ⟨by omega, ?_⟩
    refine hK _ ?_; clear hK K
    refine awp_ret ?_
    rw [hz]; simp [go_sem, Tryz.results28]
  · have d0 := c0; try simp at d0
    refine awp_skip ?_
    refine awp_seq ?_
    refine awp_reg_seq fun K hK => ?_
    simp [go_sem, c0, d0]
    repeat refine ⟨by omega, ?_⟩
    refine hK _ ?_; clear hK K
    refine awp_block ?_
    refine awp_forget [0, 1, 12, 13] (by simp [go_sem, restr]; rfl) ?_
    refine awp_loopU (α := Nat) (fun i => [(13, .d (I i))]) (fun i => _) (fun i => i ≤ n ∧ ∀ q, q < i → f q = g q) (fun i => n - i) 0 (by simp [go_sem]) rfl (by simp) ?_
    rintro i ⟨hi, hx⟩
    refine awp_reg_seq fun K hK => ?_
    simp [go_sem, c0, d0]
    repeat refine ⟨by omega, ?_⟩
    refine hK _ ?_; clear hK K
    refine awp_seq ?_
    refine awp_forget [0, 1, 12, 13, 14] (by simp only [restr, List.contains_cons, List.contains_nil, Nat.reduceBEq, Bool.or_false, Bool.or_true, Bool.true_or, Bool.false_or, if_true, if_false, Bool.false_eq_true]; rfl) ?_
    refine awp_cond rfl (fun c1 => ?_) (fun c1 => ?_)
    · have d1 := c1; try simp at d1
      refine awp_skip ?_
      refine awp_seq ?_
      refine awp_block ?_
      refine awp_reg_seq fun K hK => ?_
      simp [go_sem, c0, d0, c1, d1]
      repeat refine ⟨by omega, ?_⟩
      refine hK _ ?_; clear hK K
      refine awp_draw_seq 9 T.mixed (by kernel_rfl) fun K hK => ?_
      simp [go_sem, c0, d0, c1, d1]
      repeat refine ⟨by omega, ?_⟩
      refine hK _ ?_; clear hK K
      refine awp_forget [0, 1, 12, 13, 24] (by simp only [restr, List.contains_cons, List.contains_nil, Nat.reduceBEq, Bool.or_false, Bool.or_true, Bool.true_or, Bool.false_or, if_true, if_false, Bool.false_eq_true]; rfl) ?_
      refine awp_cond rfl (fun c2 => ?_) (fun c2 => ?_)
      · have d2 := c2; try simp at d2
        have hz : eqL (lst n f) (lst m g) = false := eqL_at (i := i) (by omega) (by omega) (fun h => by simp [h] at d2)
        refine awp_reg_seq fun K hK => ?_
        simp [go_sem, c0, d0, c1, d1, c2, d2]
        repeat refine ⟨by omega, ?_⟩
        refine hK _ ?_; clear hK K
        refine awp_ret ?_
        rw [hz]; simp [go_sem, Tryz.results28]
      · have d2 := c2; try simp at d2
        have heq : f i = g i := by
          revert c2; rcases f i with ⟨_,_,_,_⟩; rcases g i with ⟨_,_,_,_⟩; simp <;> (intros; simp_all)
        refine awp_skip ?_
        refine awp_reg_end fun K hK => ?_
        simp [go_sem, c0, d0, c1, d1, c2, d2]
        try simp (disch := omega) only [wrapI]
        repeat refine ⟨by omega, ?_⟩
        refine hK _ ?_; clear hK K
        refine ⟨i + 1, back_of' (by simp) (.refl _) (by (simp [go_sem, wrap_succ (i := i) (by omega), c0, d0, c1, d1, c2, d2] <;> omega)), ⟨by omega, fun q hq => by rcases Nat.lt_or_eq_of_le (Nat.le_of_lt_succ hq) with h | h; exact hx q h; rw [h]; exact heq⟩, by first | omega | (dsimp only; omega)⟩
    · have d1 := c1; try simp at d1
      have hz : eqL (lst n f) (lst m g) = true := eqL_yes (by omega) (fun q hq => hx q (by omega))
      refine awp_exit ?_
      refine awp_reg_seq fun K hK => ?_
      simp [go_sem, c0, d0, c1, d1]
      repeat refine ⟨by omega, ?_⟩
      refine hK _ ?_; clear hK K
      refine awp_ret ?_
      rw [hz]; simp [go_sem, Tryz.results28]

theorem cloneSbj_cs (σ : List Blk) (c : Option Nat) (n : Nat) (g : Nat → Sbj) (hn : n < 1000000000) : CSF Tryz.prog 52 [.d (SL c 5 Sbj.enc n g)] σ (.d (SL none 5 Sbj.enc n g)) := by
  refine CSF.of_body T.en52 Tryz.func52 rfl (by simp [Tryz.ntmps52]) (by simp [go_sem]) fun hwf => ?_
  refine awp_reg_seq fun K hK => ?_
  simp [go_sem, Tryz.ntmps52]
  repeat refine ⟨by omega, ?_⟩
  refine hK _ ?_; clear hK K
  refine awp_seq ?_
  refine awp_reg_seq fun K hK => ?_
  simp [go_sem, -Bool.forall_bool]
  intro b1 hb1
  repeat refine ⟨by omega, ?_⟩
  refine hK _ ?_; clear hK K
  refine awp_cond rfl (fun c0 => ?_) (fun c0 => ?_)
  · have d0 := c0; try simp at d0
    refine awp_reg_seq fun K hK => ?_
    simp [go_sem, c0, d0]
    repeat refine ⟨by omega, ?_⟩
    refine hK _ ?_; clear hK K
    refine awp_ret ?_
    have := hb1 c0
    simp [go_sem, Tryz.results52, this]
  · have d0 := c0; try simp at d0
    refine awp_skip ?_
    refine awp_reg_seq fun K hK => ?_
    simp [go_sem, c0, d0, hwf.one, hwf.zero]
    repeat refine ⟨by omega, ?_⟩
    refine hK _ ?_; clear hK K
    refine awp_freeze (σ.length) (by simp [go_sem]; first | exact ⟨rfl, rfl, rfl⟩ | exact ⟨rfl, rfl⟩ | rfl) (by simp [go_sem]; rfl) (by simp [go_sem, hwf.frz, hwf.frz0]; rfl) ?_
    refine awp_ret ?_
    simp [go_sem, Tryz.results52, c0, d0] <;> omega

theorem cloneSbjM_cs (σ : List Blk) (c : Option Nat) (n : Nat) (g : Nat → Sbj) (hn : n < 1000000000) : CS Tryz.prog 52 [.d (SL c 5 Sbj.enc n g)] σ (fun r σ' X => r = .ms σ.length 5 0 n ∧ σ' = σ ++ [.arr 5 n fun i => Sbj.enc (g i)] ∧ X = []) := by
  refine CS.of_bodyW T.en52 Tryz.func52 rfl (by simp [Tryz.ntmps52]) fun hwf => ?_
  refine awp_reg_seq fun K hK => ?_
  simp [go_sem, Tryz.ntmps52]
  repeat refine ⟨by omega, ?_⟩
  refine hK _ ?_; clear hK K
  refine awp_seq ?_
  refine awp_reg_seq fun K hK => ?_
  simp [go_sem, -Bool.forall_bool]
  intro b1 hb1
  repeat refine ⟨by omega, ?_⟩
  refine hK _ ?_; clear hK K
  refine awp_cond rfl (fun c0 => ?_) (fun c0 => ?_)
  · have d0 := c0; try simp at d0
    refine awp_reg_seq fun K hK => ?_
    simp [go_sem, c0, d0]
    repeat refine ⟨by omega, ?_⟩
    refine hK _ ?_; clear hK K
    refine awp_thawT 2 5 (fun i => Sbj.enc (g i)) (by simp [go_sem]) (by simp [go_sem]; rfl) ?_
    refine awp_ret ?_
    obtain rfl := hb1 c0
    simp [go_sem, Tryz.results52]
  · have d0 := c0; try simp at d0
    refine awp_skip ?_
    refine awp_reg_seq fun K hK => ?_
    simp [go_sem, c0, d0, hwf.one, hwf.zero]
    repeat refine ⟨by omega, ?_⟩
    refine hK _ ?_; clear hK K
    refine awp_ret ?_
    simp [go_sem, Tryz.results52, c0, d0] <;> omega

theorem indexSbj_cs (σ : List Blk) (c : Option Nat) (n : Nat) (g : Nat → Sbj) (f : FuncId) (cap : List AV) (p : Sbj → Bool) (hn : n < 1000000000) (hf : ∀ i, i < n → CSF Tryz.prog f (.agg ((g i).enc.map .d) :: cap) σ (.d (B (p (g i))))) : CSF Tryz.prog 133 [.d (SL c 5 Sbj.enc n g), .clo (.func f) [] cap] σ (.d (I (idxFrom p (lst n g) 0))) := by
  refine CSF.of_body T.en133 Tryz.func133 rfl (by simp [Tryz.ntmps133]) (by simp [go_sem]) fun hwf => ?_
  refine awp_reg_seq fun K hK => ?_
  simp [go_sem, Tryz.ntmps133]
  repeat refine ⟨by omega, ?_⟩
  refine hK _ ?_; clear hK K
  refine awp_seq ?_
  refine awp_reg_seq fun K hK => ?_
  simp [go_sem]
  repeat refine ⟨by omega, ?_⟩
  refine hK _ ?_; clear hK K
  refine awp_block ?_
  refine awp_forget [0, 1, 7, 8] (by simp [go_sem, restr]; rfl) ?_
  refine awp_loopU (α := Nat) (fun i => [(8, .d (I i))]) (fun i => _) (fun i => i ≤ n ∧ idxFrom p (lst n g) 0 = idxFrom p ((lst n g).drop i) i) (fun i => n - i) 0 (by simp [go_sem]) rfl (by simp) ?_
  rintro i ⟨hi, hx⟩
  refine awp_reg_seq fun K hK => ?_
  simp [go_sem]
  repeat refine ⟨by omega, ?_⟩
  refine hK _ ?_; clear hK K
  refine awp_seq ?_
  refine awp_forget [0, 1, 7, 8, 9] (by simp only [restr, List.contains_cons, List.contains_nil, Nat.reduceBEq, Bool.or_false, Bool.or_true, Bool.true_or, Bool.false_or, if_true, if_false, Bool.false_eq_true]; rfl) ?_
  refine awp_cond rfl (fun c0 => ?_) (fun c0 => ?_)
  · have d0 := c0; try simp at d0
    rw [drop_lst d0, idxFrom] at hx
    refine awp_skip ?_
    refine awp_seq ?_
    refine awp_block ?_
    refine awp_reg_seq fun K hK => ?_
    simp [go_sem, c0, d0]
    repeat refine ⟨by omega, ?_⟩
    refine hK _ ?_; clear hK K
    refine awp_reg_seq fun K hK => ?_
    simp [go_sem, c0, d0]
    repeat refine ⟨by omega, ?_⟩
    refine CSk.mk (hf i d0) ?_
    simp [go_sem, c0, d0]
    repeat refine ⟨by omega, ?_⟩
    refine hK _ ?_; clear hK K
    refine awp_forget [0, 1, 5, 7, 8, 16] (by simp only [restr, List.contains_cons, List.contains_nil, Nat.reduceBEq, Bool.or_false, Bool.or_true, Bool.true_or, Bool.false_or, if_true, if_false, Bool.false_eq_true]; rfl) ?_
    refine awp_cond rfl (fun c1 => ?_) (fun c1 => ?_)
    · have d1 := c1; try simp at d1
      refine awp_reg_seq fun K hK => ?_
      simp [go_sem, c0, d0, c1, d1]
      repeat refine ⟨by omega, ?_⟩
      refine hK _ ?_; clear hK K
      refine awp_ret ?_
      simp [go_sem, Tryz.results133, hx, c0, d0, c1, d1] <;> omega
    · have d1 := c1; try simp at d1
      refine awp_skip ?_
      refine awp_reg_end fun K hK => ?_
      simp [go_sem, c0, d0, c1, d1]
      try simp (disch := omega) only [wrapI]
      repeat refine ⟨by omega, ?_⟩
      refine hK _ ?_; clear hK K
      refine ⟨i + 1, back_of' (by simp) (.refl _) (by (simp [go_sem, wrap_succ (i := i) (by omega), c0, d0, c1, d1] <;> omega)), ⟨by omega, by rw [hx, c1]; simp⟩, by first | omega | (dsimp only; omega)⟩
  · have d0 := c0; try simp at d0
    rw [drop_all d0, idxFrom] at hx
    refine awp_exit ?_
    refine awp_reg_seq fun K hK => ?_
    simp [go_sem, c0, d0]
    repeat refine ⟨by omega, ?_⟩
    refine hK _ ?_; clear hK K
    refine awp_ret ?_
    simp [go_sem, Tryz.results133, hx, c0, d0] <;> omega

theorem person_Learn_cs (σ : List Blk) (c : Option Nat) (n : Nat) (g : Nat → Prs) (k : Int) (b d : Dating) (hn : n < 1000000000) (hN : ∀ i, i < n → (g i).Name.size < 4294967281) (hσ : σ[0]? = some (.loc 0)) : CSF Tryz.prog 35 [.d (SL c 6 Prs.enc n g), .d (I k), .agg (b.enc.map .d), .agg (d.enc.map .d)] σ (.tup [.d (SL none 6 Prs.enc (learnL n g k b d).1.1 (learnL n g k b d).1.2), .d (I (learnL n g k b d).2)]) := by
  have hlt := findP_lt n g k
  refine CSF.of_body T.en35 Tryz.func35 rfl (by simp [Tryz.ntmps35]) (by simp [go_sem]) fun hwf => ?_
  refine awp_reg_seq fun K hK => ?_
  simp [go_sem, Tryz.ntmps35]
  repeat refine ⟨by omega, ?_⟩
  refine hK _ ?_; clear hK K
  refine awp_seq ?_
  refine awp_reg_seq fun K hK => ?_
  simp [go_sem]
  repeat refine ⟨by omega, ?_⟩
  refine CSk.mk (person_Check_cs _ c n g hn hN (loc_app hσ)) ?_
  simp [go_sem]
  repeat refine ⟨by omega, ?_⟩
  refine CSm.mk (dating_Check_cs _ b) ?_
  simp [go_sem]
  repeat refine ⟨by omega, ?_⟩
  refine CSm.mk (dating_Check_cs _ d) ?_
  simp [go_sem]
  repeat refine ⟨by omega, ?_⟩
  refine hK _ ?_; clear hK K
  refine awp_forget [0, 1, 6, 7, 26] (by simp only [restr, List.contains_cons, List.contains_nil, Nat.reduceBEq, Bool.or_false, Bool.or_true, Bool.true_or, Bool.false_or, if_true, if_false, Bool.false_eq_true]; rfl) ?_
  refine awp_cond rfl (fun c0 => ?_) (fun c0 => ?_)
  · have d0 := c0; try simp at d0
    have hz : learnL n g k b d = ((0, g), 1) := by unfold learnL; rw [if_pos (by simpa [or_assoc] using d0)]
    refine awp_reg_seq fun K hK => ?_
    simp [go_sem, c0, d0]
    repeat refine ⟨by omega, ?_⟩
    refine hK _ ?_; clear hK K
    refine awp_ret ?_
    rw [hz]; simp [go_sem, Tryz.results35]
  · have d0 := c0; try simp at d0
    have hd0 : ¬(prsChk n g ≠ 0 ∨ datChk b ≠ 0 ∨ datChk d ≠ 0) := by simpa [or_assoc, and_assoc] using d0
    refine awp_skip ?_
    refine awp_reg_seq fun K hK => ?_
    simp [go_sem, c0, d0]
    repeat refine ⟨by omega, ?_⟩
    refine CSk.mk (person_index_cs _ c n g k hn) ?_
    simp [go_sem, c0, d0]
    repeat refine ⟨by omega, ?_⟩
    refine hK _ ?_; clear hK K
    refine awp_seq ?_
    refine awp_reg_seq fun K hK => ?_
    simp [go_sem, c0, d0]
    repeat refine ⟨by omega, ?_⟩
    refine hK _ ?_; clear hK K
    refine awp_forget [0, 6, 7, 10, 31] (by simp only [restr, List.contains_cons, List.contains_nil, Nat.reduceBEq, Bool.or_false, Bool.or_true, Bool.true_or, Bool.false_or, if_true, if_false, Bool.false_eq_true]; rfl) ?_
    refine awp_cond rfl (fun c1 => ?_) (fun c1 => ?_)
    · have d1 := c1; try simp at d1
      have hz : learnL n g k b d = ((0, g), 7) := by unfold learnL; rw [if_neg hd0, if_pos d1]
      refine awp_reg_seq fun K hK => ?_
      simp [go_sem, c0, d0, c1, d1]
      repeat refine ⟨by omega, ?_⟩
      refine hK _ ?_; clear hK K
      refine awp_ret ?_
      rw [hz]; simp [go_sem, Tryz.results35]
    · have d1 := c1; try simp at d1
      refine awp_skip ?_
      apply awp_own_seq 12 10 11 T.mixed (by kernel_rfl)
      · intro τ K hK
        simp [go_sem, c0, d0, c1, d1]
        repeat refine ⟨by omega, ?_⟩
        refine CSg.mk (person_learned_cs _ (g (findP n g k).toNat) b d (hN _ (by omega)) (loc_app hσ)) ?_
        simp [go_sem, c0, d0, c1, d1]
        repeat refine ⟨by omega, ?_⟩
        exact hK _ _
      intro K hK
      simp [go_sem, c0, d0, c1, d1]
      repeat refine ⟨by omega, ?_⟩
      refine hK _ ?_; clear hK K
      refine awp_seq ?_
      refine awp_reg_seq fun K hK => ?_
      simp [go_sem, c0, d0, c1, d1]
      repeat refine ⟨by omega, ?_⟩
      refine hK _ ?_; clear hK K
      refine awp_forget [0, 10, 11, 43] (by simp only [restr, List.contains_cons, List.contains_nil, Nat.reduceBEq, Bool.or_false, Bool.or_true, Bool.true_or, Bool.false_or, if_true, if_false, Bool.false_eq_true]; rfl) ?_
      refine awp_cond rfl (fun c2 => ?_) (fun c2 => ?_)
      · have d2 := c2; try simp at d2
        have hz : learnL n g k b d = ((0, g), 10) := by unfold learnL; rw [if_neg hd0, if_neg (by omega), if_pos d2]
        refine awp_reg_seq fun K hK => ?_
        simp [go_sem, c0, d0, c1, d1, c2, d2]
        repeat refine ⟨by omega, ?_⟩
        refine hK _ ?_; clear hK K
        refine awp_ret ?_
        rw [hz]; simp [go_sem, Tryz.results35]
      · have d2 := c2; try simp at d2
        have hz : learnL n g k b d = ((n, fun q => if q = (findP n g k).toNat then (learnR (g (findP n g k).toNat) b d).1 else g q), 0) := by unfold learnL; rw [if_neg hd0, if_neg (by omega), if_neg (by simp [d2])]
        refine awp_skip ?_
        refine awp_reg_seq fun K hK => ?_
        simp [go_sem, c0, d0, c1, d1, c2, d2]
        repeat refine ⟨by omega, ?_⟩
        refine CSk.gen (clonePrsM_cs _ c n g hn) ?_; rintro r σ' X ⟨rfl, rfl, rfl⟩
        simp [go_sem, c0, d0, c1, d1, c2, d2]
        repeat refine ⟨by omega, ?_⟩
        refine hK _ ?_; clear hK K
        refine awp_seq ?_
        refine awp_draw_seq 6 T.mixed (by kernel_rfl) fun K hK => ?_
        simp [go_sem, c0, d0, c1, d1, c2, d2]
        repeat refine ⟨by omega, ?_⟩
        refine hK _ ?_; clear hK K
        refine awp_forget [10, 11, 13, 51] (by simp only [restr, List.contains_cons, List.contains_nil, Nat.reduceBEq, Bool.or_false, Bool.or_true, Bool.true_or, Bool.false_or, if_true, if_false, Bool.false_eq_true]; rfl) ?_
        refine awp_cond rfl (fun c3 => ?_) (fun c3 => ?_)
        · have d3 := c3; try simp at d3
          refine awp_reg_end fun K hK => ?_
          simp [go_sem, c0, d0, c1, d1, c2, d2, c3, d3]
          repeat refine ⟨by omega, ?_⟩
          refine hK _ ?_; clear hK K
          refine awp_reg_seq fun K hK => ?_
          simp [go_sem, c0, d0, c1, d1, c2, d2, c3, d3]
          repeat refine ⟨by omega, ?_⟩
          refine hK _ ?_; clear hK K
          refine awp_freeze (σ.length + 3) (by simp [go_sem]; first | exact ⟨rfl, rfl, rfl⟩ | exact ⟨rfl, rfl⟩ | rfl) (by simp [go_sem]; rfl) (by simp [go_sem, hwf.frz, hwf.frz0]; rfl) ?_
          refine awp_ret ?_
          rw [hz]; simp [go_sem, Tryz.results35]
          intro i hi; split <;> simp_all
        · have d3 := c3; try simp at d3
          refine awp_skip ?_
          refine awp_reg_seq fun K hK => ?_
          simp [go_sem, c0, d0, c1, d1, c2, d2, c3, d3]
          repeat refine ⟨by omega, ?_⟩
          refine hK _ ?_; clear hK K
          refine awp_freeze (σ.length + 3) (by simp [go_sem]; first | exact ⟨rfl, rfl, rfl⟩ | exact ⟨rfl, rfl⟩ | rfl) (by simp [go_sem]; rfl) (by simp [go_sem, hwf.frz, hwf.frz0]; rfl) ?_
          refine awp_ret ?_
          rw [hz]; simp [go_sem, Tryz.results35]
          intro i hi; split <;> simp_all

end Go.Proofs.YtkochmppmpmddaaGreat

/-! Dd -/
namespace Go.Proofs.YtkochmppmpmddaaGreat
open Go.Abs Go.Arch
set_option linter.unusedVariables false
set_option linter.unusedSimpArgs false
set_option maxRecDepth 100000
set_option maxHeartbeats 400000

def Sbj.zero : Sbj := ⟨0, ⟨0, 0⟩, 0, 0, fun _ => 0⟩
structure Pol where
  ns : Nat
  gs : Nat → Sbj
  nc : Nat
  gc : Nat → Rule
  np : Nat
  gp : Nat → Prs
  Years : Int
  na : Nat
  ga : Nat → Agr
  nm : Nat
  gm : Nat → Pmt
def Pol.enc (p : Pol) : List D := [SL none 5 Sbj.enc p.ns p.gs, SL none 6 Rule.enc p.nc p.gc, SL none 6 Prs.enc p.np p.gp, I p.Years, SL none 6 Agr.enc p.na p.ga, SL none 6 Pmt.enc p.nm p.gm]
attribute [go_sem] Pol.enc
/-- small enough -/
structure PolOk (p : Pol) : Prop where
  ns : p.ns ≤ 1000
  nc : p.nc ≤ 1000
  np : p.np ≤ 1000
  na : p.na ≤ 1000
  nm : p.nm ≤ 1000
  ps : ∀ i, i < p.ns → (p.gs i).np ≤ 1000
  nn : ∀ i, i < p.np → (p.gp i).Name.size < 4294967281
def findS (n : Nat) (g : Nat → Sbj) (u : Int) : Int := idxFrom (fun r => r.Unit == u) (lst n g) 0
theorem findS_lt (n : Nat) (g : Nat → Sbj) (u : Int) : findS n g u < n := idx_lt' _ n g
def subjR (p : Pol) (u : Int) : Sbj × Bool := if findS p.ns p.gs u < 0 then (Sbj.zero, false) else (p.gs (findS p.ns p.gs u).toNat, true)
theorem subj_np {p : Pol} (h : PolOk p) (u : Int) : (subjR p u).1.np ≤ 1000 := by
  unfold subjR
  have := findS_lt p.ns p.gs u
  split
  · simp [Sbj.zero]
  · exact h.ps _ (by omega)
def hasP (n : Nat) (g : Nat → Prs) (u : Int) : Bool := (lst n g).any fun r => r.ID == u
theorem hasP_iff (n : Nat) (g : Nat → Prs) (u : Int) : hasP n g u = decide (0 ≤ findP n g u) := (idx_any _ _ _).symm
def subE1 (p : Pol) (s : Sbj) : Int := firstE (fun q => if hasP p.np p.gp (s.ps q) = false then 7 else 0) 0 s.np
def subE (p : Pol) (i : Nat) : Int := if idOk (p.gs i).Unit = false ∨ (p.gs i).Class < 0 ∨ 999 < (p.gs i).Class then 2 else if datChk (p.gs i).Made ≠ 0 then 1
  else if (0 < i ∧ (p.gs i).Unit ≤ (p.gs (i - 1)).Unit) ∨ ascB (p.gs i).ps (p.gs i).np = false then 5 else subE1 p (p.gs i)
def subChk (p : Pol) : Int := if 256 < p.ns then 8 else firstE (subE p) 0 p.ns
theorem find_has {n : Nat} {g : Nat → Prs} (h : prsChk n g = 0) (u : Int) : (findPR n g u).2 = hasP n g u := by
  rw [hasP_iff]; unfold findPR
  by_cases hf : findP n g u < 0
  · rw [if_pos (.inr hf)]; simp; omega
  · rw [if_neg (by rintro (h' | h'); exact h' h; exact hf h')]; simp; omega
def polE (p : Pol) (i : Nat) : Int := if i = 0 then check p.nc p.gc else if i = 1 then prsChk p.np p.gp else if i = 2 then agrChk p.na p.ga else pmtChk p.nm p.gm
def polChk (p : Pol) : Int := if firstE (polE p) 0 4 ≠ 0 then firstE (polE p) 0 4 else if p.Years < 0 ∨ 200 < p.Years then 2 else subChk p


theorem ref32_Grounds_cs (σ : List Blk) (c : Option Nat) (n : Nat) (g : Nat → Prs) (c' : Option Nat) (m : Nat) (ids : Nat → Int) (made : Dating) (y d : Int) (hn : n < 1000000000) (hm : m < 1000000000) (hN : ∀ i, i < n → (g i).Name.size < 4294967281) : CSF Tryz.prog 98 [.d (SL c 6 Prs.enc n g), .d (SL c' 1 encI m ids), .agg (made.enc.map .d), .d (I y), .d (I d)] σ (.tup [.d (SL none 4 Ground.enc (prsGr n g m ids made y d).1.length (nth (prsGr n g m ids made y d).1)), .d (I (prsGr n g m ids made y d).2)]) := by
  refine CSF.of_body T.en98 Tryz.func98 rfl (by simp [Tryz.ntmps98]) (by simp [go_sem]) fun hwf => ?_
  refine awp_reg_seq fun K hK => ?_
  simp [go_sem, Tryz.ntmps98]
  repeat refine ⟨by omega, ?_⟩
  refine hK _ ?_; clear hK K
  refine awp_seq ?_
  refine awp_reg_seq fun K hK => ?_
  simp [go_sem]
  repeat refine ⟨by omega, ?_⟩
  refine CSk.mk (ref32_Check_cs _ c n g hn hN) ?_
  simp [go_sem]
  repeat refine ⟨by omega, ?_⟩
  refine CSm.mk (ref03_Check_cs _ made) ?_
  simp [go_sem]
  repeat refine ⟨by omega, ?_⟩
  refine hK _ ?_; clear hK K
  refine awp_forget [0, 1, 3, 4, 7, 27] (by simp only [restr, List.contains_cons, List.contains_nil, Nat.reduceBEq, Bool.or_false, Bool.or_true, Bool.true_or, Bool.false_or, if_true, if_false, Bool.false_eq_true]; rfl) ?_
  refine awp_cond rfl (fun c0 => ?_) (fun c0 => ?_)
  · have d0 := c0; try simp at d0
    have hz : prsGr n g m ids made y d = ([], 1) := by unfold prsGr; rw [if_pos (by simpa using d0)]
    refine awp_reg_seq fun K hK => ?_
    simp [go_sem, c0, d0]
    repeat refine ⟨by omega, ?_⟩
    refine hK _ ?_; clear hK K
    refine awp_ret ?_
    rw [hz]; simp [go_sem, Tryz.results98]
  · have d0 := c0; try simp at d0
    refine awp_skip ?_
    refine awp_seq ?_
    refine awp_reg_seq fun K hK => ?_
    simp [go_sem, c0, d0]
    repeat refine ⟨by omega, ?_⟩
    refine hK _ ?_; clear hK K
    refine awp_forget [0, 1, 3, 4, 7, 41] (by simp only [restr, List.contains_cons, List.contains_nil, Nat.reduceBEq, Bool.or_false, Bool.or_true, Bool.true_or, Bool.false_or, if_true, if_false, Bool.false_eq_true]; rfl) ?_
    refine awp_cond rfl (fun c1 => ?_) (fun c1 => ?_)
    · have d1 := c1; try simp at d1
      have hz : prsGr n g m ids made y d = ([], 2) := by unfold prsGr; rw [if_neg (by simpa using d0), if_pos (by omega)]
      refine awp_reg_seq fun K hK => ?_
      simp [go_sem, c0, d0, c1, d1]
      repeat refine ⟨by omega, ?_⟩
      refine hK _ ?_; clear hK K
      refine awp_ret ?_
      rw [hz]; simp [go_sem, Tryz.results98]
    · have d1 := c1; try simp at d1
      refine awp_skip ?_
      refine awp_seq ?_
      refine awp_reg_seq fun K hK => ?_
      simp [go_sem, c0, d0, c1, d1]
      repeat refine ⟨by omega, ?_⟩
      refine hK _ ?_; clear hK K
      refine awp_block ?_
      refine awp_forget [0, 1, 3, 4, 7, 43, 44] (by simp [go_sem, restr]; rfl) ?_
      refine awp_loopU (α := Nat) (fun i => [(44, .d (I i))]) (fun i => _) (fun i => i ≤ m ∧ ∀ q, 0 < q → q < i → ids (q - 1) < ids q) (fun i => m - i) 0 (by simp [go_sem]) rfl (by simp) ?_
      rintro i ⟨hi, hx⟩
      refine awp_reg_seq fun K hK => ?_
      simp [go_sem, c0, d0, c1, d1, wrap_pred (i := i) (by omega)]
      repeat refine ⟨by omega, ?_⟩
      refine hK _ ?_; clear hK K
      refine awp_seq ?_
      refine awp_forget [0, 1, 3, 4, 7, 43, 44, 45] (by simp only [restr, List.contains_cons, List.contains_nil, Nat.reduceBEq, Bool.or_false, Bool.or_true, Bool.true_or, Bool.false_or, if_true, if_false, Bool.false_eq_true]; rfl) ?_
      refine awp_cond rfl (fun c2 => ?_) (fun c2 => ?_)
      · have d2 := c2; try simp at d2
        refine awp_skip ?_
        refine awp_seq ?_
        refine awp_block ?_
        refine awp_reg_seq fun K hK => ?_
        simp [go_sem, c0, d0, c1, d1, wrap_pred (i := i) (by omega), c2, d2]
        repeat refine ⟨by omega, ?_⟩
        refine hK _ ?_; clear hK K
        refine awp_draw_seq 14 T.mixed (by kernel_rfl) fun K hK => ?_
        simp [go_sem, c0, d0, c1, d1, wrap_pred (i := i) (by omega), c2, d2]
        try simp (disch := omega) only [wrapI]
        repeat refine ⟨by omega, ?_⟩
        refine hK _ ?_; clear hK K
        refine awp_forget [0, 1, 3, 4, 7, 43, 44, 60] (by simp only [restr, List.contains_cons, List.contains_nil, Nat.reduceBEq, Bool.or_false, Bool.or_true, Bool.true_or, Bool.false_or, if_true, if_false, Bool.false_eq_true]; rfl) ?_
        refine awp_cond rfl (fun c3 => ?_) (fun c3 => ?_)
        · have d3 := c3; try simp at d3
          have hz : prsGr n g m ids made y d = ([], 5) := by unfold prsGr; rw [if_neg (by simpa using d0), if_neg (by omega), if_pos (asc_no d2 d3.1 d3.2)]
          refine awp_reg_seq fun K hK => ?_
          simp [go_sem, c0, d0, c1, d1, wrap_pred (i := i) (by omega), c2, d2, c3, d3]
          repeat refine ⟨by omega, ?_⟩
          refine hK _ ?_; clear hK K
          refine awp_ret ?_
          rw [hz]; simp [go_sem, Tryz.results98]
        · have d3 := c3; try simp at d3
          refine awp_skip ?_
          refine awp_reg_end fun K hK => ?_
          simp [go_sem, c0, d0, c1, d1, wrap_pred (i := i) (by omega), c2, d2, c3, d3]
          try simp (disch := omega) only [wrapI]
          repeat refine ⟨by omega, ?_⟩
          refine hK _ ?_; clear hK K
          refine ⟨i + 1, back_of' (by simp) (.refl _) (by (simp [go_sem, wrap_succ (i := i) (by omega), c0, d0, c1, d1, wrap_pred (i := i) (by omega), c2, d2, c3, d3] <;> omega)), ⟨by omega, asc_step hx d3⟩, by first | omega | (dsimp only; omega)⟩
      · have d2 := c2; try simp at d2
        have him : i = m := by omega
        rw [him] at hx
        have ha := asc_yes hx
        refine awp_exit ?_
        refine awp_reg_seq fun K hK => ?_
        simp [go_sem, c0, d0, c1, d1, wrap_pred (i := i) (by omega), c2, d2]
        repeat refine ⟨by omega, ?_⟩
        refine hK _ ?_; clear hK K
        refine awp_seq ?_
        refine awp_thawT 13 4 (fun i => Ground.enc (nth ([] : List Ground) i)) (by simp [go_sem]) (by simp [go_sem]; rfl) ?_
        refine awp_reg_seq fun K hK => ?_
        simp [go_sem, c0, d0, c1, d1, wrap_pred (i := i) (by omega), c2, d2]
        repeat refine ⟨by omega, ?_⟩
        refine hK _ ?_; clear hK K
        refine awp_block ?_
        refine awp_forget [0, 3, 4, 7, 13, 62, 63, 64] (by simp [go_sem, restr]; rfl) ?_
        refine awp_mv [σ.length + 1] (by simp) ?_
        refine awp_loopU (α := Nat) (fun q => [(13, .ms (σ.length + 1) 4 0 (gather (prsGf n g ids made y d) q).length), (64, .d (I q))]) (fun q => σ ++ [.var [.d (I made.First), .d (I made.Last)], .arr 4 (gather (prsGf n g ids made y d) q).length (fun k => Ground.enc (nth (gather (prsGf n g ids made y d) q) k))]) (fun q => q ≤ m ∧ ∀ k, k < q → 0 ≤ findP n g (ids k)) (fun q => m - q) 0 (by simp [go_sem, gather]) rfl (by simp) ?_
        rintro q ⟨hq, hf⟩
        refine awp_reg_seq fun K hK => ?_
        simp [go_sem, c0, d0, c1, d1, wrap_pred (i := i) (by omega), c2, d2]
        repeat refine ⟨by omega, ?_⟩
        refine hK _ ?_; clear hK K
        refine awp_seq ?_
        refine awp_forget [0, 3, 4, 7, 13, 62, 63, 64, 65] (by simp only [restr, List.contains_cons, List.contains_nil, Nat.reduceBEq, Bool.or_false, Bool.or_true, Bool.true_or, Bool.false_or, if_true, if_false, Bool.false_eq_true]; rfl) ?_
        refine awp_cond rfl (fun c4 => ?_) (fun c4 => ?_)
        · have d4 := c4; try simp at d4
          have hl := gather_len (prsGf_len n g ids made y d) q
          have hlt := findP_lt n g (ids q)
          refine awp_skip ?_
          refine awp_seq ?_
          refine awp_block ?_
          refine awp_reg_seq fun K hK => ?_
          simp [go_sem, c0, d0, c1, d1, wrap_pred (i := i) (by omega), c2, d2, c4, d4]
          repeat refine ⟨by omega, ?_⟩
          refine hK _ ?_; clear hK K
          refine awp_reg_seq fun K hK => ?_
          simp [go_sem, c0, d0, c1, d1, wrap_pred (i := i) (by omega), c2, d2, c4, d4]
          repeat refine ⟨by omega, ?_⟩
          refine CSk.mk (ref32_Find_cs _ c n g (ids q) hn hN) ?_
          simp [go_sem, c0, d0, c1, d1, wrap_pred (i := i) (by omega), c2, d2, c4, d4]
          repeat refine ⟨by omega, ?_⟩
          refine hK _ ?_; clear hK K
          refine awp_seq ?_
          refine awp_reg_seq fun K hK => ?_
          simp [go_sem, c0, d0, c1, d1, wrap_pred (i := i) (by omega), c2, d2, c4, d4]
          repeat refine ⟨by omega, ?_⟩
          refine hK _ ?_; clear hK K
          refine awp_forget [0, 3, 4, 7, 13, 15, 16, 62, 63, 64, 75] (by simp only [restr, List.contains_cons, List.contains_nil, Nat.reduceBEq, Bool.or_false, Bool.or_true, Bool.true_or, Bool.false_or, if_true, if_false, Bool.false_eq_true]; rfl) ?_
          refine awp_cond rfl (fun c5 => ?_) (fun c5 => ?_)
          · have d5 := c5; try simp at d5
            have hge : findP n g (ids q) < 0 := by
              apply Classical.byContradiction; intro h
              have : findPR n g (ids q) = (g (findP n g (ids q)).toNat, true) := by unfold findPR; rw [if_neg (by rintro (h' | h'); exact h' d0.1; omega)]
              rw [this] at d5; simp at d5
            have hz : prsGr n g m ids made y d = ([], 7) := by unfold prsGr; rw [if_neg (by simpa using d0), if_neg (by omega), if_neg (by simp [ha]), if_pos (firstE_at (q := q) (by omega) (by omega) (by unfold grE; rw [if_pos hge]; decide))]
            refine awp_reg_seq fun K hK => ?_
            simp [go_sem, c0, d0, c1, d1, wrap_pred (i := i) (by omega), c2, d2, c4, d4, c5, d5]
            repeat refine ⟨by omega, ?_⟩
            refine hK _ ?_; clear hK K
            refine awp_ret ?_
            rw [hz]; simp [go_sem, Tryz.results98]
          · have d5 := c5; try simp at d5
            have hge : 0 ≤ findP n g (ids q) := by
              apply Classical.byContradiction; intro h
              have : findPR n g (ids q) = (Prs.zero, false) := by unfold findPR; rw [if_pos (.inr (by omega))]
              rw [this] at d5; simp at d5
            have hfr : findPR n g (ids q) = (g (findP n g (ids q)).toNat, true) := by unfold findPR; rw [if_neg (by rintro (h' | h'); exact h' d0.1; omega)]
            have hu : (untilPR (findPR n g (ids q)).1 made y).1 = untilP (g (findP n g (ids q)).toNat) made y := by rw [hfr]; unfold untilPR; rw [if_neg (by simp [(prs_ok d0.1).2 (findP n g (ids q)).toNat (by omega), d0.2]), if_neg (by omega)]
            have hNf : (findPR n g (ids q)).1.Name.size < 4294967281 := by rw [hfr]; exact hN _ (by omega)
            refine awp_skip ?_
            refine awp_reg_seq fun K hK => ?_
            simp [go_sem, c0, d0, c1, d1, wrap_pred (i := i) (by omega), c2, d2, c4, d4, c5, d5, hu]
            repeat refine ⟨by omega, ?_⟩
            refine CSk.mk (ref32_Until_cs _ (findPR n g (ids q)).1 made y hNf) ?_
            simp [go_sem, c0, d0, c1, d1, wrap_pred (i := i) (by omega), c2, d2, c4, d4, c5, d5, hu]
            repeat refine ⟨by omega, ?_⟩
            refine hK _ ?_; clear hK K
            refine awp_reg_seq fun K hK => ?_
            simp [go_sem, c0, d0, c1, d1, wrap_pred (i := i) (by omega), c2, d2, c4, d4, c5, d5, hu]
            repeat refine ⟨by omega, ?_⟩
            refine hK _ ?_; clear hK K
            refine awp_forget [0, 3, 4, 7, 13, 15, 18, 62, 63, 64, 85] (by simp only [restr, List.contains_cons, List.contains_nil, Nat.reduceBEq, Bool.or_false, Bool.or_true, Bool.true_or, Bool.false_or, if_true, if_false, Bool.false_eq_true]; rfl) ?_
            refine awp_cond rfl (fun c6 => ?_) (fun c6 => ?_)
            · have d6 := c6; try simp at d6
              have hg : gather (prsGf n g ids made y d) (q + 1) = gather (prsGf n g ids made y d) q ++ [prsGd (ids q) (untilP (g (findP n g (ids q)).toNat) made y)] := by rw [gather, prsGf, if_pos d6]
              refine awp_reg_end fun K hK => ?_
              simp [go_sem, c0, d0, c1, d1, wrap_pred (i := i) (by omega), c2, d2, c4, d4, c5, d5, hu, c6, d6, hg, hwf.one, hwf.zero]
              repeat refine ⟨by omega, ?_⟩
              refine hK _ ?_; clear hK K
              refine awp_rows (σ.length + 1) (fun k => Ground.enc (nth (gather (prsGf n g ids made y d) q ++ [prsGd (ids q) (untilP (g (findP n g (ids q)).toNat) made y)]) k)) (by simp [go_sem]; first | exact ⟨rfl, rfl, rfl⟩ | exact ⟨rfl, rfl⟩ | rfl) (by exact fun k hk => cat_nth (enc := Ground.enc) (x := prsGd (ids q) (untilP (g (findP n g (ids q)).toNat) made y)) rfl hk) (by simp [go_sem]; rfl) ?_
              refine awp_reg_end fun K hK => ?_
              simp [go_sem, c0, d0, c1, d1, wrap_pred (i := i) (by omega), c2, d2, c4, d4, c5, d5, hu, c6, d6, hg]
              try simp (disch := omega) only [wrapI]
              repeat refine ⟨by omega, ?_⟩
              refine hK _ ?_; clear hK K
              refine ⟨q + 1, back_of' (by simp [go_sem, wrap_succ (i := q) (by omega), c0, d0, c1, d1, wrap_pred (i := i) (by omega), c2, d2, c4, d4, c5, d5, hu, c6, d6, hg]) ((leaves_app (by simp [go_sem]))) (by (simp [go_sem, wrap_succ (i := q) (by omega), c0, d0, c1, d1, wrap_pred (i := i) (by omega), c2, d2, c4, d4, c5, d5, hu, c6, d6, hg] <;> omega)), ⟨by omega, fun k hk => by rcases Nat.lt_or_eq_of_le (Nat.le_of_lt_succ hk) with h | h; exact hf k h; rw [h]; omega⟩, by first | omega | (dsimp only; omega)⟩
            · have d6 := c6; try simp at d6
              have hg : gather (prsGf n g ids made y d) (q + 1) = gather (prsGf n g ids made y d) q := by rw [gather, prsGf, if_neg (by omega)]; simp
              refine awp_skip ?_
              refine awp_reg_end fun K hK => ?_
              simp [go_sem, c0, d0, c1, d1, wrap_pred (i := i) (by omega), c2, d2, c4, d4, c5, d5, hu, c6, d6, hg]
              try simp (disch := omega) only [wrapI]
              repeat refine ⟨by omega, ?_⟩
              refine hK _ ?_; clear hK K
              refine ⟨q + 1, back_of' (by simp [go_sem, wrap_succ (i := q) (by omega), c0, d0, c1, d1, wrap_pred (i := i) (by omega), c2, d2, c4, d4, c5, d5, hu, c6, d6, hg]) ((leaves_app (by simp [go_sem]))) (by (simp [go_sem, wrap_succ (i := q) (by omega), c0, d0, c1, d1, wrap_pred (i := i) (by omega), c2, d2, c4, d4, c5, d5, hu, c6, d6, hg] <;> omega)), ⟨by omega, fun k hk => by rcases Nat.lt_or_eq_of_le (Nat.le_of_lt_succ hk) with h | h; exact hf k h; rw [h]; omega⟩, by first | omega | (dsimp only; omega)⟩
        · have d4 := c4; try simp at d4
          obtain rfl : q = m := by omega
          have hz : prsGr n g q ids made y d = (gather (prsGf n g ids made y d) q, 0) := by unfold prsGr; rw [if_neg (by simpa using d0), if_neg (by omega), if_neg (by simp [ha]), if_neg (by simp only [ne_eq, Decidable.not_not]; exact firstE_of fun k h1 h2 => by unfold grE; rw [if_neg (by have := hf k (by omega); omega)])]
          refine awp_exit ?_
          refine awp_reg_seq fun K hK => ?_
          simp [go_sem, c0, d0, c1, d1, wrap_pred (i := i) (by omega), c2, d2, c4, d4]
          repeat refine ⟨by omega, ?_⟩
          refine hK _ ?_; clear hK K
          refine awp_freeze (σ.length + 1) (by simp [go_sem]; first | exact ⟨rfl, rfl, rfl⟩ | exact ⟨rfl, rfl⟩ | rfl) (by simp [go_sem]; rfl) (by simp [go_sem, hwf.frz, hwf.frz0]; rfl) ?_
          refine awp_ret ?_
          rw [hz]; simp [go_sem, Tryz.results98]

theorem policy_subject_1_cs (σ : List Blk) (τ : List Blk) (r : Sbj) (u : Int) : CSF Tryz.prog 134 [.agg (r.enc.map .d), .ptr σ.length 0] (σ ++ .var [.d (I u)] :: τ) (.d (B (r.Unit == u))) := by
  refine CSF.of_body T.en134 Tryz.func134 rfl (by simp [Tryz.ntmps134]) (by simp [go_sem]) fun hwf => ?_
  refine awp_reg_seq fun K hK => ?_
  simp [go_sem, Tryz.ntmps134]
  repeat refine ⟨by omega, ?_⟩
  refine hK _ ?_; clear hK K
  refine awp_reg_seq fun K hK => ?_
  simp [go_sem]
  repeat refine ⟨by omega, ?_⟩
  refine hK _ ?_; clear hK K
  refine awp_ret ?_
  simp [go_sem, Tryz.results134] <;> omega

theorem policy_subject_cs (σ : List Blk) (p : Pol) (u : Int) (hp : PolOk p) : CSF Tryz.prog 102 [.agg (p.enc.map .d), .d (I u)] σ (.tup [.agg ((subjR p u).1.enc.map .d), .d (B (subjR p u).2)]) := by
  have hlt := findS_lt p.ns p.gs u
  unfold findS at hlt
  refine CSF.of_body T.en102 Tryz.func102 rfl (by simp [Tryz.ntmps102]) (by simp [go_sem]) fun hwf => ?_
  refine awp_reg_seq fun K hK => ?_
  simp [go_sem, Tryz.ntmps102]
  repeat refine ⟨by omega, ?_⟩
  refine hK _ ?_; clear hK K
  refine awp_reg_seq fun K hK => ?_
  simp [go_sem]
  repeat refine ⟨by omega, ?_⟩
  refine CSk.mk (indexSbj_cs _ none p.ns p.gs _ _ (fun r => r.Unit == u) (by have := hp.ns; omega) (fun i hi => by have h := policy_subject_1_cs (σ ++ [.var (p.enc.map .d)]) [.var [.d (I 0), .d (I 0), .d (I 0), .d (I 0), .d (.v (.slice none 0 0))]] (p.gs i) u; simp only [List.append_assoc, List.cons_append, List.nil_append, List.length_append, List.length_cons, List.length_nil, Nat.zero_add, Nat.reduceAdd] at h; exact h)) ?_
  simp [go_sem]
  repeat refine ⟨by omega, ?_⟩
  refine hK _ ?_; clear hK K
  refine awp_seq ?_
  refine awp_reg_seq fun K hK => ?_
  simp [go_sem]
  repeat refine ⟨by omega, ?_⟩
  refine hK _ ?_; clear hK K
  refine awp_forget [2, 4, 6, 12] (by simp only [restr, List.contains_cons, List.contains_nil, Nat.reduceBEq, Bool.or_false, Bool.or_true, Bool.true_or, Bool.false_or, if_true, if_false, Bool.false_eq_true]; rfl) ?_
  refine awp_cond rfl (fun c0 => ?_) (fun c0 => ?_)
  · have d0 := c0; try simp at d0
    have hz : subjR p u = (Sbj.zero, false) := by unfold subjR findS; rw [if_pos d0]
    refine awp_reg_seq fun K hK => ?_
    simp [go_sem, c0, d0]
    repeat refine ⟨by omega, ?_⟩
    refine hK _ ?_; clear hK K
    refine awp_ret ?_
    rw [hz]; simp [go_sem, Tryz.results102, Sbj.zero]
  · have d0 := c0; try simp at d0
    have hz : subjR p u = (p.gs (findS p.ns p.gs u).toNat, true) := by unfold subjR findS; rw [if_neg (by omega)]
    unfold findS at hz
    refine awp_skip ?_
    refine awp_reg_seq fun K hK => ?_
    simp [go_sem, c0, d0]
    repeat refine ⟨by omega, ?_⟩
    refine hK _ ?_; clear hK K
    refine awp_ret ?_
    rw [hz]; simp [go_sem, Tryz.results102]

theorem policy_subjects_1_cs (σ : List Blk) (τ : List Blk) (r : Prs) (u : Int) : CSF Tryz.prog 86 [.agg (r.enc.map .d), .ptr σ.length 0] (σ ++ .var [.d (I u)] :: τ) (.d (B (r.ID == u))) := by
  refine CSF.of_body T.en86 Tryz.func86 rfl (by simp [Tryz.ntmps86]) (by simp [go_sem]) fun hwf => ?_
  refine awp_reg_seq fun K hK => ?_
  simp [go_sem, Tryz.ntmps86]
  repeat refine ⟨by omega, ?_⟩
  refine hK _ ?_; clear hK K
  refine awp_reg_seq fun K hK => ?_
  simp [go_sem]
  repeat refine ⟨by omega, ?_⟩
  refine hK _ ?_; clear hK K
  refine awp_ret ?_
  simp [go_sem, Tryz.results86] <;> omega

theorem policy_subjects_cs (σ : List Blk) (p : Pol) (hp : PolOk p) : CSF Tryz.prog 51 [.agg (p.enc.map .d)] σ (.d (I (subChk p))) := by
  refine CSF.of_body T.en51 Tryz.func51 rfl (by simp [Tryz.ntmps51]) (by simp [go_sem]) fun hwf => ?_
  refine awp_reg_seq fun K hK => ?_
  simp [go_sem, Tryz.ntmps51]
  repeat refine ⟨by omega, ?_⟩
  refine hK _ ?_; clear hK K
  refine awp_seq ?_
  refine awp_reg_seq fun K hK => ?_
  simp [go_sem]
  repeat refine ⟨by omega, ?_⟩
  refine hK _ ?_; clear hK K
  refine awp_forget [1, 10] (by simp only [restr, List.contains_cons, List.contains_nil, Nat.reduceBEq, Bool.or_false, Bool.or_true, Bool.true_or, Bool.false_or, if_true, if_false, Bool.false_eq_true]; rfl) ?_
  refine awp_cond rfl (fun c0 => ?_) (fun c0 => ?_)
  · have d0 := c0; try simp at d0
    refine awp_reg_seq fun K hK => ?_
    simp [go_sem, c0, d0]
    repeat refine ⟨by omega, ?_⟩
    refine hK _ ?_; clear hK K
    refine awp_ret ?_
    simp [go_sem, Tryz.results51, subChk, c0, d0] <;> omega
  · have d0 := c0; try simp at d0
    refine awp_skip ?_
    refine awp_seq ?_
    refine awp_reg_seq fun K hK => ?_
    simp [go_sem, c0, d0]
    repeat refine ⟨by omega, ?_⟩
    refine hK _ ?_; clear hK K
    refine awp_block ?_
    refine awp_forget [1, 12, 13, 14] (by simp [go_sem, restr]; rfl) ?_
    refine awp_loopU (α := Nat) (fun i => [(14, .d (I i))]) (fun i => σ ++ [.var (p.enc.map .d)]) (fun i => i ≤ p.ns ∧ firstE (subE p) 0 p.ns = firstE (subE p) i (p.ns - i)) (fun i => p.ns - i) 0 (by simp [go_sem]) rfl (by simp) ?_
    rintro i ⟨hi, hx⟩
    refine awp_reg_seq fun K hK => ?_
    simp [go_sem, c0, d0, hi, wrap_pred (i := i) (by have := hp.ns; omega)]
    repeat refine ⟨by omega, ?_⟩
    refine hK _ ?_; clear hK K
    refine awp_seq ?_
    refine awp_forget [1, 12, 13, 14, 15] (by simp only [restr, List.contains_cons, List.contains_nil, Nat.reduceBEq, Bool.or_false, Bool.or_true, Bool.true_or, Bool.false_or, if_true, if_false, Bool.false_eq_true]; rfl) ?_
    refine awp_cond rfl (fun c1 => ?_) (fun c1 => ?_)
    · have d1 := c1; try simp at d1
      obtain ⟨k, hk⟩ : ∃ k, p.ns - i = k + 1 := ⟨p.ns - i - 1, by omega⟩
      have hk' : p.ns - (i + 1) = k := by omega
      rw [hk, firstE] at hx
      refine awp_skip ?_
      refine awp_seq ?_
      refine awp_block ?_
      refine awp_reg_seq fun K hK => ?_
      simp [go_sem, c0, d0, hi, wrap_pred (i := i) (by have := hp.ns; omega), c1, d1]
      repeat refine ⟨by omega, ?_⟩
      refine hK _ ?_; clear hK K
      refine awp_seq ?_
      refine awp_block ?_
      refine awp_reg_seq fun K hK => ?_
      simp [go_sem, c0, d0, hi, wrap_pred (i := i) (by have := hp.ns; omega), c1, d1]
      repeat refine ⟨by omega, ?_⟩
      refine CSk.mk (policy_id_cs _ (p.gs i).Unit) ?_
      simp [go_sem, c0, d0, hi, wrap_pred (i := i) (by have := hp.ns; omega), c1, d1]
      repeat refine ⟨by omega, ?_⟩
      refine hK _ ?_; clear hK K
      refine awp_forget [1, 3, 4, 12, 13, 14, 19] (by simp only [restr, List.contains_cons, List.contains_nil, Nat.reduceBEq, Bool.or_false, Bool.or_true, Bool.true_or, Bool.false_or, if_true, if_false, Bool.false_eq_true]; rfl) ?_
      refine awp_cond rfl (fun c2 => ?_) (fun c2 => ?_)
      · have d2 := c2; try simp at d2
        have he : subE p i = 2 := by unfold subE; rw [if_pos (by simpa [or_assoc] using d2)]
        rw [he] at hx; simp at hx
        refine awp_reg_seq fun K hK => ?_
        simp [go_sem, c0, d0, hi, wrap_pred (i := i) (by have := hp.ns; omega), c1, d1, c2, d2]
        repeat refine ⟨by omega, ?_⟩
        refine hK _ ?_; clear hK K
        refine awp_ret ?_
        simp [go_sem, Tryz.results51, subChk, hx, c0, d0, hi, wrap_pred (i := i) (by have := hp.ns; omega), c1, d1, c2, d2] <;> omega
      · have d2 := c2; try simp at d2
        have hd2 : ¬(idOk (p.gs i).Unit = false ∨ (p.gs i).Class < 0 ∨ 999 < (p.gs i).Class) := by
          rintro (h | h | h)
          · have := d2.1.1; rw [h] at this; cases this
          · omega
          · omega
        refine awp_reg_seq fun K hK => ?_
        simp [go_sem, c0, d0, hi, wrap_pred (i := i) (by have := hp.ns; omega), c1, d1, c2, d2]
        repeat refine ⟨by omega, ?_⟩
        refine CSk.mk (dating_Check_cs _ (p.gs i).Made) ?_
        simp [go_sem, c0, d0, hi, wrap_pred (i := i) (by have := hp.ns; omega), c1, d1, c2, d2]
        repeat refine ⟨by omega, ?_⟩
        refine hK _ ?_; clear hK K
        refine awp_forget [1, 3, 4, 12, 13, 14, 34] (by simp only [restr, List.contains_cons, List.contains_nil, Nat.reduceBEq, Bool.or_false, Bool.or_true, Bool.true_or, Bool.false_or, if_true, if_false, Bool.false_eq_true]; rfl) ?_
        refine awp_cond rfl (fun c3 => ?_) (fun c3 => ?_)
        · have d3 := c3; try simp at d3
          have he : subE p i = 1 := by unfold subE; rw [if_neg hd2, if_pos d3]
          rw [he] at hx; simp at hx
          refine awp_reg_seq fun K hK => ?_
          simp [go_sem, c0, d0, hi, wrap_pred (i := i) (by have := hp.ns; omega), c1, d1, c2, d2, c3, d3]
          repeat refine ⟨by omega, ?_⟩
          refine hK _ ?_; clear hK K
          refine awp_ret ?_
          simp [go_sem, Tryz.results51, subChk, hx, c0, d0, hi, wrap_pred (i := i) (by have := hp.ns; omega), c1, d1, c2, d2, c3, d3] <;> omega
        · have d3 := c3; try simp at d3
          refine awp_draw_seq 21 T.mixed (by kernel_rfl) fun K hK => ?_
          simp [go_sem, c0, d0, hi, wrap_pred (i := i) (by have := hp.ns; omega), c1, d1, c2, d2, c3, d3]
          try simp (disch := omega) only [wrapI]
          repeat refine ⟨by omega, ?_⟩
          refine CSg.mk (policy_increase_cs _ none (p.gs i).np (p.gs i).ps (by have := hp.ps i d1; omega)) ?_
          simp [go_sem, c0, d0, hi, wrap_pred (i := i) (by have := hp.ns; omega), c1, d1, c2, d2, c3, d3]
          try simp (disch := omega) only [wrapI]
          repeat refine ⟨by omega, ?_⟩
          refine hK _ ?_; clear hK K
          refine awp_forget [1, 4, 12, 13, 14, 39] (by simp only [restr, List.contains_cons, List.contains_nil, Nat.reduceBEq, Bool.or_false, Bool.or_true, Bool.true_or, Bool.false_or, if_true, if_false, Bool.false_eq_true]; rfl) ?_
          refine awp_cond rfl (fun c4 => ?_) (fun c4 => ?_)
          · have d4 := c4; try simp at d4
            have he : subE p i = 5 := by unfold subE; rw [if_neg hd2, if_neg (by simp [d3]), if_pos d4]
            rw [he] at hx; simp at hx
            refine awp_reg_seq fun K hK => ?_
            simp [go_sem, c0, d0, hi, wrap_pred (i := i) (by have := hp.ns; omega), c1, d1, c2, d2, c3, d3, c4, d4]
            repeat refine ⟨by omega, ?_⟩
            refine hK _ ?_; clear hK K
            refine awp_ret ?_
            simp [go_sem, Tryz.results51, subChk, hx, c0, d0, hi, wrap_pred (i := i) (by have := hp.ns; omega), c1, d1, c2, d2, c3, d3, c4, d4] <;> omega
          · have d4 := c4; try simp at d4
            have he : subE p i = subE1 p (p.gs i) := by
              unfold subE
              rw [if_neg hd2, if_neg (by simp [d3]), if_neg]
              rintro (h | h)
              · have := d4.1 h.1; omega
              · have := d4.2; rw [h] at this; cases this
            refine awp_skip ?_
            refine awp_reg_seq fun K hK => ?_
            simp [go_sem, c0, d0, hi, wrap_pred (i := i) (by have := hp.ns; omega), c1, d1, c2, d2, c3, d3, c4, d4]
            repeat refine ⟨by omega, ?_⟩
            refine hK _ ?_; clear hK K
            refine awp_block ?_
            refine awp_forget [1, 12, 13, 14, 61, 62, 63] (by simp [go_sem, restr]; rfl) ?_
            refine awp_loopU (α := Nat) (fun q => [(63, .d (I q))]) (fun q => σ ++ [.var (p.enc.map .d), .var ((p.gs i).enc.map .d)]) (fun q => q ≤ (p.gs i).np ∧ subE1 p (p.gs i) = firstE (fun q => if hasP p.np p.gp ((p.gs i).ps q) = false then 7 else 0) q ((p.gs i).np - q)) (fun q => (p.gs i).np - q) 0 (by simp [go_sem]) rfl (⟨by omega, rfl⟩) ?_
            rintro q ⟨hq, hy⟩
            refine awp_reg_seq fun K hK => ?_
            simp [go_sem, c0, d0, hi, wrap_pred (i := i) (by have := hp.ns; omega), c1, d1, c2, d2, c3, d3, c4, d4]
            repeat refine ⟨by omega, ?_⟩
            refine hK _ ?_; clear hK K
            refine awp_seq ?_
            refine awp_forget [1, 12, 13, 14, 61, 62, 63, 64] (by simp only [restr, List.contains_cons, List.contains_nil, Nat.reduceBEq, Bool.or_false, Bool.or_true, Bool.true_or, Bool.false_or, if_true, if_false, Bool.false_eq_true]; rfl) ?_
            refine awp_cond rfl (fun c5 => ?_) (fun c5 => ?_)
            · have d5 := c5; try simp at d5
              obtain ⟨j, hj⟩ : ∃ j, (p.gs i).np - q = j + 1 := ⟨(p.gs i).np - q - 1, by omega⟩
              have hj' : (p.gs i).np - (q + 1) = j := by omega
              rw [hj, firstE] at hy
              refine awp_skip ?_
              refine awp_seq ?_
              refine awp_block ?_
              refine awp_reg_seq fun K hK => ?_
              simp [go_sem, c0, d0, hi, wrap_pred (i := i) (by have := hp.ns; omega), c1, d1, c2, d2, c3, d3, c4, d4, c5, d5]
              repeat refine ⟨by omega, ?_⟩
              refine hK _ ?_; clear hK K
              refine awp_reg_seq fun K hK => ?_
              simp [go_sem, c0, d0, hi, wrap_pred (i := i) (by have := hp.ns; omega), c1, d1, c2, d2, c3, d3, c4, d4, c5, d5]
              repeat refine ⟨by omega, ?_⟩
              refine CSk.mk (containsPrs_cs _ none p.np p.gp _ _ (fun r => r.ID == (p.gs i).ps q) (by have := hp.np; omega) (fun k hk => by have h := policy_subjects_1_cs (σ ++ [.var (p.enc.map .d), .var ((p.gs i).enc.map .d)]) [] (p.gp k) ((p.gs i).ps q); simp only [List.append_assoc, List.cons_append, List.nil_append, List.length_append, List.length_cons, List.length_nil, Nat.zero_add, Nat.reduceAdd] at h; exact h)) ?_
              simp [go_sem, c0, d0, hi, wrap_pred (i := i) (by have := hp.ns; omega), c1, d1, c2, d2, c3, d3, c4, d4, c5, d5]
              repeat refine ⟨by omega, ?_⟩
              refine hK _ ?_; clear hK K
              refine awp_forget [1, 12, 13, 14, 61, 62, 63, 71] (by simp only [restr, List.contains_cons, List.contains_nil, Nat.reduceBEq, Bool.or_false, Bool.or_true, Bool.true_or, Bool.false_or, if_true, if_false, Bool.false_eq_true]; rfl) ?_
              refine awp_cond rfl (fun c6 => ?_) (fun c6 => ?_)
              · have d6 := c6; try simp at d6
                have hh : hasP p.np p.gp ((p.gs i).ps q) = false := by unfold hasP; simpa using c6
                simp only [hh, if_true] at hy
                rw [he, hy] at hx
                simp at hx
                refine awp_reg_seq fun K hK => ?_
                simp [go_sem, c0, d0, hi, wrap_pred (i := i) (by have := hp.ns; omega), c1, d1, c2, d2, c3, d3, c4, d4, c5, d5, c6, d6]
                repeat refine ⟨by omega, ?_⟩
                refine hK _ ?_; clear hK K
                refine awp_ret ?_
                simp [go_sem, Tryz.results51, subChk, hx, c0, d0, hi, wrap_pred (i := i) (by have := hp.ns; omega), c1, d1, c2, d2, c3, d3, c4, d4, c5, d5, c6, d6] <;> omega
              · have d6 := c6; try simp at d6
                have hh : hasP p.np p.gp ((p.gs i).ps q) = true := by unfold hasP; simpa using c6
                simp only [hh, Bool.true_eq_false, if_false] at hy
                simp at hy
                refine awp_skip ?_
                refine awp_reg_end fun K hK => ?_
                simp [go_sem, c0, d0, hi, wrap_pred (i := i) (by have := hp.ns; omega), c1, d1, c2, d2, c3, d3, c4, d4, c5, d5, c6, d6]
                try simp (disch := omega) only [wrapI]
                repeat refine ⟨by omega, ?_⟩
                refine hK _ ?_; clear hK K
                refine ⟨q + 1, back_of' (by simp [go_sem, wrap_succ (i := q) (by have := hp.ps i d1; omega), c0, d0, hi, wrap_pred (i := i) (by have := hp.ns; omega), c1, d1, c2, d2, c3, d3, c4, d4, c5, d5, c6, d6]) (.refl _) (by (simp [go_sem, wrap_succ (i := q) (by have := hp.ps i d1; omega), c0, d0, hi, wrap_pred (i := i) (by have := hp.ns; omega), c1, d1, c2, d2, c3, d3, c4, d4, c5, d5, c6, d6] <;> omega)), ⟨by omega, by rw [hy, hj']⟩, by first | omega | (dsimp only; omega)⟩
            · have d5 := c5; try simp at d5
              obtain rfl : q = (p.gs i).np := by omega
              rw [Nat.sub_self, firstE] at hy
              rw [he, hy] at hx
              simp at hx
              refine awp_exit ?_
              refine awp_reg_end fun K hK => ?_
              simp [go_sem, c0, d0, hi, wrap_pred (i := i) (by have := hp.ns; omega), c1, d1, c2, d2, c3, d3, c4, d4, c5, d5]
              try simp (disch := omega) only [wrapI]
              repeat refine ⟨by omega, ?_⟩
              refine hK _ ?_; clear hK K
              refine ⟨i + 1, back_of' (by simp [go_sem, wrap_succ (i := i) (by have := hp.ns; omega), c0, d0, hi, wrap_pred (i := i) (by have := hp.ns; omega), c1, d1, c2, d2, c3, d3, c4, d4, c5, d5]) (.refl _) (by (simp [go_sem, wrap_succ (i := i) (by have := hp.ns; omega), c0, d0, hi, wrap_pred (i := i) (by have := hp.ns; omega), c1, d1, c2, d2, c3, d3, c4, d4, c5, d5] <;> omega)), ⟨by omega, by rw [hx, hk']⟩, by first | omega | (dsimp only; omega)⟩
    · have d1 := c1; try simp at d1
      have hin : i = p.ns := by omega
      rw [hin, Nat.sub_self, firstE] at hx
      refine awp_exit ?_
      refine awp_reg_seq fun K hK => ?_
      simp [go_sem, c0, d0, hi, wrap_pred (i := i) (by have := hp.ns; omega), c1, d1]
      repeat refine ⟨by omega, ?_⟩
      refine hK _ ?_; clear hK K
      refine awp_ret ?_
      simp [go_sem, Tryz.results51, subChk, hx, c0, d0, hi, wrap_pred (i := i) (by have := hp.ns; omega), c1, d1] <;> omega

theorem ref35_subjects_cs (σ : List Blk) (p : Pol) (hp : PolOk p) (hc : prsChk p.np p.gp = 0) : CSF Tryz.prog 61 [.agg (p.enc.map .d)] σ (.d (I (subChk p))) := by
  refine CSF.of_body T.en61 Tryz.func61 rfl (by simp [Tryz.ntmps61]) (by simp [go_sem]) fun hwf => ?_
  refine awp_reg_seq fun K hK => ?_
  simp [go_sem, Tryz.ntmps61]
  repeat refine ⟨by omega, ?_⟩
  refine hK _ ?_; clear hK K
  refine awp_seq ?_
  refine awp_reg_seq fun K hK => ?_
  simp [go_sem]
  repeat refine ⟨by omega, ?_⟩
  refine hK _ ?_; clear hK K
  refine awp_forget [1, 12] (by simp only [restr, List.contains_cons, List.contains_nil, Nat.reduceBEq, Bool.or_false, Bool.or_true, Bool.true_or, Bool.false_or, if_true, if_false, Bool.false_eq_true]; rfl) ?_
  refine awp_cond rfl (fun c0 => ?_) (fun c0 => ?_)
  · have d0 := c0; try simp at d0
    refine awp_reg_seq fun K hK => ?_
    simp [go_sem, c0, d0]
    repeat refine ⟨by omega, ?_⟩
    refine hK _ ?_; clear hK K
    refine awp_ret ?_
    simp [go_sem, Tryz.results61, subChk, c0, d0] <;> omega
  · have d0 := c0; try simp at d0
    refine awp_skip ?_
    refine awp_seq ?_
    refine awp_reg_seq fun K hK => ?_
    simp [go_sem, c0, d0]
    repeat refine ⟨by omega, ?_⟩
    refine hK _ ?_; clear hK K
    refine awp_block ?_
    refine awp_forget [1, 14, 15, 16] (by simp [go_sem, restr]; rfl) ?_
    refine awp_loopU (α := Nat) (fun i => [(16, .d (I i))]) (fun i => σ ++ [.var (p.enc.map .d)]) (fun i => i ≤ p.ns ∧ firstE (subE p) 0 p.ns = firstE (subE p) i (p.ns - i)) (fun i => p.ns - i) 0 (by simp [go_sem]) rfl (by simp) ?_
    rintro i ⟨hi, hx⟩
    refine awp_reg_seq fun K hK => ?_
    simp [go_sem, c0, d0, hi, wrap_pred (i := i) (by have := hp.ns; omega)]
    repeat refine ⟨by omega, ?_⟩
    refine hK _ ?_; clear hK K
    refine awp_seq ?_
    refine awp_forget [1, 14, 15, 16, 17] (by simp only [restr, List.contains_cons, List.contains_nil, Nat.reduceBEq, Bool.or_false, Bool.or_true, Bool.true_or, Bool.false_or, if_true, if_false, Bool.false_eq_true]; rfl) ?_
    refine awp_cond rfl (fun c1 => ?_) (fun c1 => ?_)
    · have d1 := c1; try simp at d1
      obtain ⟨k, hk⟩ : ∃ k, p.ns - i = k + 1 := ⟨p.ns - i - 1, by omega⟩
      have hk' : p.ns - (i + 1) = k := by omega
      rw [hk, firstE] at hx
      refine awp_skip ?_
      refine awp_seq ?_
      refine awp_block ?_
      refine awp_reg_seq fun K hK => ?_
      simp [go_sem, c0, d0, hi, wrap_pred (i := i) (by have := hp.ns; omega), c1, d1]
      repeat refine ⟨by omega, ?_⟩
      refine hK _ ?_; clear hK K
      refine awp_seq ?_
      refine awp_reg_seq fun K hK => ?_
      simp [go_sem, c0, d0, hi, wrap_pred (i := i) (by have := hp.ns; omega), c1, d1]
      repeat refine ⟨by omega, ?_⟩
      refine hK _ ?_; clear hK K
      refine awp_forget [1, 3, 4, 14, 15, 16, 38] (by simp only [restr, List.contains_cons, List.contains_nil, Nat.reduceBEq, Bool.or_false, Bool.or_true, Bool.true_or, Bool.false_or, if_true, if_false, Bool.false_eq_true]; rfl) ?_
      refine awp_cond rfl (fun c2 => ?_) (fun c2 => ?_)
      · have d2 := c2; try simp at d2
        have he : subE p i = 2 := by unfold subE idOk; rw [if_pos (by simp; omega)]
        rw [he] at hx; simp at hx
        refine awp_reg_seq fun K hK => ?_
        simp [go_sem, c0, d0, hi, wrap_pred (i := i) (by have := hp.ns; omega), c1, d1, c2, d2]
        repeat refine ⟨by omega, ?_⟩
        refine hK _ ?_; clear hK K
        refine awp_ret ?_
        simp [go_sem, Tryz.results61, subChk, hx, c0, d0, hi, wrap_pred (i := i) (by have := hp.ns; omega), c1, d1, c2, d2] <;> omega
      · have d2 := c2; try simp at d2
        have hd2 : ¬(idOk (p.gs i).Unit = false ∨ (p.gs i).Class < 0 ∨ 999 < (p.gs i).Class) := by
          unfold idOk; simp; omega
        refine awp_skip ?_
        refine awp_seq ?_
        refine awp_reg_seq fun K hK => ?_
        simp [go_sem, c0, d0, hi, wrap_pred (i := i) (by have := hp.ns; omega), c1, d1, c2, d2]
        repeat refine ⟨by omega, ?_⟩
        refine CSk.mk (ref03_Check_cs _ (p.gs i).Made) ?_
        simp [go_sem, c0, d0, hi, wrap_pred (i := i) (by have := hp.ns; omega), c1, d1, c2, d2]
        repeat refine ⟨by omega, ?_⟩
        refine hK _ ?_; clear hK K
        refine awp_forget [1, 3, 4, 14, 15, 16, 42] (by simp only [restr, List.contains_cons, List.contains_nil, Nat.reduceBEq, Bool.or_false, Bool.or_true, Bool.true_or, Bool.false_or, if_true, if_false, Bool.false_eq_true]; rfl) ?_
        refine awp_cond rfl (fun c3 => ?_) (fun c3 => ?_)
        · have d3 := c3; try simp at d3
          have he : subE p i = 1 := by unfold subE; rw [if_neg hd2, if_pos d3]
          rw [he] at hx; simp at hx
          refine awp_reg_seq fun K hK => ?_
          simp [go_sem, c0, d0, hi, wrap_pred (i := i) (by have := hp.ns; omega), c1, d1, c2, d2, c3, d3]
          repeat refine ⟨by omega, ?_⟩
          refine hK _ ?_; clear hK K
          refine awp_ret ?_
          simp [go_sem, Tryz.results61, subChk, hx, c0, d0, hi, wrap_pred (i := i) (by have := hp.ns; omega), c1, d1, c2, d2, c3, d3] <;> omega
        · have d3 := c3; try simp at d3
          refine awp_skip ?_
          refine awp_seq ?_
          refine awp_draw_seq 20 T.mixed (by kernel_rfl) fun K hK => ?_
          simp [go_sem, c0, d0, hi, wrap_pred (i := i) (by have := hp.ns; omega), c1, d1, c2, d2, c3, d3]
          try simp (disch := omega) only [wrapI]
          repeat refine ⟨by omega, ?_⟩
          refine CSg.mk (ref35_rising_cs _ none (p.gs i).np (p.gs i).ps (by have := hp.ps i d1; omega)) ?_
          simp [go_sem, c0, d0, hi, wrap_pred (i := i) (by have := hp.ns; omega), c1, d1, c2, d2, c3, d3]
          try simp (disch := omega) only [wrapI]
          repeat refine ⟨by omega, ?_⟩
          refine hK _ ?_; clear hK K
          refine awp_forget [1, 4, 14, 15, 16, 62] (by simp only [restr, List.contains_cons, List.contains_nil, Nat.reduceBEq, Bool.or_false, Bool.or_true, Bool.true_or, Bool.false_or, if_true, if_false, Bool.false_eq_true]; rfl) ?_
          refine awp_cond rfl (fun c4 => ?_) (fun c4 => ?_)
          · have d4 := c4; try simp at d4
            have he : subE p i = 5 := by unfold subE; rw [if_neg hd2, if_neg (by simp [d3]), if_pos d4]
            rw [he] at hx; simp at hx
            refine awp_reg_seq fun K hK => ?_
            simp [go_sem, c0, d0, hi, wrap_pred (i := i) (by have := hp.ns; omega), c1, d1, c2, d2, c3, d3, c4, d4]
            repeat refine ⟨by omega, ?_⟩
            refine hK _ ?_; clear hK K
            refine awp_ret ?_
            simp [go_sem, Tryz.results61, subChk, hx, c0, d0, hi, wrap_pred (i := i) (by have := hp.ns; omega), c1, d1, c2, d2, c3, d3, c4, d4] <;> omega
          · have d4 := c4; try simp at d4
            have he : subE p i = subE1 p (p.gs i) := by
              unfold subE
              rw [if_neg hd2, if_neg (by simp [d3]), if_neg]
              rintro (h | h)
              · have := d4.1 h.1; omega
              · have := d4.2; rw [h] at this; cases this
            refine awp_skip ?_
            refine awp_reg_seq fun K hK => ?_
            simp [go_sem, c0, d0, hi, wrap_pred (i := i) (by have := hp.ns; omega), c1, d1, c2, d2, c3, d3, c4, d4]
            repeat refine ⟨by omega, ?_⟩
            refine hK _ ?_; clear hK K
            refine awp_block ?_
            refine awp_forget [1, 14, 15, 16, 64, 65, 66] (by simp [go_sem, restr]; rfl) ?_
            refine awp_loopU (α := Nat) (fun q => [(66, .d (I q))]) (fun q => σ ++ [.var (p.enc.map .d), .var ((p.gs i).enc.map .d)]) (fun q => q ≤ (p.gs i).np ∧ subE1 p (p.gs i) = firstE (fun q => if hasP p.np p.gp ((p.gs i).ps q) = false then 7 else 0) q ((p.gs i).np - q)) (fun q => (p.gs i).np - q) 0 (by simp [go_sem]) rfl (⟨by omega, rfl⟩) ?_
            rintro q ⟨hq, hy⟩
            refine awp_reg_seq fun K hK => ?_
            simp [go_sem, c0, d0, hi, wrap_pred (i := i) (by have := hp.ns; omega), c1, d1, c2, d2, c3, d3, c4, d4]
            repeat refine ⟨by omega, ?_⟩
            refine hK _ ?_; clear hK K
            refine awp_seq ?_
            refine awp_forget [1, 14, 15, 16, 64, 65, 66, 67] (by simp only [restr, List.contains_cons, List.contains_nil, Nat.reduceBEq, Bool.or_false, Bool.or_true, Bool.true_or, Bool.false_or, if_true, if_false, Bool.false_eq_true]; rfl) ?_
            refine awp_cond rfl (fun c5 => ?_) (fun c5 => ?_)
            · have d5 := c5; try simp at d5
              obtain ⟨j, hj⟩ : ∃ j, (p.gs i).np - q = j + 1 := ⟨(p.gs i).np - q - 1, by omega⟩
              have hj' : (p.gs i).np - (q + 1) = j := by omega
              rw [hj, firstE] at hy
              refine awp_skip ?_
              refine awp_seq ?_
              refine awp_block ?_
              refine awp_reg_seq fun K hK => ?_
              simp [go_sem, c0, d0, hi, wrap_pred (i := i) (by have := hp.ns; omega), c1, d1, c2, d2, c3, d3, c4, d4, c5, d5]
              repeat refine ⟨by omega, ?_⟩
              refine hK _ ?_; clear hK K
              refine awp_reg_seq fun K hK => ?_
              simp [go_sem, c0, d0, hi, wrap_pred (i := i) (by have := hp.ns; omega), c1, d1, c2, d2, c3, d3, c4, d4, c5, d5]
              repeat refine ⟨by omega, ?_⟩
              refine CSk.mk (ref32_Find_cs _ none p.np p.gp ((p.gs i).ps q) (by have := hp.np; omega) hp.nn) ?_
              simp [go_sem, c0, d0, hi, wrap_pred (i := i) (by have := hp.ns; omega), c1, d1, c2, d2, c3, d3, c4, d4, c5, d5]
              repeat refine ⟨by omega, ?_⟩
              refine hK _ ?_; clear hK K
              refine awp_reg_seq fun K hK => ?_
              simp [go_sem, c0, d0, hi, wrap_pred (i := i) (by have := hp.ns; omega), c1, d1, c2, d2, c3, d3, c4, d4, c5, d5]
              repeat refine ⟨by omega, ?_⟩
              refine hK _ ?_; clear hK K
              refine awp_forget [1, 14, 15, 16, 64, 65, 66, 78] (by simp only [restr, List.contains_cons, List.contains_nil, Nat.reduceBEq, Bool.or_false, Bool.or_true, Bool.true_or, Bool.false_or, if_true, if_false, Bool.false_eq_true]; rfl) ?_
              refine awp_cond rfl (fun c6 => ?_) (fun c6 => ?_)
              · have d6 := c6; try simp at d6
                have hh : hasP p.np p.gp ((p.gs i).ps q) = false := by rw [← find_has hc]; simpa using c6
                simp only [hh, if_true] at hy
                rw [he, hy] at hx
                simp at hx
                refine awp_reg_seq fun K hK => ?_
                simp [go_sem, c0, d0, hi, wrap_pred (i := i) (by have := hp.ns; omega), c1, d1, c2, d2, c3, d3, c4, d4, c5, d5, c6, d6]
                repeat refine ⟨by omega, ?_⟩
                refine hK _ ?_; clear hK K
                refine awp_ret ?_
                simp [go_sem, Tryz.results61, subChk, hx, c0, d0, hi, wrap_pred (i := i) (by have := hp.ns; omega), c1, d1, c2, d2, c3, d3, c4, d4, c5, d5, c6, d6] <;> omega
              · have d6 := c6; try simp at d6
                have hh : hasP p.np p.gp ((p.gs i).ps q) = true := by rw [← find_has hc]; simpa using c6
                simp only [hh, Bool.true_eq_false, if_false] at hy
                simp at hy
                refine awp_skip ?_
                refine awp_reg_end fun K hK => ?_
                simp [go_sem, c0, d0, hi, wrap_pred (i := i) (by have := hp.ns; omega), c1, d1, c2, d2, c3, d3, c4, d4, c5, d5, c6, d6]
                try simp (disch := omega) only [wrapI]
                repeat refine ⟨by omega, ?_⟩
                refine hK _ ?_; clear hK K
                refine ⟨q + 1, back_of' (by simp [go_sem, wrap_succ (i := q) (by have := hp.ps i d1; omega), c0, d0, hi, wrap_pred (i := i) (by have := hp.ns; omega), c1, d1, c2, d2, c3, d3, c4, d4, c5, d5, c6, d6]) (.refl _) (by (simp [go_sem, wrap_succ (i := q) (by have := hp.ps i d1; omega), c0, d0, hi, wrap_pred (i := i) (by have := hp.ns; omega), c1, d1, c2, d2, c3, d3, c4, d4, c5, d5, c6, d6] <;> omega)), ⟨by omega, by rw [hy, hj']⟩, by first | omega | (dsimp only; omega)⟩
            · have d5 := c5; try simp at d5
              obtain rfl : q = (p.gs i).np := by omega
              rw [Nat.sub_self, firstE] at hy
              rw [he, hy] at hx
              simp at hx
              refine awp_exit ?_
              refine awp_reg_end fun K hK => ?_
              simp [go_sem, c0, d0, hi, wrap_pred (i := i) (by have := hp.ns; omega), c1, d1, c2, d2, c3, d3, c4, d4, c5, d5]
              try simp (disch := omega) only [wrapI]
              repeat refine ⟨by omega, ?_⟩
              refine hK _ ?_; clear hK K
              refine ⟨i + 1, back_of' (by simp [go_sem, wrap_succ (i := i) (by have := hp.ns; omega), c0, d0, hi, wrap_pred (i := i) (by have := hp.ns; omega), c1, d1, c2, d2, c3, d3, c4, d4, c5, d5]) (.refl _) (by (simp [go_sem, wrap_succ (i := i) (by have := hp.ns; omega), c0, d0, hi, wrap_pred (i := i) (by have := hp.ns; omega), c1, d1, c2, d2, c3, d3, c4, d4, c5, d5] <;> omega)), ⟨by omega, by rw [hx, hk']⟩, by first | omega | (dsimp only; omega)⟩
    · have d1 := c1; try simp at d1
      have hin : i = p.ns := by omega
      rw [hin, Nat.sub_self, firstE] at hx
      refine awp_exit ?_
      refine awp_reg_seq fun K hK => ?_
      simp [go_sem, c0, d0, hi, wrap_pred (i := i) (by have := hp.ns; omega), c1, d1]
      repeat refine ⟨by omega, ?_⟩
      refine hK _ ?_; clear hK K
      refine awp_ret ?_
      simp [go_sem, Tryz.results61, subChk, hx, c0, d0, hi, wrap_pred (i := i) (by have := hp.ns; omega), c1, d1] <;> omega

theorem policy_Check_cs (σ : List Blk) (p : Pol) (hp : PolOk p) (hσ : σ[0]? = some (.loc 0)) : CSF Tryz.prog 18 [.agg (p.enc.map .d)] σ (.d (I (polChk p))) := by
  refine CSF.of_body T.en18 Tryz.func18 rfl (by simp [Tryz.ntmps18]) (by simp [go_sem]) fun hwf => ?_
  refine awp_reg_seq fun K hK => ?_
  simp [go_sem, Tryz.ntmps18]
  repeat refine ⟨by omega, ?_⟩
  refine hK _ ?_; clear hK K
  refine awp_seq ?_
  refine awp_draw_seq 15 T.mixed (by kernel_rfl) fun K hK => ?_
  simp [go_sem]
  repeat refine ⟨by omega, ?_⟩
  refine CSg.mk (closure_Check_cs _ none p.nc p.gc (by have := hp.nc; omega)) ?_
  simp [go_sem]
  repeat refine ⟨by omega, ?_⟩
  refine CSg.mk (person_Check_cs _ none p.np p.gp (by have := hp.np; omega) hp.nn (loc_app hσ)) ?_
  simp [go_sem]
  repeat refine ⟨by omega, ?_⟩
  refine CSg.mk (agreement_Check_cs _ none p.na p.ga (by have := hp.na; omega)) ?_
  simp [go_sem]
  repeat refine ⟨by omega, ?_⟩
  refine CSg.mk (permit_Check_cs _ none p.nm p.gm (by have := hp.nm; omega)) ?_
  simp [go_sem]
  repeat refine ⟨by omega, ?_⟩
  refine hK _ ?_; clear hK K
  refine awp_block ?_
  refine awp_forget [1, 17, 18, 19] (by simp [go_sem, restr]; rfl) ?_
  refine awp_loopU (α := Nat) (fun i => [(19, .d (I i))]) (fun i => _) (fun i => i ≤ 4 ∧ firstE (polE p) 0 4 = firstE (polE p) i (4 - i)) (fun i => 4 - i) 0 (by simp [go_sem]) rfl (by simp) ?_
  rintro i ⟨hi, hx⟩
  refine awp_reg_seq fun K hK => ?_
  simp [go_sem]
  repeat refine ⟨by omega, ?_⟩
  refine hK _ ?_; clear hK K
  refine awp_seq ?_
  refine awp_forget [1, 17, 18, 19, 20] (by simp only [restr, List.contains_cons, List.contains_nil, Nat.reduceBEq, Bool.or_false, Bool.or_true, Bool.true_or, Bool.false_or, if_true, if_false, Bool.false_eq_true]; rfl) ?_
  refine awp_cond rfl (fun c0 => ?_) (fun c0 => ?_)
  · have d0 := c0; try simp at d0
    obtain ⟨k, hk⟩ : ∃ k, 4 - i = k + 1 := ⟨4 - i - 1, by omega⟩
    have hk' : 4 - (i + 1) = k := by omega
    have hs : firstE (polE p) i (k + 1) = if polE p i ≠ 0 then polE p i else firstE (polE p) (i + 1) k := rfl
    rw [hk, hs] at hx
    have hrow : rowsOf 1 [I (check p.nc p.gc), I (prsChk p.np p.gp), I (agrChk p.na p.ga), I (pmtChk p.nm p.gm)] i = [I (polE p i)] := by
      have hi4 : i = 0 ∨ i = 1 ∨ i = 2 ∨ i = 3 := by omega
      rcases hi4 with rfl | rfl | rfl | rfl <;> rfl
    refine awp_skip ?_
    refine awp_seq ?_
    refine awp_block ?_
    refine awp_reg_seq fun K hK => ?_
    simp [go_sem, c0, d0, hrow]
    repeat refine ⟨by omega, ?_⟩
    refine hK _ ?_; clear hK K
    refine awp_reg_seq fun K hK => ?_
    simp [go_sem, c0, d0, hrow]
    repeat refine ⟨by omega, ?_⟩
    refine hK _ ?_; clear hK K
    refine awp_forget [1, 4, 17, 18, 19, 24] (by simp only [restr, List.contains_cons, List.contains_nil, Nat.reduceBEq, Bool.or_false, Bool.or_true, Bool.true_or, Bool.false_or, if_true, if_false, Bool.false_eq_true]; rfl) ?_
    refine awp_cond rfl (fun c1 => ?_) (fun c1 => ?_)
    · have d1 := c1; try simp at d1
      rw [if_pos d1] at hx
      have hz : polChk p = polE p i := by unfold polChk; rw [if_pos (by rw [hx]; exact d1), hx]
      refine awp_reg_seq fun K hK => ?_
      simp [go_sem, c0, d0, hrow, c1, d1]
      repeat refine ⟨by omega, ?_⟩
      refine hK _ ?_; clear hK K
      refine awp_ret ?_
      rw [hz]; simp [go_sem, Tryz.results18]
    · have d1 := c1; try simp at d1
      rw [if_neg (by simp [d1])] at hx
      refine awp_skip ?_
      refine awp_reg_end fun K hK => ?_
      simp [go_sem, c0, d0, hrow, c1, d1]
      try simp (disch := omega) only [wrapI]
      repeat refine ⟨by omega, ?_⟩
      refine hK _ ?_; clear hK K
      refine ⟨i + 1, back_of' (by simp) (.refl _) (by (simp [go_sem, wrap_succ (i := i) (by omega), c0, d0, hrow, c1, d1] <;> omega)), ⟨by omega, by rw [hx, hk']⟩, by first | omega | (dsimp only; omega)⟩
  · have d0 := c0; try simp at d0
    obtain rfl : i = 4 := by omega
    have hx : firstE (polE p) 0 4 = 0 := hx
    refine awp_exit ?_
    refine awp_seq ?_
    refine awp_reg_seq fun K hK => ?_
    simp [go_sem, c0, d0]
    repeat refine ⟨by omega, ?_⟩
    refine hK _ ?_; clear hK K
    refine awp_forget [1, 34] (by simp only [restr, List.contains_cons, List.contains_nil, Nat.reduceBEq, Bool.or_false, Bool.or_true, Bool.true_or, Bool.false_or, if_true, if_false, Bool.false_eq_true]; rfl) ?_
    refine awp_cond rfl (fun c2 => ?_) (fun c2 => ?_)
    · have d2 := c2; try simp at d2
      have hz : polChk p = 2 := by unfold polChk; rw [if_neg (by simp [hx]), if_pos d2]
      refine awp_reg_seq fun K hK => ?_
      simp [go_sem, c0, d0, c2, d2]
      repeat refine ⟨by omega, ?_⟩
      refine hK _ ?_; clear hK K
      refine awp_ret ?_
      rw [hz]; simp [go_sem, Tryz.results18]
    · have d2 := c2; try simp at d2
      have hz : polChk p = subChk p := by unfold polChk; rw [if_neg (by simp [hx]), if_neg (by omega)]
      refine awp_skip ?_
      refine awp_reg_seq fun K hK => ?_
      simp [go_sem, c0, d0, c2, d2]
      repeat refine ⟨by omega, ?_⟩
      refine CSk.mk (policy_subjects_cs _ p hp) ?_
      simp [go_sem, c0, d0, c2, d2]
      repeat refine ⟨by omega, ?_⟩
      refine hK _ ?_; clear hK K
      refine awp_ret ?_
      rw [hz]; simp [go_sem, Tryz.results18]

theorem ref35_Check_cs (σ : List Blk) (p : Pol) (hp : PolOk p) : CSF Tryz.prog 20 [.agg (p.enc.map .d)] σ (.d (I (polChk p))) := by
  refine CSF.of_body T.en20 Tryz.func20 rfl (by simp [Tryz.ntmps20]) (by simp [go_sem]) fun hwf => ?_
  refine awp_reg_seq fun K hK => ?_
  simp [go_sem, Tryz.ntmps20]
  repeat refine ⟨by omega, ?_⟩
  refine hK _ ?_; clear hK K
  refine awp_seq ?_
  refine awp_draw_seq 15 T.mixed (by kernel_rfl) fun K hK => ?_
  simp [go_sem]
  repeat refine ⟨by omega, ?_⟩
  refine CSg.mk (ref31_Check_cs _ none p.nc p.gc (by have := hp.nc; omega)) ?_
  simp [go_sem]
  repeat refine ⟨by omega, ?_⟩
  refine CSg.mk (ref32_Check_cs _ none p.np p.gp (by have := hp.np; omega) hp.nn) ?_
  simp [go_sem]
  repeat refine ⟨by omega, ?_⟩
  refine CSg.mk (ref33_Check_cs _ none p.na p.ga (by have := hp.na; omega)) ?_
  simp [go_sem]
  repeat refine ⟨by omega, ?_⟩
  refine CSg.mk (ref34_Check_cs _ none p.nm p.gm (by have := hp.nm; omega)) ?_
  simp [go_sem]
  repeat refine ⟨by omega, ?_⟩
  refine hK _ ?_; clear hK K
  refine awp_block ?_
  refine awp_forget [1, 17, 18, 19] (by simp [go_sem, restr]; rfl) ?_
  refine awp_loopU (α := Nat) (fun i => [(19, .d (I i))]) (fun i => _) (fun i => i ≤ 4 ∧ firstE (polE p) 0 4 = firstE (polE p) i (4 - i)) (fun i => 4 - i) 0 (by simp [go_sem]) rfl (by simp) ?_
  rintro i ⟨hi, hx⟩
  refine awp_reg_seq fun K hK => ?_
  simp [go_sem]
  repeat refine ⟨by omega, ?_⟩
  refine hK _ ?_; clear hK K
  refine awp_seq ?_
  refine awp_forget [1, 17, 18, 19, 20] (by simp only [restr, List.contains_cons, List.contains_nil, Nat.reduceBEq, Bool.or_false, Bool.or_true, Bool.true_or, Bool.false_or, if_true, if_false, Bool.false_eq_true]; rfl) ?_
  refine awp_cond rfl (fun c0 => ?_) (fun c0 => ?_)
  · have d0 := c0; try simp at d0
    obtain ⟨k, hk⟩ : ∃ k, 4 - i = k + 1 := ⟨4 - i - 1, by omega⟩
    have hk' : 4 - (i + 1) = k := by omega
    have hs : firstE (polE p) i (k + 1) = if polE p i ≠ 0 then polE p i else firstE (polE p) (i + 1) k := rfl
    rw [hk, hs] at hx
    have hrow : rowsOf 1 [I (check p.nc p.gc), I (prsChk p.np p.gp), I (agrChk p.na p.ga), I (pmtChk p.nm p.gm)] i = [I (polE p i)] := by
      have hi4 : i = 0 ∨ i = 1 ∨ i = 2 ∨ i = 3 := by omega
      rcases hi4 with rfl | rfl | rfl | rfl <;> rfl
    refine awp_skip ?_
    refine awp_seq ?_
    refine awp_block ?_
    refine awp_reg_seq fun K hK => ?_
    simp [go_sem, c0, d0, hrow]
    repeat refine ⟨by omega, ?_⟩
    refine hK _ ?_; clear hK K
    refine awp_reg_seq fun K hK => ?_
    simp [go_sem, c0, d0, hrow]
    repeat refine ⟨by omega, ?_⟩
    refine hK _ ?_; clear hK K
    refine awp_forget [1, 4, 17, 18, 19, 24] (by simp only [restr, List.contains_cons, List.contains_nil, Nat.reduceBEq, Bool.or_false, Bool.or_true, Bool.true_or, Bool.false_or, if_true, if_false, Bool.false_eq_true]; rfl) ?_
    refine awp_cond rfl (fun c1 => ?_) (fun c1 => ?_)
    · have d1 := c1; try simp at d1
      rw [if_pos d1] at hx
      have hz : polChk p = polE p i := by unfold polChk; rw [if_pos (by rw [hx]; exact d1), hx]
      refine awp_reg_seq fun K hK => ?_
      simp [go_sem, c0, d0, hrow, c1, d1]
      repeat refine ⟨by omega, ?_⟩
      refine hK _ ?_; clear hK K
      refine awp_ret ?_
      rw [hz]; simp [go_sem, Tryz.results20]
    · have d1 := c1; try simp at d1
      rw [if_neg (by simp [d1])] at hx
      refine awp_skip ?_
      refine awp_reg_end fun K hK => ?_
      simp [go_sem, c0, d0, hrow, c1, d1]
      try simp (disch := omega) only [wrapI]
      repeat refine ⟨by omega, ?_⟩
      refine hK _ ?_; clear hK K
      refine ⟨i + 1, back_of' (by simp) (.refl _) (by (simp [go_sem, wrap_succ (i := i) (by omega), c0, d0, hrow, c1, d1] <;> omega)), ⟨by omega, by rw [hx, hk']⟩, by first | omega | (dsimp only; omega)⟩
  · have d0 := c0; try simp at d0
    obtain rfl : i = 4 := by omega
    have hx : firstE (polE p) 0 4 = 0 := hx
    refine awp_exit ?_
    refine awp_seq ?_
    refine awp_reg_seq fun K hK => ?_
    simp [go_sem, c0, d0]
    repeat refine ⟨by omega, ?_⟩
    refine hK _ ?_; clear hK K
    refine awp_forget [1, 34] (by simp only [restr, List.contains_cons, List.contains_nil, Nat.reduceBEq, Bool.or_false, Bool.or_true, Bool.true_or, Bool.false_or, if_true, if_false, Bool.false_eq_true]; rfl) ?_
    refine awp_cond rfl (fun c2 => ?_) (fun c2 => ?_)
    · have d2 := c2; try simp at d2
      have hz : polChk p = 2 := by unfold polChk; rw [if_neg (by simp [hx]), if_pos d2]
      refine awp_reg_seq fun K hK => ?_
      simp [go_sem, c0, d0, c2, d2]
      repeat refine ⟨by omega, ?_⟩
      refine hK _ ?_; clear hK K
      refine awp_ret ?_
      rw [hz]; simp [go_sem, Tryz.results20]
    · have d2 := c2; try simp at d2
      have hz : polChk p = subChk p := by unfold polChk; rw [if_neg (by simp [hx]), if_neg (by omega)]
      refine awp_skip ?_
      refine awp_reg_seq fun K hK => ?_
      simp [go_sem, c0, d0, c2, d2]
      repeat refine ⟨by omega, ?_⟩
      refine CSk.mk (ref35_subjects_cs _ p hp (firstE_zero hx 1 (by omega) (by omega))) ?_
      simp [go_sem, c0, d0, c2, d2]
      repeat refine ⟨by omega, ?_⟩
      refine hK _ ?_; clear hK K
      refine awp_ret ?_
      rw [hz]; simp [go_sem, Tryz.results20]

end Go.Proofs.YtkochmppmpmddaaGreat

/-! Df -/
namespace Go.Proofs.YtkochmppmpmddaaGreat
open Go.Abs Go.Arch
set_option linter.unusedVariables false
set_option linter.unusedSimpArgs false
set_option maxRecDepth 100000
set_option maxHeartbeats 400000

/-- what a source gives: the grounds of a row alone -/
def clsG (p : Pol) (r : Row) (d : Int) : Nat → List Ground
  | 0 => if (closedR p.nc p.gc (subjR p r.Unit).1.Class (subjR p r.Unit).1.Made d).2 = true ∧ (subjR p r.Unit).1.Class ≠ 0 then [(closedR p.nc p.gc (subjR p r.Unit).1.Class (subjR p r.Unit).1.Made d).1] else []
  | 1 => (prsGr p.np p.gp (subjR p r.Unit).1.np (subjR p r.Unit).1.ps (subjR p r.Unit).1.Made p.Years d).1
  | _ => if r.Accession = 0 then [] else agrGr p.na p.ga r.Accession d
def maxU (d : Int) (L : List Ground) : Nat → Int
  | 0 => d
  | i + 1 => max (maxU d L i) (nth L i).Until
def opnS (p : Pol) (r : Row) (d : Int) : Nat → Int × Int
  | 0 => if (subjR p r.Unit).1.Class = 0 then (d, 0) else refOpensR p.nc p.gc (subjR p r.Unit).1.Class (subjR p r.Unit).1.Made d
  | 1 => if maxU d (clsG p r d 1) (clsG p r d 1).length = 1048576 then (0, 23) else (maxU d (clsG p r d 1) (clsG p r d 1).length, 0)
  | _ => if r.Accession = 0 then (d, 0) else agrOp p.na p.ga r.Accession d
theorem clsG_0 (p : Pol) (r : Row) (d : Int) : clsG p r d 0 = if (closedR p.nc p.gc (subjR p r.Unit).1.Class (subjR p r.Unit).1.Made d).2 = true ∧ (subjR p r.Unit).1.Class ≠ 0 then [(closedR p.nc p.gc (subjR p r.Unit).1.Class (subjR p r.Unit).1.Made d).1] else [] := rfl
theorem clsG_1 (p : Pol) (r : Row) (d : Int) : clsG p r d 1 = (prsGr p.np p.gp (subjR p r.Unit).1.np (subjR p r.Unit).1.ps (subjR p r.Unit).1.Made p.Years d).1 := rfl
theorem clsG_2 (p : Pol) (r : Row) (d : Int) : clsG p r d 2 = if r.Accession = 0 then [] else agrGr p.na p.ga r.Accession d := rfl
theorem opnS_0 (p : Pol) (r : Row) (d : Int) : opnS p r d 0 = if (subjR p r.Unit).1.Class = 0 then (d, 0) else refOpensR p.nc p.gc (subjR p r.Unit).1.Class (subjR p r.Unit).1.Made d := rfl
theorem opnS_1 (p : Pol) (r : Row) (d : Int) : opnS p r d 1 = if maxU d (clsG p r d 1) (clsG p r d 1).length = 1048576 then (0, 23) else (maxU d (clsG p r d 1) (clsG p r d 1).length, 0) := rfl
theorem opnS_2 (p : Pol) (r : Row) (d : Int) : opnS p r d 2 = if r.Accession = 0 then (d, 0) else agrOp p.na p.ga r.Accession d := rfl
theorem prsGr_len (n : Nat) (g : Nat → Prs) (m : Nat) (ids : Nat → Int) (made : Dating) (y d : Int) : (prsGr n g m ids made y d).1.length ≤ m := by
  have := gather_len (prsGf_len n g ids made y d) m
  unfold prsGr; split; · simp
  split; · simp
  split; · simp
  split; · simp
  exact this
theorem agrGr_len (n : Nat) (g : Nat → Agr) (k d : Int) : (agrGr n g k d).length ≤ n := by
  have := gather_len (agrGf_len g k d) n
  unfold agrGr; split; · simp
  exact this
theorem clsG_len {p : Pol} (h : PolOk p) (r : Row) (d : Int) (j : Nat) : (clsG p r d j).length ≤ 1000 := by
  unfold clsG
  split
  · split <;> simp
  · have := prsGr_len p.np p.gp (subjR p r.Unit).1.np (subjR p r.Unit).1.ps (subjR p r.Unit).1.Made p.Years d
    have := subj_np h r.Unit; omega
  · split
    · simp
    · have := agrGr_len p.na p.ga r.Accession d; have := h.na; omega
abbrev Fn0 (f : FuncId) : D := .v (.func (.func f) #[] #[])


theorem policy_sources_cs (σ : List Blk)  : CSF Tryz.prog 70 [] σ (.d (.sl none 2 3 fun j => [Fn0 (if j = 0 then 101 else if j = 1 then 106 else 109), Fn0 (if j = 0 then 104 else if j = 1 then 108 else 111)])) := by
  refine CSF.of_body T.en70 Tryz.func70 rfl (by simp [Tryz.ntmps70]) (by simp [go_sem]) fun hwf => ?_
  refine awp_reg_seq fun K hK => ?_
  simp [go_sem, Tryz.ntmps70]
  repeat refine ⟨by omega, ?_⟩
  refine hK _ ?_; clear hK K
  refine awp_reg_seq fun K hK => ?_
  simp [go_sem]
  repeat refine ⟨by omega, ?_⟩
  refine hK _ ?_; clear hK K
  refine awp_ret ?_
  simp [go_sem, Tryz.results70]
  intro i hi
  have hi3 : i = 0 ∨ i = 1 ∨ i = 2 := by omega
  rcases hi3 with rfl | rfl | rfl <;> rfl

theorem policy_sources_1_cs (σ : List Blk) (p : Pol) (r : Row) (d : Int) (hp : PolOk p) : CSF Tryz.prog 101 [.agg (p.enc.map .d), .agg (r.enc.map .d), .d (I d)] σ (.d (SL none 4 Ground.enc (clsG p r d 0).length (nth (clsG p r d 0)))) := by
  refine CSF.of_body T.en101 Tryz.func101 rfl (by simp [Tryz.ntmps101]) (by simp [go_sem]) fun hwf => ?_
  refine awp_reg_seq fun K hK => ?_
  simp [go_sem, Tryz.ntmps101]
  repeat refine ⟨by omega, ?_⟩
  refine hK _ ?_; clear hK K
  refine awp_reg_seq fun K hK => ?_
  simp [go_sem]
  repeat refine ⟨by omega, ?_⟩
  refine CSk.mk (policy_subject_cs _ _ _ (by first | assumption | exact loc_app (by assumption) | omega | simp_all)) ?_
  simp [go_sem]
  repeat refine ⟨by omega, ?_⟩
  refine hK _ ?_; clear hK K
  refine awp_seq ?_
  refine awp_reg_seq fun K hK => ?_
  simp [go_sem]
  repeat refine ⟨by omega, ?_⟩
  refine CSk.mk (closure_Closed_cs _ none p.nc p.gc (subjR p r.Unit).1.Class (subjR p r.Unit).1.Made d (by have := hp.nc; omega)) ?_
  simp [go_sem]
  repeat refine ⟨by omega, ?_⟩
  refine hK _ ?_; clear hK K
  refine awp_reg_seq fun K hK => ?_
  simp [go_sem]
  repeat refine ⟨by omega, ?_⟩
  refine hK _ ?_; clear hK K
  refine awp_forget [9, 34] (by simp only [restr, List.contains_cons, List.contains_nil, Nat.reduceBEq, Bool.or_false, Bool.or_true, Bool.true_or, Bool.false_or, if_true, if_false, Bool.false_eq_true]; rfl) ?_
  refine awp_cond rfl (fun c0 => ?_) (fun c0 => ?_)
  · have d0 := c0; try simp at d0
    have hz : clsG p r d 0 = [(closedR p.nc p.gc (subjR p r.Unit).1.Class (subjR p r.Unit).1.Made d).1] := by rw [clsG_0, if_pos d0]
    refine awp_reg_seq fun K hK => ?_
    simp [go_sem, c0, d0]
    repeat refine ⟨by omega, ?_⟩
    refine hK _ ?_; clear hK K
    refine awp_ret ?_
    rw [hz]; simp [go_sem, Tryz.results101]
    exact ⟨rfl, rfl, rfl, rfl⟩
  · have d0 := c0; try simp at d0
    have hz : clsG p r d 0 = [] := by rw [clsG_0, if_neg (by rintro ⟨h1, h2⟩; exact h2 (d0 h1))]
    refine awp_skip ?_
    refine awp_reg_seq fun K hK => ?_
    simp [go_sem, c0, d0]
    repeat refine ⟨by omega, ?_⟩
    refine hK _ ?_; clear hK K
    refine awp_ret ?_
    rw [hz]; simp [go_sem, Tryz.results101]

theorem policy_sources_2_cs (σ : List Blk) (p : Pol) (r : Row) (d : Int) (hp : PolOk p) : CSF Tryz.prog 104 [.agg (p.enc.map .d), .agg (r.enc.map .d), .d (I d)] σ (.tup [.d (I (opnS p r d 0).1), .d (I (opnS p r d 0).2)]) := by
  refine CSF.of_body T.en104 Tryz.func104 rfl (by simp [Tryz.ntmps104]) (by simp [go_sem]) fun hwf => ?_
  refine awp_reg_seq fun K hK => ?_
  simp [go_sem, Tryz.ntmps104]
  repeat refine ⟨by omega, ?_⟩
  refine hK _ ?_; clear hK K
  refine awp_reg_seq fun K hK => ?_
  simp [go_sem]
  repeat refine ⟨by omega, ?_⟩
  refine CSk.mk (policy_subject_cs _ _ _ (by first | assumption | exact loc_app (by assumption) | omega | simp_all)) ?_
  simp [go_sem]
  repeat refine ⟨by omega, ?_⟩
  refine hK _ ?_; clear hK K
  refine awp_seq ?_
  refine awp_reg_seq fun K hK => ?_
  simp [go_sem]
  repeat refine ⟨by omega, ?_⟩
  refine hK _ ?_; clear hK K
  refine awp_forget [2, 3, 8, 19] (by simp only [restr, List.contains_cons, List.contains_nil, Nat.reduceBEq, Bool.or_false, Bool.or_true, Bool.true_or, Bool.false_or, if_true, if_false, Bool.false_eq_true]; rfl) ?_
  refine awp_cond rfl (fun c0 => ?_) (fun c0 => ?_)
  · have d0 := c0; try simp at d0
    have hz : opnS p r d 0 = (d, 0) := by rw [opnS_0, if_pos d0]
    refine awp_reg_seq fun K hK => ?_
    simp [go_sem, c0, d0]
    repeat refine ⟨by omega, ?_⟩
    refine hK _ ?_; clear hK K
    refine awp_ret ?_
    rw [hz]; simp [go_sem, Tryz.results104]
  · have d0 := c0; try simp at d0
    have hz : opnS p r d 0 = refOpensR p.nc p.gc (subjR p r.Unit).1.Class (subjR p r.Unit).1.Made d := by rw [opnS_0, if_neg d0]
    refine awp_skip ?_
    refine awp_reg_seq fun K hK => ?_
    simp [go_sem, c0, d0]
    repeat refine ⟨by omega, ?_⟩
    refine CSk.mk (closure_Opens_cs _ none p.nc p.gc (subjR p r.Unit).1.Class (subjR p r.Unit).1.Made d (by have := hp.nc; omega)) ?_
    simp [go_sem, c0, d0]
    repeat refine ⟨by omega, ?_⟩
    refine hK _ ?_; clear hK K
    refine awp_ret ?_
    rw [hz]; simp [go_sem, Tryz.results104]

theorem policy_sources_3_cs (σ : List Blk) (p : Pol) (r : Row) (d : Int) (hp : PolOk p) (hσ : σ[0]? = some (.loc 0)) : CSF Tryz.prog 106 [.agg (p.enc.map .d), .agg (r.enc.map .d), .d (I d)] σ (.d (SL none 4 Ground.enc (clsG p r d 1).length (nth (clsG p r d 1)))) := by
  refine CSF.of_body T.en106 Tryz.func106 rfl (by simp [Tryz.ntmps106]) (by simp [go_sem]) fun hwf => ?_
  refine awp_reg_seq fun K hK => ?_
  simp [go_sem, Tryz.ntmps106]
  repeat refine ⟨by omega, ?_⟩
  refine hK _ ?_; clear hK K
  refine awp_reg_seq fun K hK => ?_
  simp [go_sem]
  repeat refine ⟨by omega, ?_⟩
  refine CSk.mk (policy_subject_cs _ _ _ (by first | assumption | exact loc_app (by assumption) | omega | simp_all)) ?_
  simp [go_sem]
  repeat refine ⟨by omega, ?_⟩
  refine hK _ ?_; clear hK K
  refine awp_reg_seq fun K hK => ?_
  simp [go_sem]
  repeat refine ⟨by omega, ?_⟩
  refine CSk.mk (person_Grounds_cs _ none p.np p.gp none (subjR p r.Unit).1.np (subjR p r.Unit).1.ps (subjR p r.Unit).1.Made p.Years d (by have := hp.np; omega) (by have := subj_np hp r.Unit; omega) hp.nn (loc_app hσ)) ?_
  simp [go_sem]
  repeat refine ⟨by omega, ?_⟩
  refine hK _ ?_; clear hK K
  refine awp_reg_seq fun K hK => ?_
  simp [go_sem]
  repeat refine ⟨by omega, ?_⟩
  refine hK _ ?_; clear hK K
  refine awp_ret ?_
  simp [go_sem, Tryz.results106, clsG] <;> omega

theorem policy_sources_4_cs (σ : List Blk) (p : Pol) (r : Row) (d : Int) (hp : PolOk p) (hσ : σ[0]? = some (.loc 0)) : CSF Tryz.prog 108 [.agg (p.enc.map .d), .agg (r.enc.map .d), .d (I d)] σ (.tup [.d (I (opnS p r d 1).1), .d (I (opnS p r d 1).2)]) := by
  have hlen := clsG_len hp r d 1
  have hcl : clsG p r d 1 = (prsGr p.np p.gp (subjR p r.Unit).1.np (subjR p r.Unit).1.ps (subjR p r.Unit).1.Made p.Years d).1 := rfl
  rw [hcl] at hlen
  refine CSF.of_body T.en108 Tryz.func108 rfl (by simp [Tryz.ntmps108]) (by simp [go_sem]) fun hwf => ?_
  refine awp_reg_seq fun K hK => ?_
  simp [go_sem, Tryz.ntmps108]
  repeat refine ⟨by omega, ?_⟩
  refine hK _ ?_; clear hK K
  refine awp_reg_seq fun K hK => ?_
  simp [go_sem]
  repeat refine ⟨by omega, ?_⟩
  refine CSk.mk (policy_subject_cs _ _ _ (by first | assumption | exact loc_app (by assumption) | omega | simp_all)) ?_
  simp [go_sem]
  repeat refine ⟨by omega, ?_⟩
  refine hK _ ?_; clear hK K
  refine awp_reg_seq fun K hK => ?_
  simp [go_sem]
  repeat refine ⟨by omega, ?_⟩
  refine CSk.mk (person_Grounds_cs _ none p.np p.gp none (subjR p r.Unit).1.np (subjR p r.Unit).1.ps (subjR p r.Unit).1.Made p.Years d (by have := hp.np; omega) (by have := subj_np hp r.Unit; omega) hp.nn (loc_app hσ)) ?_
  simp [go_sem]
  repeat refine ⟨by omega, ?_⟩
  refine hK _ ?_; clear hK K
  refine awp_seq ?_
  refine awp_reg_seq fun K hK => ?_
  simp [go_sem]
  repeat refine ⟨by omega, ?_⟩
  refine hK _ ?_; clear hK K
  refine awp_block ?_
  refine awp_forget [2, 34, 35, 36] (by simp [go_sem, restr]; rfl) ?_
  refine awp_loopU (α := Nat) (fun q => [(2, .d (I (maxU d (prsGr p.np p.gp (subjR p r.Unit).1.np (subjR p r.Unit).1.ps (subjR p r.Unit).1.Made p.Years d).1 q))), (36, .d (I q))]) (fun q => _) (fun q => q ≤ (prsGr p.np p.gp (subjR p r.Unit).1.np (subjR p r.Unit).1.ps (subjR p r.Unit).1.Made p.Years d).1.length) (fun q => (prsGr p.np p.gp (subjR p r.Unit).1.np (subjR p r.Unit).1.ps (subjR p r.Unit).1.Made p.Years d).1.length - q) 0 (by simp [go_sem, maxU]) rfl (by simp) ?_
  rintro q hq
  refine awp_reg_seq fun K hK => ?_
  simp [go_sem, maxU]
  repeat refine ⟨by omega, ?_⟩
  refine hK _ ?_; clear hK K
  refine awp_seq ?_
  refine awp_forget [2, 34, 35, 36, 37] (by simp only [restr, List.contains_cons, List.contains_nil, Nat.reduceBEq, Bool.or_false, Bool.or_true, Bool.true_or, Bool.false_or, if_true, if_false, Bool.false_eq_true]; rfl) ?_
  refine awp_cond rfl (fun c0 => ?_) (fun c0 => ?_)
  · have d0 := c0; try simp at d0
    refine awp_skip ?_
    refine awp_seq ?_
    refine awp_block ?_
    refine awp_reg_seq fun K hK => ?_
    simp [go_sem, maxU, c0, d0]
    repeat refine ⟨by omega, ?_⟩
    refine hK _ ?_; clear hK K
    refine awp_reg_end fun K hK => ?_
    simp [go_sem, maxU, c0, d0]
    repeat refine ⟨by omega, ?_⟩
    refine hK _ ?_; clear hK K
    refine awp_reg_end fun K hK => ?_
    simp [go_sem, maxU, c0, d0]
    try simp (disch := omega) only [wrapI]
    repeat refine ⟨by omega, ?_⟩
    refine hK _ ?_; clear hK K
    refine ⟨q + 1, back_of' (by simp) (.refl _) (by (simp [go_sem, wrap_succ (i := q) (by omega), maxU, c0, d0] <;> omega)), by omega, by first | omega | (dsimp only; omega)⟩
  · have d0 := c0; try simp at d0
    have hqn : q = (prsGr p.np p.gp (subjR p r.Unit).1.np (subjR p r.Unit).1.ps (subjR p r.Unit).1.Made p.Years d).1.length := by omega
    refine awp_exit ?_
    refine awp_seq ?_
    refine awp_reg_seq fun K hK => ?_
    simp [go_sem, maxU, c0, d0]
    repeat refine ⟨by omega, ?_⟩
    refine hK _ ?_; clear hK K
    refine awp_forget [2, 46] (by simp only [restr, List.contains_cons, List.contains_nil, Nat.reduceBEq, Bool.or_false, Bool.or_true, Bool.true_or, Bool.false_or, if_true, if_false, Bool.false_eq_true]; rfl) ?_
    refine awp_cond rfl (fun c1 => ?_) (fun c1 => ?_)
    · have d1 := c1; try simp at d1
      have hz : opnS p r d 1 = (0, 23) := by rw [opnS_1, hcl, ← hqn, if_pos d1]
      refine awp_reg_seq fun K hK => ?_
      simp [go_sem, maxU, c0, d0, c1, d1]
      repeat refine ⟨by omega, ?_⟩
      refine hK _ ?_; clear hK K
      refine awp_ret ?_
      rw [hz]; simp [go_sem, Tryz.results108]
    · have d1 := c1; try simp at d1
      have hz : opnS p r d 1 = (maxU d (prsGr p.np p.gp (subjR p r.Unit).1.np (subjR p r.Unit).1.ps (subjR p r.Unit).1.Made p.Years d).1 q, 0) := by rw [opnS_1, hcl, ← hqn, if_neg d1]
      refine awp_skip ?_
      refine awp_reg_seq fun K hK => ?_
      simp [go_sem, maxU, c0, d0, c1, d1]
      repeat refine ⟨by omega, ?_⟩
      refine hK _ ?_; clear hK K
      refine awp_ret ?_
      rw [hz]; simp [go_sem, Tryz.results108]

theorem policy_sources_5_cs (σ : List Blk) (p : Pol) (r : Row) (d : Int) (hp : PolOk p) : CSF Tryz.prog 109 [.agg (p.enc.map .d), .agg (r.enc.map .d), .d (I d)] σ (.d (SL none 4 Ground.enc (clsG p r d 2).length (nth (clsG p r d 2)))) := by
  refine CSF.of_body T.en109 Tryz.func109 rfl (by simp [Tryz.ntmps109]) (by simp [go_sem]) fun hwf => ?_
  refine awp_reg_seq fun K hK => ?_
  simp [go_sem, Tryz.ntmps109]
  repeat refine ⟨by omega, ?_⟩
  refine hK _ ?_; clear hK K
  refine awp_seq ?_
  refine awp_reg_seq fun K hK => ?_
  simp [go_sem]
  repeat refine ⟨by omega, ?_⟩
  refine hK _ ?_; clear hK K
  refine awp_forget [2, 3, 4, 9] (by simp only [restr, List.contains_cons, List.contains_nil, Nat.reduceBEq, Bool.or_false, Bool.or_true, Bool.true_or, Bool.false_or, if_true, if_false, Bool.false_eq_true]; rfl) ?_
  refine awp_cond rfl (fun c0 => ?_) (fun c0 => ?_)
  · have d0 := c0; try simp at d0
    have hz : clsG p r d 2 = [] := by rw [clsG_2, if_pos d0]
    refine awp_reg_seq fun K hK => ?_
    simp [go_sem, c0, d0]
    repeat refine ⟨by omega, ?_⟩
    refine hK _ ?_; clear hK K
    refine awp_ret ?_
    rw [hz]; simp [go_sem, Tryz.results109]
  · have d0 := c0; try simp at d0
    have hz : clsG p r d 2 = agrGr p.na p.ga r.Accession d := by rw [clsG_2, if_neg d0]
    refine awp_skip ?_
    refine awp_reg_seq fun K hK => ?_
    simp [go_sem, c0, d0]
    repeat refine ⟨by omega, ?_⟩
    refine CSk.mk (agreement_Grounds_cs _ none p.na p.ga r.Accession d (by have := hp.na; omega)) ?_
    simp [go_sem, c0, d0]
    repeat refine ⟨by omega, ?_⟩
    refine hK _ ?_; clear hK K
    refine awp_ret ?_
    rw [hz]; simp [go_sem, Tryz.results109]

theorem policy_sources_6_cs (σ : List Blk) (p : Pol) (r : Row) (d : Int) (hp : PolOk p) : CSF Tryz.prog 111 [.agg (p.enc.map .d), .agg (r.enc.map .d), .d (I d)] σ (.tup [.d (I (opnS p r d 2).1), .d (I (opnS p r d 2).2)]) := by
  refine CSF.of_body T.en111 Tryz.func111 rfl (by simp [Tryz.ntmps111]) (by simp [go_sem]) fun hwf => ?_
  refine awp_reg_seq fun K hK => ?_
  simp [go_sem, Tryz.ntmps111]
  repeat refine ⟨by omega, ?_⟩
  refine hK _ ?_; clear hK K
  refine awp_seq ?_
  refine awp_reg_seq fun K hK => ?_
  simp [go_sem]
  repeat refine ⟨by omega, ?_⟩
  refine hK _ ?_; clear hK K
  refine awp_forget [2, 3, 4, 10] (by simp only [restr, List.contains_cons, List.contains_nil, Nat.reduceBEq, Bool.or_false, Bool.or_true, Bool.true_or, Bool.false_or, if_true, if_false, Bool.false_eq_true]; rfl) ?_
  refine awp_cond rfl (fun c0 => ?_) (fun c0 => ?_)
  · have d0 := c0; try simp at d0
    have hz : opnS p r d 2 = (d, 0) := by rw [opnS_2, if_pos d0]
    refine awp_reg_seq fun K hK => ?_
    simp [go_sem, c0, d0]
    repeat refine ⟨by omega, ?_⟩
    refine hK _ ?_; clear hK K
    refine awp_ret ?_
    rw [hz]; simp [go_sem, Tryz.results111]
  · have d0 := c0; try simp at d0
    have hz : opnS p r d 2 = agrOp p.na p.ga r.Accession d := by rw [opnS_2, if_neg d0]
    refine awp_skip ?_
    refine awp_reg_seq fun K hK => ?_
    simp [go_sem, c0, d0]
    repeat refine ⟨by omega, ?_⟩
    refine CSk.mk (agreement_Opens_cs _ none p.na p.ga r.Accession d (by have := hp.na; omega)) ?_
    simp [go_sem, c0, d0]
    repeat refine ⟨by omega, ?_⟩
    refine hK _ ?_; clear hK K
    refine awp_ret ?_
    rw [hz]; simp [go_sem, Tryz.results111]

end Go.Proofs.YtkochmppmpmddaaGreat

/-! De -/
namespace Go.Proofs.YtkochmppmpmddaaGreat
open Go.Abs Go.Arch
set_option linter.unusedVariables false
set_option linter.unusedSimpArgs false
set_option maxRecDepth 100000
set_option maxHeartbeats 400000

theorem rows_1 {n : Nat} {g : Nat → Row} (h0 : ¬ 256 < n) {e : Int} (h : firstE (rowE g) 0 n = e) (he : e ≠ 0) : rowsChk n g = e := by
  unfold rowsChk; rw [if_neg h0, h, if_pos he]
theorem rows_2 {n : Nat} {g : Nat → Row} (h0 : ¬ 256 < n) (h1 : firstE (rowE g) 0 n = 0) {e : Int} (h : firstE (parE n g) 0 n = e) (he : e ≠ 0) : rowsChk n g = e := by
  unfold rowsChk; rw [if_neg h0, if_neg (by simp [h1]), h, if_pos he]
theorem rows_3 {n : Nat} {g : Nat → Row} (h0 : ¬ 256 < n) (h1 : firstE (rowE g) 0 n = 0) (h2 : firstE (parE n g) 0 n = 0) {i : Nat} (hi : i < n) (hc : Cyc n g i) : rowsChk n g = 17 := by
  unfold rowsChk; rw [if_neg h0, if_neg (by simp [h1]), if_neg (by simp [h2]), if_pos ⟨i, hi, hc⟩]
theorem rows_4 {n : Nat} {g : Nat → Row} (h0 : ¬ 256 < n) (h1 : firstE (rowE g) 0 n = 0) (h2 : firstE (parE n g) 0 n = 0) (hc : ∀ i, i < n → ¬Cyc n g i) : rowsChk n g = 0 := by
  unfold rowsChk; rw [if_neg h0, if_neg (by simp [h1]), if_neg (by simp [h2]), if_neg (by rintro ⟨i, hi, h⟩; exact hc i hi h)]
theorem not_cyc {n : Nat} {g : Nat → Row} (hg : Good n g) {i : Nat} (hi : i < n) (h : ¬Cyc n g i) : ∃ K, K < n ∧ (g (chainX n g i K)).Parent = 0 ∧ ∀ q, q < K → (g (chainX n g i q)).Parent ≠ 0 := by
  apply Classical.byContradiction
  intro hn
  refine h fun k hk he => ?_
  obtain ⟨K, h4, _, h5, h6⟩ := hg.ends hi he
  exact hn ⟨K, h4, h5, h6⟩


theorem policy_Rows_cs (σ : List Blk) (c : Option Nat) (n : Nat) (g : Nat → Row) (hn : n < 1000000000) : CSF Tryz.prog 16 [.d (SL c 3 Row.enc n g)] σ (.d (I (rowsChk n g))) := by
  refine CSF.of_body T.en16 Tryz.func16 rfl (by simp [Tryz.ntmps16]) (by simp [go_sem]) fun hwf => ?_
  refine awp_reg_seq fun K hK => ?_
  simp [go_sem, Tryz.ntmps16]
  repeat refine ⟨by omega, ?_⟩
  refine hK _ ?_; clear hK K
  refine awp_seq ?_
  refine awp_reg_seq fun K hK => ?_
  simp [go_sem]
  repeat refine ⟨by omega, ?_⟩
  refine hK _ ?_; clear hK K
  refine awp_forget [1, 2, 12] (by simp only [restr, List.contains_cons, List.contains_nil, Nat.reduceBEq, Bool.or_false, Bool.or_true, Bool.true_or, Bool.false_or, if_true, if_false, Bool.false_eq_true]; rfl) ?_
  refine awp_cond rfl (fun c0 => ?_) (fun c0 => ?_)
  · have d0 := c0; try simp at d0
    have hz : rowsChk n g = 8 := by unfold rowsChk; rw [if_pos (by omega)]
    refine awp_reg_seq fun K hK => ?_
    simp [go_sem, c0, d0]
    repeat refine ⟨by omega, ?_⟩
    refine hK _ ?_; clear hK K
    refine awp_ret ?_
    rw [hz]; simp [go_sem, Tryz.results16]
  · have d0 := c0; try simp at d0
    have hle : ¬ 256 < n := by omega
    refine awp_skip ?_
    refine awp_seq ?_
    refine awp_reg_seq fun K hK => ?_
    simp [go_sem, c0, d0]
    repeat refine ⟨by omega, ?_⟩
    refine hK _ ?_; clear hK K
    refine awp_block ?_
    refine awp_forget [1, 2, 13, 14, 15] (by simp [go_sem, restr]; rfl) ?_
    refine awp_loopU (α := Nat) (fun i => [(15, .d (I i))]) (fun i => σ ++ [.var [.d (SL c 3 Row.enc n g)], .var [.d (I 0)]]) (fun i => i ≤ n ∧ firstE (rowE g) 0 n = firstE (rowE g) i (n - i)) (fun i => n - i) 0 (by simp [go_sem]) rfl (by simp) ?_
    rintro i ⟨hi, hx⟩
    refine awp_reg_seq fun K hK => ?_
    simp [go_sem, c0, d0, hi, wrap_pred (i := i) (by omega)]
    repeat refine ⟨by omega, ?_⟩
    refine hK _ ?_; clear hK K
    refine awp_seq ?_
    refine awp_forget [1, 2, 13, 14, 15, 16] (by simp only [restr, List.contains_cons, List.contains_nil, Nat.reduceBEq, Bool.or_false, Bool.or_true, Bool.true_or, Bool.false_or, if_true, if_false, Bool.false_eq_true]; rfl) ?_
    refine awp_cond rfl (fun c1 => ?_) (fun c1 => ?_)
    · have d1 := c1; try simp at d1
      obtain ⟨k, hk⟩ : ∃ k, n - i = k + 1 := ⟨n - i - 1, by omega⟩
      have hk' : n - (i + 1) = k := by omega
      rw [hk, firstE] at hx
      refine awp_skip ?_
      refine awp_seq ?_
      refine awp_block ?_
      refine awp_reg_seq fun K hK => ?_
      simp [go_sem, c0, d0, hi, wrap_pred (i := i) (by omega), c1, d1]
      repeat refine ⟨by omega, ?_⟩
      refine hK _ ?_; clear hK K
      refine awp_block ?_
      refine awp_reg_seq fun K hK => ?_
      simp [go_sem, c0, d0, hi, wrap_pred (i := i) (by omega), c1, d1]
      repeat refine ⟨by omega, ?_⟩
      refine CSk.mk (policy_id_cs _ (g i).Unit) ?_
      simp [go_sem, c0, d0, hi, wrap_pred (i := i) (by omega), c1, d1]
      repeat refine ⟨by omega, ?_⟩
      refine hK _ ?_; clear hK K
      refine awp_forget [1, 2, 3, 4, 13, 14, 15, 20] (by simp only [restr, List.contains_cons, List.contains_nil, Nat.reduceBEq, Bool.or_false, Bool.or_true, Bool.true_or, Bool.false_or, if_true, if_false, Bool.false_eq_true]; rfl) ?_
      refine awp_cond rfl (fun c2 => ?_) (fun c2 => ?_)
      · have d2 := c2; try simp at d2
        have hrk : rowOk (g i) = false := by
          cases h : rowOk (g i) with
          | false => rfl
          | true =>
            exfalso
            simp [rowOk] at h
            rcases d2 with (((d2 | d2) | d2) | d2) | d2
            · rw [h.1.1.1.1] at d2; cases d2
            all_goals omega
        have he : rowE g i = 2 := by unfold rowE; rw [if_pos hrk]
        rw [he] at hx; simp at hx
        have hz := rows_1 hle hx (by decide)
        refine awp_reg_seq fun K hK => ?_
        simp [go_sem, c0, d0, hi, wrap_pred (i := i) (by omega), c1, d1, c2, d2]
        repeat refine ⟨by omega, ?_⟩
        refine hK _ ?_; clear hK K
        refine awp_ret ?_
        rw [hz]; simp [go_sem, Tryz.results16]
      · have d2 := c2; try simp at d2
        have hrk : rowOk (g i) = true := by simpa [rowOk] using d2
        refine awp_draw_seq 14 T.mixed (by kernel_rfl) fun K hK => ?_
        simp [go_sem, c0, d0, hi, wrap_pred (i := i) (by omega), c1, d1, c2, d2]
        try simp (disch := omega) only [wrapI]
        repeat refine ⟨by omega, ?_⟩
        refine hK _ ?_; clear hK K
        refine awp_forget [1, 2, 13, 14, 15, 45] (by simp only [restr, List.contains_cons, List.contains_nil, Nat.reduceBEq, Bool.or_false, Bool.or_true, Bool.true_or, Bool.false_or, if_true, if_false, Bool.false_eq_true]; rfl) ?_
        refine awp_cond rfl (fun c3 => ?_) (fun c3 => ?_)
        · have d3 := c3; try simp at d3
          have he : rowE g i = 5 := by unfold rowE; rw [if_neg (by simp [hrk]), if_pos d3]
          rw [he] at hx; simp at hx
          have hz := rows_1 hle hx (by decide)
          refine awp_reg_seq fun K hK => ?_
          simp [go_sem, c0, d0, hi, wrap_pred (i := i) (by omega), c1, d1, c2, d2, c3, d3]
          repeat refine ⟨by omega, ?_⟩
          refine hK _ ?_; clear hK K
          refine awp_ret ?_
          rw [hz]; simp [go_sem, Tryz.results16]
        · have d3 := c3; try simp at d3
          have he : rowE g i = 0 := by unfold rowE; rw [if_neg (by simp [hrk]), if_neg (by rintro ⟨h1, h2⟩; have := d3 h1; omega)]
          rw [he] at hx; simp at hx
          refine awp_skip ?_
          refine awp_reg_end fun K hK => ?_
          simp [go_sem, c0, d0, hi, wrap_pred (i := i) (by omega), c1, d1, c2, d2, c3, d3]
          try simp (disch := omega) only [wrapI]
          repeat refine ⟨by omega, ?_⟩
          refine hK _ ?_; clear hK K
          refine ⟨i + 1, back_of' (by simp [go_sem, wrap_succ (i := i) (by omega), c0, d0, hi, wrap_pred (i := i) (by omega), c1, d1, c2, d2, c3, d3]) (.refl _) (by (simp [go_sem, wrap_succ (i := i) (by omega), c0, d0, hi, wrap_pred (i := i) (by omega), c1, d1, c2, d2, c3, d3] <;> omega)), ⟨by omega, by rw [hx, hk']⟩, by first | omega | (dsimp only; omega)⟩
    · have d1 := c1; try simp at d1
      have hin : i = n := by omega
      rw [hin, Nat.sub_self, firstE] at hx
      refine awp_exit ?_
      refine awp_seq ?_
      refine awp_reg_seq fun K hK => ?_
      simp [go_sem, c0, d0, hi, wrap_pred (i := i) (by omega), c1, d1]
      repeat refine ⟨by omega, ?_⟩
      refine hK _ ?_; clear hK K
      refine awp_block ?_
      refine awp_forget [1, 2, 60, 61, 62] (by simp [go_sem, restr]; rfl) ?_
      refine awp_loopU (α := Nat) (fun q => [(62, .d (I q))]) (fun q => σ ++ [.var [.d (SL c 3 Row.enc n g)], .var [.d (I 0)]]) (fun q => q ≤ n ∧ firstE (parE n g) 0 n = firstE (parE n g) q (n - q)) (fun q => n - q) 0 (by simp [go_sem]) rfl (by simp) ?_
      rintro q ⟨hq, hy⟩
      refine awp_reg_seq fun K hK => ?_
      simp [go_sem, c0, d0, hi, wrap_pred (i := i) (by omega), c1, d1]
      repeat refine ⟨by omega, ?_⟩
      refine hK _ ?_; clear hK K
      refine awp_seq ?_
      refine awp_forget [1, 2, 60, 61, 62, 63] (by simp only [restr, List.contains_cons, List.contains_nil, Nat.reduceBEq, Bool.or_false, Bool.or_true, Bool.true_or, Bool.false_or, if_true, if_false, Bool.false_eq_true]; rfl) ?_
      refine awp_cond rfl (fun c4 => ?_) (fun c4 => ?_)
      · have d4 := c4; try simp at d4
        obtain ⟨j, hj⟩ : ∃ j, n - q = j + 1 := ⟨n - q - 1, by omega⟩
        have hj' : n - (q + 1) = j := by omega
        rw [hj, firstE] at hy
        refine awp_skip ?_
        refine awp_seq ?_
        refine awp_block ?_
        refine awp_reg_seq fun K hK => ?_
        simp [go_sem, c0, d0, hi, wrap_pred (i := i) (by omega), c1, d1, c4, d4]
        repeat refine ⟨by omega, ?_⟩
        refine hK _ ?_; clear hK K
        refine awp_reg_seq fun K hK => ?_
        simp [go_sem, c0, d0, hi, wrap_pred (i := i) (by omega), c1, d1, c4, d4]
        repeat refine ⟨by omega, ?_⟩
        refine CSm.mk (policy_find_cs _ c n g (g q).Parent hn) ?_
        simp [go_sem, c0, d0, hi, wrap_pred (i := i) (by omega), c1, d1, c4, d4]
        repeat refine ⟨by omega, ?_⟩
        refine hK _ ?_; clear hK K
        refine awp_forget [1, 2, 60, 61, 62, 75] (by simp only [restr, List.contains_cons, List.contains_nil, Nat.reduceBEq, Bool.or_false, Bool.or_true, Bool.true_or, Bool.false_or, if_true, if_false, Bool.false_eq_true]; rfl) ?_
        refine awp_cond rfl (fun c5 => ?_) (fun c5 => ?_)
        · have d5 := c5; try simp at d5
          have he : parE n g q = 7 := by unfold parE; rw [if_pos d5]
          rw [he] at hy; simp at hy
          have hz := rows_2 hle hx hy (by decide)
          refine awp_reg_seq fun K hK => ?_
          simp [go_sem, c0, d0, hi, wrap_pred (i := i) (by omega), c1, d1, c4, d4, c5, d5]
          repeat refine ⟨by omega, ?_⟩
          refine hK _ ?_; clear hK K
          refine awp_ret ?_
          rw [hz]; simp [go_sem, Tryz.results16]
        · have d5 := c5; try simp at d5
          have he : parE n g q = 0 := by unfold parE; rw [if_neg (by rintro ⟨h1, h2⟩; have := d5 h1; omega)]
          rw [he] at hy; simp at hy
          refine awp_skip ?_
          refine awp_reg_end fun K hK => ?_
          simp [go_sem, c0, d0, hi, wrap_pred (i := i) (by omega), c1, d1, c4, d4, c5, d5]
          try simp (disch := omega) only [wrapI]
          repeat refine ⟨by omega, ?_⟩
          refine hK _ ?_; clear hK K
          refine ⟨q + 1, back_of' (by simp [go_sem, wrap_succ (i := q) (by omega), c0, d0, hi, wrap_pred (i := i) (by omega), c1, d1, c4, d4, c5, d5]) (.refl _) (by (simp [go_sem, wrap_succ (i := q) (by omega), c0, d0, hi, wrap_pred (i := i) (by omega), c1, d1, c4, d4, c5, d5] <;> omega)), ⟨by omega, by rw [hy, hj']⟩, by first | omega | (dsimp only; omega)⟩
      · have d4 := c4; try simp at d4
        have hqn : q = n := by omega
        rw [hqn, Nat.sub_self, firstE] at hy
        have hg := good_of (by omega) hx hy
        refine awp_exit ?_
        refine awp_seq ?_
        refine awp_reg_seq fun K hK => ?_
        simp [go_sem, c0, d0, hi, wrap_pred (i := i) (by omega), c1, d1, c4, d4]
        repeat refine ⟨by omega, ?_⟩
        refine hK _ ?_; clear hK K
        refine awp_block ?_
        refine awp_forget [1, 2, 77, 78, 79] (by simp [go_sem, restr]; rfl) ?_
        refine awp_mv [σ.length + 50] (by simp) ?_
        refine awp_loopU (α := Nat) (fun r => [(79, .d (I r))]) (fun r => σ ++ [.var [.d (SL c 3 Row.enc n g)], .var [.d (I 0)]]) (fun r => r ≤ n ∧ ∀ z, z < r → ¬Cyc n g z) (fun r => n - r) 0 (by simp [go_sem]) rfl (by simp) ?_
        rintro r ⟨hr, hc⟩
        refine awp_reg_seq fun K hK => ?_
        simp [go_sem, c0, d0, hi, wrap_pred (i := i) (by omega), c1, d1, c4, d4]
        repeat refine ⟨by omega, ?_⟩
        refine hK _ ?_; clear hK K
        refine awp_seq ?_
        refine awp_forget [1, 2, 77, 78, 79, 80] (by simp only [restr, List.contains_cons, List.contains_nil, Nat.reduceBEq, Bool.or_false, Bool.or_true, Bool.true_or, Bool.false_or, if_true, if_false, Bool.false_eq_true]; rfl) ?_
        refine awp_cond rfl (fun c6 => ?_) (fun c6 => ?_)
        · have d6 := c6; try simp at d6
          refine awp_skip ?_
          refine awp_seq ?_
          refine awp_block ?_
          refine awp_reg_seq fun K hK => ?_
          simp [go_sem, c0, d0, hi, wrap_pred (i := i) (by omega), c1, d1, c4, d4, c6, d6]
          repeat refine ⟨by omega, ?_⟩
          refine hK _ ?_; clear hK K
          refine awp_reg_seq fun K hK => ?_
          simp [go_sem, c0, d0, hi, wrap_pred (i := i) (by omega), c1, d1, c4, d4, c6, d6]
          repeat refine ⟨by omega, ?_⟩
          refine hK _ ?_; clear hK K
          refine awp_reg_seq fun K hK => ?_
          simp [go_sem, c0, d0, hi, wrap_pred (i := i) (by omega), c1, d1, c4, d4, c6, d6]
          repeat refine ⟨by omega, ?_⟩
          have hcl := policy_above_cs (σ ++ [.var [.d (SL c 3 Row.enc n g)], .var [.d (I 0)], .var ((g r).enc.map .d), .var [.d (I 0)]]) c n g (g r).Unit; simp only [List.append_assoc, List.cons_append, List.nil_append, List.length_append, List.length_cons, List.length_nil, Nat.zero_add, Nat.reduceAdd] at hcl; refine CSk.gen hcl ?_; rintro r' σ' X ⟨rfl, rfl, rfl⟩
          simp [go_sem, c0, d0, hi, wrap_pred (i := i) (by omega), c1, d1, c4, d4, c6, d6]
          repeat refine ⟨by omega, ?_⟩
          refine hK _ ?_; clear hK K
          refine awp_block ?_
          by_cases hcy : Cyc n g r
          · refine awp_rangeL rfl [(1, .ptr σ.length 0), (2, .ptr (σ.length + 1) 0), (9, .ptr (σ.length + 3) 0)] (by simp [go_sem]) ?_
            intro La hLa
            have hLu : ∀ k av, (k, av) ∈ La.t → av.under (σ.length + 7) := by
              rw [hLa]
              intro k av hm
              simp at hm
              rcases hm with ⟨_, rfl⟩ | ⟨_, rfl⟩ | ⟨_, rfl⟩ <;> simp [AV.under] <;> omega
            have hround : ∀ k, k ≤ n → YS Tryz.prog (σ.length + 6) [.agg ((g (chainX n g r k)).enc.map .d)] (σ ++ [.var [.d (SL c 3 Row.enc n g)], .var [.d (I 0)], .var ((g r).enc.map .d), .var [.d (I k)], .var [.d (SL c 3 Row.enc n g)], .var [.d (I (g r).Unit)], .lp La .ready none]) (fun r' σ' X => X = [σ.length + 50] ∧ (r' = .d (B (decide (k < n))) ∧ σ' = σ ++ [.var [.d (SL c 3 Row.enc n g)], .var [.d (I (if k = n then 17 else 0))], .var ((g r).enc.map .d), .var [.d (I (k + 1 : Nat))], .var [.d (SL c 3 Row.enc n g)], .var [.d (I (g r).Unit)], .lp La (if k = n then .done else .ready) (if k = n then some .ret else none)])) := by
              intro k hk
              refine YS.of_awp (L := La) (pd := none) (by simp [go_sem]) (by rw [hLa]; rfl) ?_
              intro hwf'
              have eN := congrArg LoopA.N hLa
              have et := congrArg LoopA.t hLa
              have ep := congrArg LoopA.ps hLa
              have ea := congrArg LoopA.assign hLa
              have eb := congrArg LoopA.body hLa
              dsimp only at eN et ep ea eb
              rw [eN, et, ep, ea, eb]
              clear eN et ep ea eb hLa hcl
              refine awp_skip ?_
              simp [begunQ, go_sem, mvNot, St.putL]
              refine awp_post ?_
              refine awp_block ?_
              refine awp_reg_seq fun K hK => ?_
              simp [go_sem, c0, d0, hi, wrap_pred (i := i) (by omega), c1, d1, c4, d4, c6, d6, wrap_succ (i := k) (by omega)]
              try simp (disch := omega) only [wrapI]
              repeat refine ⟨by omega, ?_⟩
              refine hK _ ?_; clear hK K
              refine awp_reg_seq fun K hK => ?_
              simp [go_sem, c0, d0, hi, wrap_pred (i := i) (by omega), c1, d1, c4, d4, c6, d6, wrap_succ (i := k) (by omega)]
              repeat refine ⟨by omega, ?_⟩
              refine hK _ ?_; clear hK K
              refine awp_forget [2, 93] (by simp only [restr, List.contains_cons, List.contains_nil, Nat.reduceBEq, Bool.or_false, Bool.or_true, Bool.true_or, Bool.false_or, if_true, if_false, Bool.false_eq_true]; rfl) ?_
              refine awp_cond rfl (fun c7 => ?_) (fun c7 => ?_)
              · have d7 := c7; try simp at d7
                refine awp_reg_seq fun K hK => ?_
                simp [go_sem, c0, d0, hi, wrap_pred (i := i) (by omega), c1, d1, c4, d4, c6, d6, wrap_succ (i := k) (by omega), c7, d7]
                repeat refine ⟨by omega, ?_⟩
                refine hK _ ?_; clear hK K
                refine awp_ret ?_
                obtain rfl : k = n := by omega
                refine ⟨_, Sub.refl _, ?_⟩
                simp [go_sem, roundQ, jumpOf, mvNot, mvIn]
                exact leaves_app (by simp [go_sem, leavesL_refl]; exact hLu)
              · have d7 := c7; try simp at d7
                refine awp_skip ?_
                have hkn : k < n := by omega
                have hkn' : ¬ k = n := by omega
                refine ⟨_, Sub.refl _, ?_⟩
                simp [go_sem, roundQ, jumpOf, mvNot, mvIn, hkn, hkn']
                exact leaves_app (by simp [go_sem, leavesL_refl])
            have hR : Ways (fun i => σ ++ [.var [.d (SL c 3 Row.enc n g)], .var [.d (I (if i = n + 1 then 17 else 0))], .var ((g r).enc.map .d), .var [.d (I i)], .var [.d (SL c 3 Row.enc n g)], .var [.d (I (g r).Unit)], .lp La (if i = n + 1 then .done else .ready) (if i = n + 1 then some .ret else none)]) c n g (g r).Unit (n + 1) (chainX n g r) false (σ.length + 6) (σ.length + 4) (σ.length + 5) (σ.length + 50) := by
              refine ⟨fun i => by simp [go_sem], fun i => by simp [go_sem], fun i => by simp [go_sem], fun i => by simp [go_sem], fun i => leaves_app (by simp [go_sem]; right; exact hLu), fun i => leaves_app (by simp [go_sem]; right; exact hLu), fun i => by simp, by omega, by omega, by omega, by rw [if_neg (by omega)]; exact hg.find d6, fun i hi => hg.chain_lt d6 i (fun q hq => hcy q (by omega)), fun i hi => ⟨hcy i (by omega), (hg.chain_next d6 (fun q hq => hcy q (by omega))).1⟩, fun i hi => ?_, fun i hi => ?_, fun i hi h => by cases h⟩
              · simpa [show ¬ i = n by omega, show i < n by omega, show ¬ i = n + 1 by omega] using hround i (by omega)
              · obtain rfl : i = n := by omega
                simpa using hround i (by omega)
            have h3 := policy_above_1_cs σ _ c n g (g r).Unit (n + 1) _ false _ _ _ _ hR hn
            refine CS.mono (Q := fun r' σ' X' => X' = [σ.length + 50] ∧ r' = .tup [] ∧ σ' = _) (by simpa [go_sem] using h3) ?_
            rintro r' σ' X ⟨rfl, rfl, rfl⟩
            clear h3 hR hround hLa hcl
            refine ⟨σ ++ [.var [.d (SL c 3 Row.enc n g)], .var [.d (I 17)], .var ((g r).enc.map .d), .var [.d (I (n + 1 : Nat))], .var [.d (SL c 3 Row.enc n g)], .var [.d (I (g r).Unit)]], La, .done, some .ret, by simp [go_sem], leaves_app (by simp [go_sem]), by simp, by simp [mvNot], ?_⟩
            have hz := rows_3 hle hx hy d6 hcy
            simp [jumpQ, go_sem, scrub', AV.avoids, avoidsL, Tryz.results16, hz]
          · obtain ⟨Kx, hK1, hK2, hK3⟩ := not_cyc hg d6 hcy
            refine awp_rangeL rfl [(1, .ptr σ.length 0), (2, .ptr (σ.length + 1) 0), (9, .ptr (σ.length + 3) 0), (77, .d (SL c 3 Row.enc n g)), (78, .d (.v (.int .i64 n))), (79, .d (I r))] (by simp [go_sem]) ?_
            intro La hLa
            have hround : ∀ k, k + 1 ≤ n → YS Tryz.prog (σ.length + 6) [.agg ((g (chainX n g r k)).enc.map .d)] (σ ++ [.var [.d (SL c 3 Row.enc n g)], .var [.d (I 0)], .var ((g r).enc.map .d), .var [.d (I k)], .var [.d (SL c 3 Row.enc n g)], .var [.d (I (g r).Unit)], .lp La .ready none]) (fun r' σ' X => X = [σ.length + 50] ∧ (r' = .d (B true) ∧ σ' = σ ++ [.var [.d (SL c 3 Row.enc n g)], .var [.d (I 0)], .var ((g r).enc.map .d), .var [.d (I (k + 1 : Nat))], .var [.d (SL c 3 Row.enc n g)], .var [.d (I (g r).Unit)], .lp La .ready none])) := by
              intro k hk
              refine YS.of_awp (L := La) (pd := none) (by simp [go_sem]) (by rw [hLa]; rfl) ?_
              intro hwf'
              have eN := congrArg LoopA.N hLa
              have et := congrArg LoopA.t hLa
              have ep := congrArg LoopA.ps hLa
              have ea := congrArg LoopA.assign hLa
              have eb := congrArg LoopA.body hLa
              dsimp only at eN et ep ea eb
              rw [eN, et, ep, ea, eb]
              clear eN et ep ea eb hLa hcl
              refine awp_skip ?_
              simp [begunQ, go_sem, mvNot, St.putL]
              refine awp_post ?_
              refine awp_block ?_
              refine awp_reg_seq fun K hK => ?_
              simp [go_sem, c0, d0, hi, wrap_pred (i := i) (by omega), c1, d1, c4, d4, c6, d6, wrap_succ (i := k) (by omega)]
              try simp (disch := omega) only [wrapI]
              repeat refine ⟨by omega, ?_⟩
              refine hK _ ?_; clear hK K
              refine awp_reg_seq fun K hK => ?_
              simp [go_sem, c0, d0, hi, wrap_pred (i := i) (by omega), c1, d1, c4, d4, c6, d6, wrap_succ (i := k) (by omega)]
              repeat refine ⟨by omega, ?_⟩
              refine hK _ ?_; clear hK K
              refine awp_forget [2, 93] (by simp only [restr, List.contains_cons, List.contains_nil, Nat.reduceBEq, Bool.or_false, Bool.or_true, Bool.true_or, Bool.false_or, if_true, if_false, Bool.false_eq_true]; rfl) ?_
              refine awp_cond rfl (fun c8 => ?_) (fun c8 => ?_)
              · have d8 := c8; try simp at d8
                refine awp_reg_seq fun K hK => ?_
                simp [go_sem, c0, d0, hi, wrap_pred (i := i) (by omega), c1, d1, c4, d4, c6, d6, wrap_succ (i := k) (by omega), c8, d8]
                repeat refine ⟨by omega, ?_⟩
                refine hK _ ?_; clear hK K
                refine awp_ret ?_
                exfalso
                omega
              · have d8 := c8; try simp at d8
                refine awp_skip ?_
                refine ⟨_, Sub.refl _, ?_⟩
                simp [go_sem, roundQ, jumpOf, mvNot, mvIn]
                exact leaves_app (by simp [go_sem, leavesL_refl])
            have hR : Ways (fun i => σ ++ [.var [.d (SL c 3 Row.enc n g)], .var [.d (I 0)], .var ((g r).enc.map .d), .var [.d (I i)], .var [.d (SL c 3 Row.enc n g)], .var [.d (I (g r).Unit)], .lp La .ready none]) c n g (g r).Unit (Kx + 1) (chainX n g r) true (σ.length + 6) (σ.length + 4) (σ.length + 5) (σ.length + 50) := by
              refine ⟨fun i => by simp [go_sem], fun i => by simp [go_sem], fun i => by simp [go_sem], fun i => by simp [go_sem], fun i => leaves_app (by simp [go_sem]), fun i => leaves_app (by simp [go_sem]), fun i => by simp, by omega, by omega, by omega, by rw [if_neg (by omega)]; exact hg.find d6, fun i hi => hg.chain_lt d6 i (fun q hq => hK3 q (by omega)), fun i hi => ⟨hK3 i (by omega), (hg.chain_next d6 (fun q hq => hK3 q (by omega))).1⟩, fun i hi => hround i (by omega), fun i hi => hround i (by omega), fun i hi _ hp => ?_⟩
              obtain rfl : i = Kx := by omega
              exact absurd hK2 hp
            have h3 := policy_above_1_cs σ _ c n g (g r).Unit (Kx + 1) _ true _ _ _ _ hR hn
            refine CS.mono (Q := fun r' σ' X' => X' = [σ.length + 50] ∧ r' = .tup [] ∧ σ' = _) (by simpa [go_sem] using h3) ?_
            rintro r' σ' X ⟨rfl, rfl, rfl⟩
            clear h3 hR hround hLa hcl
            refine ⟨σ ++ [.var [.d (SL c 3 Row.enc n g)], .var [.d (I 0)], .var ((g r).enc.map .d), .var [.d (I (Kx + 1 : Nat))], .var [.d (SL c 3 Row.enc n g)], .var [.d (I (g r).Unit)]], La, .ready, none, by simp [go_sem], leaves_app (by simp [go_sem]), by simp, by simp [mvNot], ?_⟩
            simp [jumpQ, go_sem, scrub', AV.avoids, avoidsL]
            refine awp_reg_end fun K hK => ?_
            simp [go_sem, c0, d0, hi, wrap_pred (i := i) (by omega), c1, d1, c4, d4, c6, d6]
            try simp (disch := omega) only [wrapI]
            repeat refine ⟨by omega, ?_⟩
            refine hK _ ?_; clear hK K
            refine ⟨r + 1, back_of' (by simp [go_sem, wrap_succ (i := r) (by omega), c0, d0, hi, wrap_pred (i := i) (by omega), c1, d1, c4, d4, c6, d6]) (.refl _) (by (simp [go_sem, wrap_succ (i := r) (by omega), c0, d0, hi, wrap_pred (i := i) (by omega), c1, d1, c4, d4, c6, d6] <;> omega)), ⟨by omega, fun z hz => by rcases Nat.lt_or_eq_of_le (Nat.le_of_lt_succ hz) with h | h; exact hc z h; rw [h]; exact hcy⟩, by first | omega | (dsimp only; omega)⟩
        · have d6 := c6; try simp at d6
          have hrn : r = n := by omega
          have hz := rows_4 hle hx hy (fun i hi => hc i (by omega))
          refine awp_exit ?_
          refine awp_reg_seq fun K hK => ?_
          simp [go_sem, c0, d0, hi, wrap_pred (i := i) (by omega), c1, d1, c4, d4, c6, d6]
          repeat refine ⟨by omega, ?_⟩
          refine hK _ ?_; clear hK K
          refine awp_ret ?_
          rw [hz]; simp [go_sem, Tryz.results16]

end Go.Proofs.YtkochmppmpmddaaGreat

/-! Dg -/
namespace Go.Proofs.YtkochmppmpmddaaGreat
open Go.Abs Go.Arch
set_option linter.unusedVariables false
set_option linter.unusedSimpArgs false
set_option maxRecDepth 100000
set_option maxHeartbeats 1000000

theorem closes_cs (σ : List Blk) (p : Pol) (r : Row) (d : Int) (j : Nat) (hp : PolOk p) (hσ : σ[0]? = some (.loc 0)) (hj : j < 3) : CSF Tryz.prog (if j = 0 then 101 else if j = 1 then 106 else 109) [.agg (p.enc.map .d), .agg (r.enc.map .d), .d (I d)] σ (.d (SL none 4 Ground.enc (clsG p r d j).length (nth (clsG p r d j)))) := by
  have hj3 : j = 0 ∨ j = 1 ∨ j = 2 := by omega
  rcases hj3 with rfl | rfl | rfl
  · exact policy_sources_1_cs σ p r d hp
  · exact policy_sources_3_cs σ p r d hp hσ
  · exact policy_sources_5_cs σ p r d hp
theorem opens_cs (σ : List Blk) (p : Pol) (r : Row) (d : Int) (j : Nat) (hp : PolOk p) (hσ : σ[0]? = some (.loc 0)) (hj : j < 3) : CSF Tryz.prog (if j = 0 then 104 else if j = 1 then 108 else 111) [.agg (p.enc.map .d), .agg (r.enc.map .d), .d (I d)] σ (.tup [.d (I (opnS p r d j).1), .d (I (opnS p r d j).2)]) := by
  have hj3 : j = 0 ∨ j = 1 ∨ j = 2 := by omega
  rcases hj3 with rfl | rfl | rfl
  · exact policy_sources_2_cs σ p r d hp
  · exact policy_sources_4_cs σ p r d hp hσ
  · exact policy_sources_6_cs σ p r d hp
def setU (u : Int) (x : Ground) : Ground := ⟨x.Kind, x.Source, u, x.Until⟩
def clsU (p : Pol) (r : Row) (d : Int) (j : Nat) : List Ground := (clsG p r d j).map (setU r.Unit)
def rowG (p : Pol) (d : Int) (r : Row) : List Ground := gather (clsU p r d) 3
noncomputable def wayG (n : Nat) (g : Nat → Row) (p : Pol) (u d : Int) : List Ground := gather (fun k => rowG p d (g (wayX n g u k))) (wayK n g u)
theorem gather_le {β : Type} {f : Nat → List β} {m : Nat} : ∀ {i : Nat}, (∀ q, q < i → (f q).length ≤ m) → (gather f i).length ≤ i * m
  | 0, _ => by simp [gather]
  | i + 1, h => by
    have h1 := gather_le (i := i) fun q hq => h q (by omega)
    have h2 := h i (by omega)
    simp only [gather, List.length_append, Nat.add_mul, Nat.one_mul]; omega
theorem clsU_len {p : Pol} (h : PolOk p) (r : Row) (d : Int) (j : Nat) : (clsU p r d j).length ≤ 1000 := by
  unfold clsU; rw [List.length_map]; exact clsG_len h r d j
theorem rowG_len {p : Pol} (h : PolOk p) (d : Int) (r : Row) : (rowG p d r).length ≤ 3000 := by
  have := gather_le (f := clsU p r d) (i := 3) (m := 1000) fun q _ => clsU_len h r d q
  unfold rowG; omega
theorem lst_map_nth {α β : Type} [Inhabited α] (f : α → β) (L : List α) : lst L.length (fun q => f (nth L q)) = L.map f := by
  have := lst_nth L
  rw [← congrArg (List.map f) this]
  simp [lst]

theorem grow_fn {p : Pol} (hp : PolOk p) (r : Row) (d : Int) (F : List Ground) (hF : F.length ≤ 768000) : ∃ Bf : Nat → Nat → List Ground, Bf 0 0 = F ∧ (∀ j q, Bf j (q + 1) = Bf j q ++ [setU r.Unit (nth (clsG p r d j) q)]) ∧ (∀ j, Bf (j + 1) 0 = Bf j (clsG p r d j).length) ∧
    (∀ j q, j ≤ 3 → q ≤ 1000 → (Bf j q).length ≤ 800000) ∧ Bf 3 0 = F ++ gather (clsU p r d) 3 := by
  refine ⟨fun j q => F ++ (gather (clsU p r d) j ++ lst q (fun q => setU r.Unit (nth (clsG p r d j) q))), by simp [gather, lst], fun j q => ?_, fun j => ?_, fun j q hj hq => ?_, by simp [lst]⟩
  · dsimp only; rw [lst_succ]; simp
  · dsimp only; rw [lst_map_nth]; simp [gather, lst, clsU]
  · have := gather_le (f := clsU p r d) (i := j) (m := 1000) fun q _ => clsU_len hp r d q
    simp only [List.length_append, lst_length]
    have : j * 1000 ≤ 3000 := by omega
    omega


theorem policy_grounds_cs (σ : List Blk) (c : Option Nat) (n : Nat) (g : Nat → Row) (p : Pol) (u d : Int) (hn : n ≤ 256) (hp : PolOk p) (hr : rowsChk n g = 0) (hσ : σ[0]? = some (.loc 0)) : CSF Tryz.prog 65 [.d (SL c 3 Row.enc n g), .agg (p.enc.map .d), .d (I u), .d (I d)] σ (.d (SL none 4 Ground.enc (wayG n g p u d).length (nth (wayG n g p u d)))) := by
  obtain ⟨hwk, hway⟩ := way_of hr u
  refine CSF.of_body T.en65 Tryz.func65 rfl (by simp [Tryz.ntmps65]) (by simp [go_sem]) fun hwf => ?_
  refine awp_reg_seq fun K hK => ?_
  simp [go_sem, Tryz.ntmps65]
  repeat refine ⟨by omega, ?_⟩
  refine hK _ ?_; clear hK K
  refine awp_reg_seq fun K hK => ?_
  simp [go_sem]
  repeat refine ⟨by omega, ?_⟩
  refine hK _ ?_; clear hK K
  refine awp_seq ?_
  refine awp_thawV (σ.length + 2) 4 (fun i => Ground.enc (nth ([] : List Ground) i)) (by simp [go_sem]) (by simp [go_sem]; rfl) ?_
  refine awp_reg_seq fun K hK => ?_
  simp [go_sem]
  repeat refine ⟨by omega, ?_⟩
  have hcl := policy_above_cs (σ ++ [.var (p.enc.map .d), .var [.d (I d)], .var [.ms (σ.length + 3) 4 0 0], .arr 4 0 (fun i => Ground.enc (nth ([] : List Ground) i))]) c n g u; simp only [List.append_assoc, List.cons_append, List.nil_append, List.length_append, List.length_cons, List.length_nil, Nat.zero_add, Nat.reduceAdd] at hcl; refine CSk.gen hcl ?_; rintro r' σ' X ⟨rfl, rfl, rfl⟩
  simp [go_sem]
  repeat refine ⟨by omega, ?_⟩
  refine hK _ ?_; clear hK K
  refine awp_block ?_
  refine awp_rangeL rfl [(5, .ptr σ.length 0), (7, .ptr (σ.length + 1) 0), (9, .ptr (σ.length + 2) 0)] (by simp [go_sem]) ?_
  intro La hLa
  have hround : ∀ k, k < wayK n g u → YS Tryz.prog (σ.length + 6) [.agg ((g (wayX n g u k)).enc.map .d)] (σ ++ [.var (p.enc.map .d), .var [.d (I d)], .var [.ms (σ.length + 3) 4 0 (gather (fun k => rowG p d (g (wayX n g u k))) k).length], .arr 4 (gather (fun k => rowG p d (g (wayX n g u k))) k).length (fun i => Ground.enc (nth (gather (fun k => rowG p d (g (wayX n g u k))) k) i)), .var [.d (SL c 3 Row.enc n g)], .var [.d (I u)], .lp La .ready none]) (fun r' σ' X => X = [σ.length + 3] ∧ (r' = .d (B true) ∧ σ' = σ ++ [.var (p.enc.map .d), .var [.d (I d)], .var [.ms (σ.length + 3) 4 0 (gather (fun k => rowG p d (g (wayX n g u k))) (k + 1)).length], .arr 4 (gather (fun k => rowG p d (g (wayX n g u k))) (k + 1)).length (fun i => Ground.enc (nth (gather (fun k => rowG p d (g (wayX n g u k))) (k + 1)) i)), .var [.d (SL c 3 Row.enc n g)], .var [.d (I u)], .lp La .ready none])) := by
    intro k hk
    have hFl : (gather (fun k => rowG p d (g (wayX n g u k))) k).length ≤ 768000 := by
      have := gather_le (f := fun k => rowG p d (g (wayX n g u k))) (i := k) (m := 3000) fun q _ => rowG_len hp d _
      omega
    have hF1 : gather (fun k => rowG p d (g (wayX n g u k))) (k + 1) = gather (fun k => rowG p d (g (wayX n g u k))) k ++ gather (clsU p (g (wayX n g u k)) d) 3 := rfl
    rw [hF1]
    generalize gather (fun k => rowG p d (g (wayX n g u k))) k = F at hFl
    obtain ⟨Bf, rfl, hs, hnx, hBl, hB3⟩ := grow_fn hp (g (wayX n g u k)) d F hFl
    refine YS.of_awp (L := La) (pd := none) (by simp [go_sem]) (by rw [hLa]; rfl) ?_
    intro hwf'
    have eN := congrArg LoopA.N hLa
    have et := congrArg LoopA.t hLa
    have ep := congrArg LoopA.ps hLa
    have ea := congrArg LoopA.assign hLa
    have eb := congrArg LoopA.body hLa
    dsimp only at eN et ep ea eb
    have h1 : scrub' [σ.length + 3] La.t = La.t := by rw [et]; simp [scrub', AV.avoids]
    rw [eN, et, ep, ea, eb]
    clear eN et ep ea eb hLa hcl
    refine awp_reg_end fun K hK => ?_
    simp [go_sem, h1, hwf.one, hwf.zero, St.putL]
    repeat refine ⟨by omega, ?_⟩
    refine hK _ ?_; clear hK K
    simp [begunQ, go_sem, mvNot]
    refine awp_post ?_
    refine awp_block ?_
    refine awp_reg_seq fun K hK => ?_
    simp [go_sem, h1, hwf.one, hwf.zero]
    repeat refine ⟨by omega, ?_⟩
    refine CSk.mk (policy_sources_cs _) ?_
    simp [go_sem, h1, hwf.one, hwf.zero]
    repeat refine ⟨by omega, ?_⟩
    refine hK _ ?_; clear hK K
    refine awp_block ?_
    refine awp_forget [5, 7, 9, 10, 19, 20, 21] (by simp [go_sem, restr]; rfl) ?_
    refine awp_mv [σ.length + 3] (by simp) ?_
    refine awp_loopU (α := Nat) (fun j => [(21, .d (I j))]) (fun j => σ ++ [.var (p.enc.map .d), .var [.d (I d)], .var [.ms (σ.length + 3) 4 0 (Bf j 0).length], .arr 4 (Bf j 0).length (fun i => Ground.enc (nth (Bf j 0) i)), .var [.d (SL c 3 Row.enc n g)], .var [.d (I u)], .lp La .busy none, .var ((g (wayX n g u k)).enc.map .d)]) (fun j => j ≤ 3) (fun j => 3 - j) 0 (by simp [go_sem]) rfl (by simp) ?_
    rintro j hj
    refine awp_reg_seq fun K hK => ?_
    simp [go_sem, h1, hwf.one, hwf.zero]
    repeat refine ⟨by omega, ?_⟩
    refine hK _ ?_; clear hK K
    refine awp_seq ?_
    refine awp_forget [5, 7, 9, 10, 19, 20, 21, 22] (by simp only [restr, List.contains_cons, List.contains_nil, Nat.reduceBEq, Bool.or_false, Bool.or_true, Bool.true_or, Bool.false_or, if_true, if_false, Bool.false_eq_true]; rfl) ?_
    refine awp_cond rfl (fun c0 => ?_) (fun c0 => ?_)
    · have d0 := c0; try simp at d0
      have hcl := clsG_len hp (g (wayX n g u k)) d j
      have hrow : rowsOf 2 [] j = rowsOf 2 [] j := rfl
      refine awp_skip ?_
      refine awp_seq ?_
      refine awp_block ?_
      refine awp_reg_seq fun K hK => ?_
      simp [go_sem, h1, hwf.one, hwf.zero, c0, d0]
      repeat refine ⟨by omega, ?_⟩
      refine hK _ ?_; clear hK K
      refine awp_reg_seq fun K hK => ?_
      simp [go_sem, h1, hwf.one, hwf.zero, c0, d0]
      repeat refine ⟨by omega, ?_⟩
      refine CSk.mk (closes_cs _ p (g (wayX n g u k)) d j hp (loc_app hσ) (by omega)) ?_
      simp [go_sem, h1, hwf.one, hwf.zero, c0, d0]
      repeat refine ⟨by omega, ?_⟩
      refine hK _ ?_; clear hK K
      refine awp_block ?_
      refine awp_forget [5, 7, 9, 10, 19, 20, 21, 30, 31, 32] (by simp [go_sem, restr]; rfl) ?_
      refine awp_mv [σ.length + 3] (by simp) ?_
      refine awp_loopU (α := Nat) (fun q => [(32, .d (I q))]) (fun q => σ ++ [.var (p.enc.map .d), .var [.d (I d)], .var [.ms (σ.length + 3) 4 0 (Bf j q).length], .arr 4 (Bf j q).length (fun i => Ground.enc (nth (Bf j q) i)), .var [.d (SL c 3 Row.enc n g)], .var [.d (I u)], .lp La .busy none, .var ((g (wayX n g u k)).enc.map .d), .var [.d (Fn0 (if j = 0 then 101 else if j = 1 then 106 else 109)), .d (Fn0 (if j = 0 then 104 else if j = 1 then 108 else 111))]]) (fun q => q ≤ (clsG p (g (wayX n g u k)) d j).length) (fun q => (clsG p (g (wayX n g u k)) d j).length - q) 0 (by simp [go_sem]) rfl (by simp) ?_
      rintro q hq
      refine awp_reg_seq fun K hK => ?_
      simp [go_sem, h1, hwf.one, hwf.zero, c0, d0]
      repeat refine ⟨by omega, ?_⟩
      refine hK _ ?_; clear hK K
      refine awp_seq ?_
      refine awp_forget [5, 7, 9, 10, 19, 20, 21, 30, 31, 32, 33] (by simp only [restr, List.contains_cons, List.contains_nil, Nat.reduceBEq, Bool.or_false, Bool.or_true, Bool.true_or, Bool.false_or, if_true, if_false, Bool.false_eq_true]; rfl) ?_
      refine awp_cond rfl (fun c1 => ?_) (fun c1 => ?_)
      · have d1 := c1; try simp at d1
        have hbl := hBl j q (by omega) (by omega)
        have hsq := hs j q
        refine awp_skip ?_
        refine awp_seq ?_
        refine awp_block ?_
        refine awp_reg_seq fun K hK => ?_
        simp [go_sem, h1, hwf.one, hwf.zero, c0, d0, c1, d1, hsq]
        repeat refine ⟨by omega, ?_⟩
        refine hK _ ?_; clear hK K
        refine awp_reg_seq fun K hK => ?_
        simp [go_sem, h1, hwf.one, hwf.zero, c0, d0, c1, d1, hsq]
        repeat refine ⟨by omega, ?_⟩
        refine hK _ ?_; clear hK K
        refine awp_reg_end fun K hK => ?_
        simp [go_sem, h1, hwf.one, hwf.zero, c0, d0, c1, d1, hsq, hwf.one, hwf.zero]
        repeat refine ⟨by omega, ?_⟩
        refine hK _ ?_; clear hK K
        refine awp_rows (σ.length + 3) (fun i => Ground.enc (nth (Bf j q ++ [setU (g (wayX n g u k)).Unit (nth (clsG p (g (wayX n g u k)) d j) q)]) i)) (by simp [go_sem]; first | exact ⟨rfl, rfl, rfl⟩ | exact ⟨rfl, rfl⟩ | rfl) (by exact fun i hi => cat_nth (enc := Ground.enc) (x := setU (g (wayX n g u k)).Unit (nth (clsG p (g (wayX n g u k)) d j) q)) rfl hi) (by simp [go_sem]; rfl) ?_
        refine awp_reg_end fun K hK => ?_
        simp [go_sem, h1, hwf.one, hwf.zero, c0, d0, c1, d1, hsq]
        try simp (disch := omega) only [wrapI]
        repeat refine ⟨by omega, ?_⟩
        refine hK _ ?_; clear hK K
        refine ⟨q + 1, back_of' (by simp [go_sem, wrap_succ (i := q) (by omega), h1, hwf.one, hwf.zero, c0, d0, c1, d1, hsq]) ((leaves_app (by simp [go_sem]))) (by (simp [go_sem, wrap_succ (i := q) (by omega), h1, hwf.one, hwf.zero, c0, d0, c1, d1, hsq] <;> omega)), by omega, by first | omega | (dsimp only; omega)⟩
      · have d1 := c1; try simp at d1
        obtain rfl : q = (clsG p (g (wayX n g u k)) d j).length := by omega
        have hnj := hnx j
        refine awp_exit ?_
        refine awp_reg_end fun K hK => ?_
        simp [go_sem, h1, hwf.one, hwf.zero, c0, d0, c1, d1, hnj]
        try simp (disch := omega) only [wrapI]
        repeat refine ⟨by omega, ?_⟩
        refine hK _ ?_; clear hK K
        refine ⟨j + 1, back_of' (by simp [go_sem, wrap_succ (i := j) (by omega), h1, hwf.one, hwf.zero, c0, d0, c1, d1, hnj]) ((leaves_app (by simp [go_sem]))) (by (simp [go_sem, wrap_succ (i := j) (by omega), h1, hwf.one, hwf.zero, c0, d0, c1, d1, hnj] <;> omega)), by omega, by first | omega | (dsimp only; omega)⟩
    · have d0 := c0; try simp at d0
      obtain rfl : j = 3 := by omega
      refine awp_exit ?_
      refine ⟨_, Sub.refl _, ?_⟩
      simp [go_sem, roundQ, jumpOf, mvNot, mvIn, hB3]
      exact leaves_app (by simp [go_sem, leavesL_refl])
  have hR : Ways (fun k => σ ++ [.var (p.enc.map .d), .var [.d (I d)], .var [.ms (σ.length + 3) 4 0 (gather (fun k => rowG p d (g (wayX n g u k))) k).length], .arr 4 (gather (fun k => rowG p d (g (wayX n g u k))) k).length (fun i => Ground.enc (nth (gather (fun k => rowG p d (g (wayX n g u k))) k) i)), .var [.d (SL c 3 Row.enc n g)], .var [.d (I u)], .lp La .ready none]) c n g u (wayK n g u) (wayX n g u) true (σ.length + 6) (σ.length + 4) (σ.length + 5) (σ.length + 3) := by
    refine ⟨fun i => by simp [go_sem], fun i => by simp [go_sem], fun i => by simp [go_sem], fun i => by simp [go_sem], fun i => leaves_app (by simp [go_sem]), fun i => leaves_app (by simp [go_sem]), fun i => by simp, by omega, by omega, by omega, hway.first, hway.lt, hway.mid, fun i hi => hround i (by omega), fun i hi => hround i (by omega), fun i hi _ => hway.fin i hi⟩
  have h3 := policy_above_1_cs σ _ c n g u (wayK n g u) _ true _ _ _ _ hR (by omega)
  refine CS.mono (Q := fun r' σ' X' => X' = [σ.length + 3] ∧ r' = .tup [] ∧ σ' = _) (by simpa [go_sem, gather] using h3) ?_
  rintro r' σ' X ⟨rfl, rfl, rfl⟩
  clear h3 hR hround hLa hcl
  refine ⟨σ ++ [.var (p.enc.map .d), .var [.d (I d)], .var [.ms (σ.length + 3) 4 0 (wayG n g p u d).length], .arr 4 (wayG n g p u d).length (fun i => Ground.enc (nth (wayG n g p u d) i)), .var [.d (SL c 3 Row.enc n g)], .var [.d (I u)]], La, .ready, none, by simp [go_sem, wayG], leaves_app (by simp [go_sem]), by simp, by simp [mvNot], ?_⟩
  simp [jumpQ, go_sem, scrub', AV.avoids, avoidsL]
  refine awp_reg_seq fun K hK => ?_
  simp [go_sem]
  repeat refine ⟨by omega, ?_⟩
  refine hK _ ?_; clear hK K
  refine awp_freeze (σ.length + 3) (by simp [go_sem]; first | exact ⟨rfl, rfl, rfl⟩ | exact ⟨rfl, rfl⟩ | rfl) (by simp [go_sem]; rfl) (by simp [go_sem, hwf.frz, hwf.frz0]; rfl) ?_
  refine awp_ret ?_
  simp [go_sem, Tryz.results65]

end Go.Proofs.YtkochmppmpmddaaGreat

/-! Oc -/
namespace Go.Abs
set_option linter.unusedVariables false
set_option linter.unusedSimpArgs false

/-- a nil slice in a cell of a variable becomes one that may grow -/
theorem awp_thawC {P : Program} {c : Code} {Q : Exit → St → Prop} {N : Nat} {t : List (Nat × AV)} {σ σ' : List Blk} {mv : List Nat} (v k sz : Nat) (row : Nat → List D) {cs cs' : List AV} (hv : σ[v]? = some (.var cs)) (hk : cs[k]? = some (.d (.v (.slice none 0 0)))) (hc : cs.set k (.ms σ.length sz 0 0) = cs') (hσ : σ.set v (.var cs') ++ [.arr sz 0 row] = σ')
    (h : AWP P c Q ⟨N, t, σ', mv⟩) : AWP P c Q ⟨N, t, σ, mv⟩ := by
  refine awp_sub (s' := ⟨N, t, σ', mv⟩) ?_ h
  intro j0 j a w hr
  subst hσ
  subst hc
  obtain ⟨h1, h2, h3⟩ := hr.sto.unmade (sz := sz) (rows := row) (p := none)
  have hvl : v < σ.length := (List.getElem?_eq_some_iff.1 hv).1
  have hkl : k < cs.length := (List.getElem?_eq_some_iff.1 hk).1
  refine ⟨j ++ [none], ⟨hr.defers.mono h3, hr.rdok, hr.size, fun q av hq => ⟨(hr.tmp q av hq).1, (hr.tmp q av hq).2.mono0 h3 hr.sto.lt (ag_append _ _)⟩, ⟨by simp [hr.sto.len], h1.lt, h1.inj, fun b x hx => ?_⟩, by have := hr.len0; simp; omega, fun c hc hn => ?_⟩, h3⟩
  · rw [← List.set_append_left _ _ hvl, List.getElem?_set] at hx
    split at hx
    · rename_i e
      subst e
      split at hx
      · simp only [Option.some.injEq] at hx
        subst hx
        obtain ⟨o, ho, hB⟩ := h1.blk v (.var cs) (by rw [List.getElem?_append_left hvl]; exact hv)
        refine ⟨o, ho, ?_⟩
        cases o with
        | none => exact hB
        | some cb =>
          obtain ⟨C, e, g1, g2, g3⟩ := hB
          refine ⟨C, e, g1, by simpa using g2, fun q hq => ?_⟩
          have hq' : q < cs.length := by simpa using hq
          have h0 := g3 q hq'
          by_cases hqk : q = k
          · subst hqk
            have e1 : cs.getD q .undef = .d (.v (.slice none 0 0)) := by rw [List.getD_eq_getElem?_getD, hk]; rfl
            rw [e1] at h0
            have h0 := R_v h0
            rw [h0]
            have e2 : (cs.set q (.ms σ.length sz 0 0)).getD q .undef = .ms σ.length sz 0 0 := by simp [List.getD_eq_getElem?_getD, hkl]
            rw [e2]; exact h2
          · have e2 : (cs.set k (.ms σ.length sz 0 0)).getD q .undef = cs.getD q .undef := by simp [List.getD_eq_getElem?_getD, List.getElem?_set, Ne.symm hqk]
            rw [e2]; exact h0
      · simp at hx
    · exact h1.blk b x hx
  · have := hr.len0
    rw [List.getElem?_append_left (by omega)]; exact hr.ag c hc hn

end Go.Abs

/-! Dh -/
namespace Go.Proofs.YtkochmppmpmddaaGreat
open Go.Abs Go.Arch
set_option linter.unusedVariables false
set_option linter.unusedSimpArgs false
set_option maxRecDepth 100000
set_option maxHeartbeats 1000000

theorem cat_fn {α : Type} {enc : α → List D} {f : Nat → α} {k sz : Nat} {ds : List D} (h : ds.take sz = enc (f k)) {q : Nat} (hq : q < k + 1) : catRows k (fun q => enc (f q)) (rowsOf sz ds) q = enc (f q) := by
  unfold catRows
  split
  · rfl
  · have : q = k := by omega
    subst this
    simp [rowsOf, h]
structure Acc where
  Reader : Int
  Unit : Int
  Day : Int
  Granted : Bool
  nr : Nat
  rs : Nat → Reason
instance : Inhabited Acc := ⟨⟨0, 0, 0, false, 0, fun _ => default⟩⟩
def Acc.enc (a : Acc) : List D := [I a.Reader, I a.Unit, I a.Day, B a.Granted, SL none 5 Reason.enc a.nr a.rs]
attribute [go_sem] Acc.enc
def Acc.zero : Acc := ⟨0, 0, 0, false, 0, fun _ => default⟩
noncomputable def askR (n : Nat) (g : Nat → Row) (p : Pol) (r u d : Int) : Int := if rowsChk n g ≠ 0 ∨ polChk p ≠ 0 then 1 else if idOk r = false ∨ d < 0 ∨ 1048575 < d then 2 else if findR n g u < 0 then 7 else 0
theorem ask_zero {n : Nat} {g : Nat → Row} {p : Pol} {r u d : Int} (h : askR n g p r u d = 0) : rowsChk n g = 0 ∧ polChk p = 0 ∧ idOk r = true ∧ 0 ≤ d ∧ d ≤ 1048575 ∧ 0 ≤ findR n g u := by
  unfold askR at h
  split at h
  · omega
  rename_i h1
  split at h
  · omega
  rename_i h2
  split at h
  · omega
  rename_i h3
  refine ⟨by omega, by omega, ?_, by omega, by omega, by omega⟩
  cases hr : idOk r with
  | true => rfl
  | false => exact absurd (.inl hr) h2
/-- the permit that lifts a ground, 0 if there is none -/
def dec1 (p : Pol) (r : Int) (k : Nat) (w : Nat → Int) (d : Int) (x : Ground) : Int :=
  if (firstR p.nm p.gm r k w x.Kind d).2 = false ∨ (x.Kind = 3 ∧ agrStr p.na p.ga x.Source = true) then 0 else (firstR p.nm p.gm r k w x.Kind d).1
def rsn (p : Pol) (r : Int) (k : Nat) (w : Nat → Int) (d : Int) (x : Ground) : Reason := ⟨x, dec1 p r k w d x⟩
/-- are all of the first reasons lifted? -/
def lifted (f : Nat → Reason) : Nat → Bool
  | 0 => true
  | i + 1 => lifted f i && ((f i).Pm != 0)
def decR (p : Pol) (r u : Int) (k : Nat) (w : Nat → Int) (d : Int) (L : List Ground) : Acc := ⟨r, u, d, lifted (fun q => rsn p r k w d (nth L q)) L.length, L.length, fun q => rsn p r k w d (nth L q)⟩
noncomputable def decW (n : Nat) (g : Nat → Row) (p : Pol) (r u d : Int) : Acc := decR p r u (wayK n g u) (fun i => (g (wayX n g u i)).Unit) d (wayG n g p u d)
noncomputable def decideR (n : Nat) (g : Nat → Row) (p : Pol) (r u d : Int) : Acc × Int := if askR n g p r u d ≠ 0 then (Acc.zero, askR n g p r u d) else (decW n g p r u d, 0)
theorem wayG_len {n : Nat} {g : Nat → Row} {p : Pol} (hp : PolOk p) (hn : n ≤ 256) (hr : rowsChk n g = 0) (u d : Int) : (wayG n g p u d).length ≤ 768000 := by
  have h1 := (way_of hr u).1
  have := gather_le (f := fun k => rowG p d (g (wayX n g u k))) (i := wayK n g u) (m := 3000) fun q _ => rowG_len hp d _
  unfold wayG; omega
theorem rows_le {n : Nat} {g : Nat → Row} (h : rowsChk n g = 0) : n ≤ 256 := (rows_good h).1.le


theorem policy_asked_cs (σ : List Blk) (c : Option Nat) (n : Nat) (g : Nat → Row) (p : Pol) (r u d : Int) (hn : n < 1000000000) (hp : PolOk p) (hσ : σ[0]? = some (.loc 0)) : CSF Tryz.prog 62 [.d (SL c 3 Row.enc n g), .agg (p.enc.map .d), .d (I r), .d (I u), .d (I d)] σ (.d (I (askR n g p r u d))) := by
  refine CSF.of_body T.en62 Tryz.func62 rfl (by simp [Tryz.ntmps62]) (by simp [go_sem]) fun hwf => ?_
  refine awp_reg_seq fun K hK => ?_
  simp [go_sem, Tryz.ntmps62]
  repeat refine ⟨by omega, ?_⟩
  refine hK _ ?_; clear hK K
  refine awp_seq ?_
  refine awp_block ?_
  refine awp_reg_seq fun K hK => ?_
  simp [go_sem]
  repeat refine ⟨by omega, ?_⟩
  refine CSk.mk (policy_Rows_cs _ c n g hn) ?_
  simp [go_sem]
  repeat refine ⟨by omega, ?_⟩
  refine CSm.mk (policy_Check_cs _ p hp (loc_app hσ)) ?_
  simp [go_sem]
  repeat refine ⟨by omega, ?_⟩
  refine hK _ ?_; clear hK K
  refine awp_forget [0, 2, 3, 4, 11] (by simp only [restr, List.contains_cons, List.contains_nil, Nat.reduceBEq, Bool.or_false, Bool.or_true, Bool.true_or, Bool.false_or, if_true, if_false, Bool.false_eq_true]; rfl) ?_
  refine awp_cond rfl (fun c0 => ?_) (fun c0 => ?_)
  · have d0 := c0; try simp at d0
    have hz : askR n g p r u d = 1 := by unfold askR; rw [if_pos d0]
    refine awp_reg_seq fun K hK => ?_
    simp [go_sem, c0, d0]
    repeat refine ⟨by omega, ?_⟩
    refine hK _ ?_; clear hK K
    refine awp_ret ?_
    rw [hz]; simp [go_sem, Tryz.results62]
  · have d0 := c0; try simp at d0
    have hd0 : ¬(rowsChk n g ≠ 0 ∨ polChk p ≠ 0) := by omega
    refine awp_reg_seq fun K hK => ?_
    simp [go_sem, c0, d0]
    repeat refine ⟨by omega, ?_⟩
    refine CSk.mk (policy_id_cs _ r) ?_
    simp [go_sem, c0, d0]
    repeat refine ⟨by omega, ?_⟩
    refine hK _ ?_; clear hK K
    refine awp_forget [0, 3, 20] (by simp only [restr, List.contains_cons, List.contains_nil, Nat.reduceBEq, Bool.or_false, Bool.or_true, Bool.true_or, Bool.false_or, if_true, if_false, Bool.false_eq_true]; rfl) ?_
    refine awp_cond rfl (fun c1 => ?_) (fun c1 => ?_)
    · have d1 := c1; try simp at d1
      have hz : askR n g p r u d = 2 := by unfold askR; rw [if_neg hd0, if_pos (by simpa [or_assoc] using d1)]
      refine awp_reg_seq fun K hK => ?_
      simp [go_sem, c0, d0, c1, d1]
      repeat refine ⟨by omega, ?_⟩
      refine hK _ ?_; clear hK K
      refine awp_ret ?_
      rw [hz]; simp [go_sem, Tryz.results62]
    · have d1 := c1; try simp at d1
      have hd1 : ¬(idOk r = false ∨ d < 0 ∨ 1048575 < d) := by
        rintro (h | h | h)
        · have := d1.1.1; rw [h] at this; cases this
        · omega
        · omega
      refine awp_reg_seq fun K hK => ?_
      simp [go_sem, c0, d0, c1, d1]
      repeat refine ⟨by omega, ?_⟩
      refine CSk.mk (policy_find_cs _ c n g u hn) ?_
      simp [go_sem, c0, d0, c1, d1]
      repeat refine ⟨by omega, ?_⟩
      refine hK _ ?_; clear hK K
      refine awp_forget [32] (by simp only [restr, List.contains_cons, List.contains_nil, Nat.reduceBEq, Bool.or_false, Bool.or_true, Bool.true_or, Bool.false_or, if_true, if_false, Bool.false_eq_true]; rfl) ?_
      refine awp_cond rfl (fun c2 => ?_) (fun c2 => ?_)
      · have d2 := c2; try simp at d2
        have hz : askR n g p r u d = 7 := by unfold askR; rw [if_neg hd0, if_neg hd1, if_pos d2]
        refine awp_reg_seq fun K hK => ?_
        simp [go_sem, c0, d0, c1, d1, c2, d2]
        repeat refine ⟨by omega, ?_⟩
        refine hK _ ?_; clear hK K
        refine awp_ret ?_
        rw [hz]; simp [go_sem, Tryz.results62]
      · have d2 := c2; try simp at d2
        have hz : askR n g p r u d = 0 := by unfold askR; rw [if_neg hd0, if_neg hd1, if_neg (by omega)]
        refine awp_skip ?_
        refine awp_reg_seq fun K hK => ?_
        simp [go_sem, c0, d0, c1, d1, c2, d2]
        repeat refine ⟨by omega, ?_⟩
        refine hK _ ?_; clear hK K
        refine awp_ret ?_
        rw [hz]; simp [go_sem, Tryz.results62]

theorem policy_decide_cs (σ : List Blk) (c : Option Nat) (n : Nat) (g : Nat → Row) (p : Pol) (r u d : Int) (hp : PolOk p) (hr : rowsChk n g = 0) (hσ : σ[0]? = some (.loc 0)) : CSF Tryz.prog 63 [.d (SL c 3 Row.enc n g), .agg (p.enc.map .d), .d (I r), .d (I u), .d (I d)] σ (.agg ((decW n g p r u d).enc.map .d)) := by
  have hn := rows_le hr
  obtain ⟨hwk, hway⟩ := way_of hr u
  have hwl := wayG_len hp hn hr u d
  refine CSF.of_body T.en63 Tryz.func63 rfl (by simp [Tryz.ntmps63]) (by simp [go_sem]) fun hwf => ?_
  refine awp_reg_seq fun K hK => ?_
  simp [go_sem, Tryz.ntmps63]
  repeat refine ⟨by omega, ?_⟩
  refine hK _ ?_; clear hK K
  refine awp_reg_seq fun K hK => ?_
  simp [go_sem]
  repeat refine ⟨by omega, ?_⟩
  refine hK _ ?_; clear hK K
  refine awp_thawC (σ.length + 2) 4 5 (fun q => Reason.enc (rsn p r (wayK n g u) (fun i => (g (wayX n g u i)).Unit) d (nth (wayG n g p u d) q))) (by simp [go_sem]; rfl) (by simp [go_sem]) (by simp [go_sem]; rfl) (by simp [go_sem]; rfl) ?_
  refine awp_reg_seq fun K hK => ?_
  simp [go_sem]
  repeat refine ⟨by omega, ?_⟩
  refine CSk.mk (policy_path_cs _ c n g u _ _ hway (by omega) (by omega)) ?_
  simp [go_sem]
  repeat refine ⟨by omega, ?_⟩
  refine hK _ ?_; clear hK K
  refine awp_seq ?_
  refine awp_reg_seq fun K hK => ?_
  simp [go_sem]
  repeat refine ⟨by omega, ?_⟩
  refine CSk.mk (policy_grounds_cs _ c n g p u d hn hp hr (loc_app hσ)) ?_
  simp [go_sem]
  repeat refine ⟨by omega, ?_⟩
  refine hK _ ?_; clear hK K
  refine awp_block ?_
  refine awp_forget [2, 4, 6, 10, 11, 12, 28, 29, 30] (by simp [go_sem, restr]; rfl) ?_
  refine awp_mv [σ.length + 3] (by simp) ?_
  refine awp_loopU (α := Nat) (fun q => [(30, .d (I q))]) (fun q => σ ++ [.var (p.enc.map .d), .var [.d (I 0), .d (I 0), .d (I 0), .d (B false), .d (.v (.slice none 0 0))], .var [.d (I r), .d (I u), .d (I d), .d (B (lifted (fun q => rsn p r (wayK n g u) (fun i => (g (wayX n g u i)).Unit) d (nth (wayG n g p u d) q)) q)), .ms (σ.length + 3) 5 0 q], .arr 5 q (fun q => Reason.enc (rsn p r (wayK n g u) (fun i => (g (wayX n g u i)).Unit) d (nth (wayG n g p u d) q)))]) (fun q => q ≤ (wayG n g p u d).length) (fun q => (wayG n g p u d).length - q) 0 (by simp [go_sem, lifted]) rfl (by simp) ?_
  rintro q hq
  refine awp_reg_seq fun K hK => ?_
  simp [go_sem]
  repeat refine ⟨by omega, ?_⟩
  refine hK _ ?_; clear hK K
  refine awp_seq ?_
  refine awp_forget [2, 4, 6, 10, 11, 12, 28, 29, 30, 31] (by simp only [restr, List.contains_cons, List.contains_nil, Nat.reduceBEq, Bool.or_false, Bool.or_true, Bool.true_or, Bool.false_or, if_true, if_false, Bool.false_eq_true]; rfl) ?_
  refine awp_cond rfl (fun c0 => ?_) (fun c0 => ?_)
  · have d0 := c0; try simp at d0
    refine awp_skip ?_
    refine awp_seq ?_
    refine awp_block ?_
    refine awp_reg_seq fun K hK => ?_
    simp [go_sem, c0, d0]
    repeat refine ⟨by omega, ?_⟩
    refine hK _ ?_; clear hK K
    refine awp_reg_seq fun K hK => ?_
    simp [go_sem, c0, d0]
    repeat refine ⟨by omega, ?_⟩
    refine CSk.mk (permit_First_cs _ none p.nm p.gm r none (wayK n g u) (fun i => (g (wayX n g u i)).Unit) (nth (wayG n g p u d) q).Kind d (by have := hp.nm; omega) (by omega)) ?_
    simp [go_sem, c0, d0]
    repeat refine ⟨by omega, ?_⟩
    refine hK _ ?_; clear hK K
    refine awp_seq ?_
    refine awp_reg_seq fun K hK => ?_
    simp [go_sem, c0, d0]
    repeat refine ⟨by omega, ?_⟩
    refine CSm.mk (agreement_Strict_cs _ none p.na p.ga (nth (wayG n g p u d) q).Source (by have := hp.na; omega)) ?_
    simp [go_sem, c0, d0]
    repeat refine ⟨by omega, ?_⟩
    refine hK _ ?_; clear hK K
    refine awp_forget [2, 4, 6, 10, 11, 12, 14, 15, 28, 29, 30, 58] (by simp only [restr, List.contains_cons, List.contains_nil, Nat.reduceBEq, Bool.or_false, Bool.or_true, Bool.true_or, Bool.false_or, if_true, if_false, Bool.false_eq_true]; rfl) ?_
    refine awp_cond rfl (fun c1 => ?_) (fun c1 => ?_)
    · have d1 := c1; try simp at d1
      have hdec : dec1 p r (wayK n g u) (fun i => (g (wayX n g u i)).Unit) d (nth (wayG n g p u d) q) = 0 := by unfold dec1; rw [if_pos d1]
      have hlf : lifted (fun q => rsn p r (wayK n g u) (fun i => (g (wayX n g u i)).Unit) d (nth (wayG n g p u d) q)) (q + 1) = false := by simp [lifted, rsn, hdec]
      refine awp_reg_end fun K hK => ?_
      simp [go_sem, c0, d0, c1, d1, hlf]
      repeat refine ⟨by omega, ?_⟩
      refine hK _ ?_; clear hK K
      refine awp_reg_seq fun K hK => ?_
      simp [go_sem, c0, d0, c1, d1, hlf, hwf.one, hwf.zero]
      repeat refine ⟨by omega, ?_⟩
      refine hK _ ?_; clear hK K
      refine awp_rows (σ.length + 3) (fun q => Reason.enc (rsn p r (wayK n g u) (fun i => (g (wayX n g u i)).Unit) d (nth (wayG n g p u d) q))) (by simp [go_sem]; first | exact ⟨rfl, rfl, rfl⟩ | exact ⟨rfl, rfl⟩ | rfl) (by intro i hi; refine cat_fn (enc := Reason.enc) (f := (fun q => rsn p r (wayK n g u) (fun i => (g (wayX n g u i)).Unit) d (nth (wayG n g p u d) q))) ?_ hi; simp [rsn, Reason.enc, hdec]) (by simp [go_sem]; rfl) ?_
      refine awp_reg_end fun K hK => ?_
      simp [go_sem, c0, d0, c1, d1, hlf]
      repeat refine ⟨by omega, ?_⟩
      refine hK _ ?_; clear hK K
      refine awp_reg_end fun K hK => ?_
      simp [go_sem, c0, d0, c1, d1, hlf]
      try simp (disch := omega) only [wrapI]
      repeat refine ⟨by omega, ?_⟩
      refine hK _ ?_; clear hK K
      refine ⟨q + 1, back_of' (by simp [go_sem, wrap_succ (i := q) (by omega), c0, d0, c1, d1, hlf]) ((leaves_app (by simp [go_sem]))) (by (simp [go_sem, wrap_succ (i := q) (by omega), c0, d0, c1, d1, hlf] <;> omega)), by omega, by first | omega | (dsimp only; omega)⟩
    · have d1 := c1; try simp at d1
      have hdec : dec1 p r (wayK n g u) (fun i => (g (wayX n g u i)).Unit) d (nth (wayG n g p u d) q) = (firstR p.nm p.gm r (wayK n g u) (fun i => (g (wayX n g u i)).Unit) (nth (wayG n g p u d) q).Kind d).1 := by
        unfold dec1; rw [if_neg]
        rintro (h | ⟨h1, h2⟩)
        · have := d1.1; rw [h] at this; cases this
        · have := d1.2 h1; rw [h2] at this; cases this
      have hlf : lifted (fun q => rsn p r (wayK n g u) (fun i => (g (wayX n g u i)).Unit) d (nth (wayG n g p u d) q)) (q + 1) = (lifted (fun q => rsn p r (wayK n g u) (fun i => (g (wayX n g u i)).Unit) d (nth (wayG n g p u d) q)) q && ((firstR p.nm p.gm r (wayK n g u) (fun i => (g (wayX n g u i)).Unit) (nth (wayG n g p u d) q).Kind d).1 != 0)) := by simp [lifted, rsn, hdec]
      refine awp_skip ?_
      refine awp_reg_seq fun K hK => ?_
      simp [go_sem, c0, d0, c1, d1, hlf, hwf.one, hwf.zero]
      repeat refine ⟨by omega, ?_⟩
      refine hK _ ?_; clear hK K
      refine awp_rows (σ.length + 3) (fun q => Reason.enc (rsn p r (wayK n g u) (fun i => (g (wayX n g u i)).Unit) d (nth (wayG n g p u d) q))) (by simp [go_sem]; first | exact ⟨rfl, rfl, rfl⟩ | exact ⟨rfl, rfl⟩ | rfl) (by intro i hi; refine cat_fn (enc := Reason.enc) (f := (fun q => rsn p r (wayK n g u) (fun i => (g (wayX n g u i)).Unit) d (nth (wayG n g p u d) q))) ?_ hi; simp [rsn, Reason.enc, hdec]) (by simp [go_sem]; rfl) ?_
      refine awp_reg_end fun K hK => ?_
      simp [go_sem, c0, d0, c1, d1, hlf]
      repeat refine ⟨by omega, ?_⟩
      refine hK _ ?_; clear hK K
      refine awp_reg_end fun K hK => ?_
      simp [go_sem, c0, d0, c1, d1, hlf]
      try simp (disch := omega) only [wrapI]
      repeat refine ⟨by omega, ?_⟩
      refine hK _ ?_; clear hK K
      refine ⟨q + 1, back_of' (by simp [go_sem, wrap_succ (i := q) (by omega), c0, d0, c1, d1, hlf]) ((leaves_app (by simp [go_sem]))) (by (simp [go_sem, wrap_succ (i := q) (by omega), c0, d0, c1, d1, hlf] <;> omega)), by omega, by first | omega | (dsimp only; omega)⟩
  · have d0 := c0; try simp at d0
    obtain rfl : q = (wayG n g p u d).length := by omega
    refine awp_exit ?_
    refine awp_reg_seq fun K hK => ?_
    simp [go_sem, c0, d0]
    repeat refine ⟨by omega, ?_⟩
    refine hK _ ?_; clear hK K
    refine awp_freeze (σ.length + 3) (by simp [go_sem]; first | exact ⟨rfl, rfl, rfl⟩ | exact ⟨rfl, rfl⟩ | rfl) (by simp [go_sem]; rfl) (by simp [go_sem, hwf.frz, hwf.frz0]; rfl) ?_
    refine awp_ret ?_
    simp [go_sem, Tryz.results63, decW, decR]

end Go.Proofs.YtkochmppmpmddaaGreat

/-! Di -/
namespace Go.Proofs.YtkochmppmpmddaaGreat
open Go.Abs Go.Arch
set_option linter.unusedVariables false
set_option linter.unusedSimpArgs false
set_option maxRecDepth 100000
set_option maxHeartbeats 1000000

noncomputable def pathR (n : Nat) (g : Nat → Row) (u : Int) : Nat × Int := if rowsChk n g ≠ 0 then (0, 1) else if findR n g u < 0 then (0, 7) else (wayK n g u, 0)
noncomputable def grdR (n : Nat) (g : Nat → Row) (p : Pol) (u d : Int) : List Ground × Int := if askR n g p 1 u d ≠ 0 then ([], askR n g p 1 u d) else (wayG n g p u d, 0)
noncomputable def verR (n : Nat) (g : Nat → Row) (p : Pol) (x : Acc) : Int := if askR n g p x.Reader x.Unit x.Day ≠ 0 then askR n g p x.Reader x.Unit x.Day
  else if x.Granted ≠ (decW n g p x.Reader x.Unit x.Day).Granted ∨ eqL (lst x.nr x.rs) (lst (decW n g p x.Reader x.Unit x.Day).nr (decW n g p x.Reader x.Unit x.Day).rs) = false then 14 else 0
theorem decW_nr {n : Nat} {g : Nat → Row} {p : Pol} (hp : PolOk p) (hr : rowsChk n g = 0) (r u d : Int) : (decW n g p r u d).nr ≤ 768000 := wayG_len hp (rows_le hr) hr u d
theorem unit_pos {n : Nat} {g : Nat → Row} (h : rowsChk n g = 0) {u : Int} (hf : 0 ≤ findR n g u) : 1 ≤ u := by
  obtain ⟨h1, h2, h3⟩ := findR_at hf
  have := (rows_good h).1.ok _ h1
  simp [rowOk, idOk] at this
  omega


theorem ref35_Rows_cs (σ : List Blk) (c : Option Nat) (n : Nat) (g : Nat → Row) (hn : n < 1000000000) : CSF Tryz.prog 17 [.d (SL c 3 Row.enc n g)] σ (.d (I (rowsChk n g))) := by
  refine CSF.of_body T.en17 Tryz.func17 rfl (by simp [Tryz.ntmps17]) (by simp [go_sem]) fun hwf => ?_
  refine awp_reg_seq fun K hK => ?_
  simp [go_sem, Tryz.ntmps17]
  repeat refine ⟨by omega, ?_⟩
  refine hK _ ?_; clear hK K
  refine awp_seq ?_
  refine awp_reg_seq fun K hK => ?_
  simp [go_sem]
  repeat refine ⟨by omega, ?_⟩
  refine hK _ ?_; clear hK K
  refine awp_forget [0, 13] (by simp only [restr, List.contains_cons, List.contains_nil, Nat.reduceBEq, Bool.or_false, Bool.or_true, Bool.true_or, Bool.false_or, if_true, if_false, Bool.false_eq_true]; rfl) ?_
  refine awp_cond rfl (fun c0 => ?_) (fun c0 => ?_)
  · have d0 := c0; try simp at d0
    have hz : rowsChk n g = 8 := by unfold rowsChk; rw [if_pos (by omega)]
    refine awp_reg_seq fun K hK => ?_
    simp [go_sem, c0, d0]
    repeat refine ⟨by omega, ?_⟩
    refine hK _ ?_; clear hK K
    refine awp_ret ?_
    rw [hz]; simp [go_sem, Tryz.results17]
  · have d0 := c0; try simp at d0
    have hle : ¬ 256 < n := by omega
    refine awp_skip ?_
    refine awp_seq ?_
    refine awp_reg_seq fun K hK => ?_
    simp [go_sem, c0, d0]
    repeat refine ⟨by omega, ?_⟩
    refine hK _ ?_; clear hK K
    refine awp_block ?_
    refine awp_forget [0, 14, 15, 16] (by simp [go_sem, restr]; rfl) ?_
    refine awp_loopU (α := Nat) (fun i => [(16, .d (I i))]) (fun i => _) (fun i => i ≤ n ∧ firstE (rowE g) 0 n = firstE (rowE g) i (n - i)) (fun i => n - i) 0 (by simp [go_sem]) rfl (by simp) ?_
    rintro i ⟨hi, hx⟩
    refine awp_reg_seq fun K hK => ?_
    simp [go_sem, c0, d0, hi, wrap_pred (i := i) (by omega)]
    repeat refine ⟨by omega, ?_⟩
    refine hK _ ?_; clear hK K
    refine awp_seq ?_
    refine awp_forget [0, 14, 15, 16, 17] (by simp only [restr, List.contains_cons, List.contains_nil, Nat.reduceBEq, Bool.or_false, Bool.or_true, Bool.true_or, Bool.false_or, if_true, if_false, Bool.false_eq_true]; rfl) ?_
    refine awp_cond rfl (fun c1 => ?_) (fun c1 => ?_)
    · have d1 := c1; try simp at d1
      obtain ⟨k, hk⟩ : ∃ k, n - i = k + 1 := ⟨n - i - 1, by omega⟩
      have hk' : n - (i + 1) = k := by omega
      rw [hk, firstE] at hx
      refine awp_skip ?_
      refine awp_seq ?_
      refine awp_block ?_
      refine awp_reg_seq fun K hK => ?_
      simp [go_sem, c0, d0, hi, wrap_pred (i := i) (by omega), c1, d1]
      repeat refine ⟨by omega, ?_⟩
      refine hK _ ?_; clear hK K
      refine awp_seq ?_
      refine awp_reg_seq fun K hK => ?_
      simp [go_sem, c0, d0, hi, wrap_pred (i := i) (by omega), c1, d1]
      repeat refine ⟨by omega, ?_⟩
      refine hK _ ?_; clear hK K
      refine awp_forget [0, 3, 4, 14, 15, 16, 48] (by simp only [restr, List.contains_cons, List.contains_nil, Nat.reduceBEq, Bool.or_false, Bool.or_true, Bool.true_or, Bool.false_or, if_true, if_false, Bool.false_eq_true]; rfl) ?_
      refine awp_cond rfl (fun c2 => ?_) (fun c2 => ?_)
      · have d2 := c2; try simp at d2
        have hrk : rowOk (g i) = false := by
          cases h : rowOk (g i) with
          | false => rfl
          | true => exfalso; simp [rowOk, idOk] at h; omega
        have he : rowE g i = 2 := by unfold rowE; rw [if_pos hrk]
        rw [he] at hx; simp at hx
        have hz := rows_1 hle hx (by decide)
        refine awp_reg_seq fun K hK => ?_
        simp [go_sem, c0, d0, hi, wrap_pred (i := i) (by omega), c1, d1, c2, d2]
        repeat refine ⟨by omega, ?_⟩
        refine hK _ ?_; clear hK K
        refine awp_ret ?_
        rw [hz]; simp [go_sem, Tryz.results17]
      · have d2 := c2; try simp at d2
        have hrk : rowOk (g i) = true := by simp [rowOk, idOk]; omega
        refine awp_skip ?_
        refine awp_draw_seq 13 T.mixed (by kernel_rfl) fun K hK => ?_
        simp [go_sem, c0, d0, hi, wrap_pred (i := i) (by omega), c1, d1, c2, d2]
        try simp (disch := omega) only [wrapI]
        repeat refine ⟨by omega, ?_⟩
        refine hK _ ?_; clear hK K
        refine awp_forget [0, 14, 15, 16, 61] (by simp only [restr, List.contains_cons, List.contains_nil, Nat.reduceBEq, Bool.or_false, Bool.or_true, Bool.true_or, Bool.false_or, if_true, if_false, Bool.false_eq_true]; rfl) ?_
        refine awp_cond rfl (fun c3 => ?_) (fun c3 => ?_)
        · have d3 := c3; try simp at d3
          have he : rowE g i = 5 := by unfold rowE; rw [if_neg (by simp [hrk]), if_pos d3]
          rw [he] at hx; simp at hx
          have hz := rows_1 hle hx (by decide)
          refine awp_reg_seq fun K hK => ?_
          simp [go_sem, c0, d0, hi, wrap_pred (i := i) (by omega), c1, d1, c2, d2, c3, d3]
          repeat refine ⟨by omega, ?_⟩
          refine hK _ ?_; clear hK K
          refine awp_ret ?_
          rw [hz]; simp [go_sem, Tryz.results17]
        · have d3 := c3; try simp at d3
          have he : rowE g i = 0 := by unfold rowE; rw [if_neg (by simp [hrk]), if_neg (by rintro ⟨h1, h2⟩; have := d3 h1; omega)]
          rw [he] at hx; simp at hx
          refine awp_skip ?_
          refine awp_reg_end fun K hK => ?_
          simp [go_sem, c0, d0, hi, wrap_pred (i := i) (by omega), c1, d1, c2, d2, c3, d3]
          try simp (disch := omega) only [wrapI]
          repeat refine ⟨by omega, ?_⟩
          refine hK _ ?_; clear hK K
          refine ⟨i + 1, back_of' (by simp) (.refl _) (by (simp [go_sem, wrap_succ (i := i) (by omega), c0, d0, hi, wrap_pred (i := i) (by omega), c1, d1, c2, d2, c3, d3] <;> omega)), ⟨by omega, by rw [hx, hk']⟩, by first | omega | (dsimp only; omega)⟩
    · have d1 := c1; try simp at d1
      have hin : i = n := by omega
      rw [hin, Nat.sub_self, firstE] at hx
      refine awp_exit ?_
      refine awp_seq ?_
      refine awp_reg_seq fun K hK => ?_
      simp [go_sem, c0, d0, hi, wrap_pred (i := i) (by omega), c1, d1]
      repeat refine ⟨by omega, ?_⟩
      refine hK _ ?_; clear hK K
      refine awp_block ?_
      refine awp_forget [0, 63, 64, 65] (by simp [go_sem, restr]; rfl) ?_
      refine awp_loopU (α := Nat) (fun q => [(65, .d (I q))]) (fun q => _) (fun q => q ≤ n ∧ firstE (parE n g) 0 n = firstE (parE n g) q (n - q)) (fun q => n - q) 0 (by simp [go_sem]) rfl (by simp) ?_
      rintro q ⟨hq, hy⟩
      refine awp_reg_seq fun K hK => ?_
      simp [go_sem, c0, d0, hi, wrap_pred (i := i) (by omega), c1, d1]
      repeat refine ⟨by omega, ?_⟩
      refine hK _ ?_; clear hK K
      refine awp_seq ?_
      refine awp_forget [0, 63, 64, 65, 66] (by simp only [restr, List.contains_cons, List.contains_nil, Nat.reduceBEq, Bool.or_false, Bool.or_true, Bool.true_or, Bool.false_or, if_true, if_false, Bool.false_eq_true]; rfl) ?_
      refine awp_cond rfl (fun c4 => ?_) (fun c4 => ?_)
      · have d4 := c4; try simp at d4
        obtain ⟨j, hj⟩ : ∃ j, n - q = j + 1 := ⟨n - q - 1, by omega⟩
        have hj' : n - (q + 1) = j := by omega
        rw [hj, firstE] at hy
        refine awp_skip ?_
        refine awp_seq ?_
        refine awp_block ?_
        refine awp_reg_seq fun K hK => ?_
        simp [go_sem, c0, d0, hi, wrap_pred (i := i) (by omega), c1, d1, c4, d4]
        repeat refine ⟨by omega, ?_⟩
        refine hK _ ?_; clear hK K
        refine awp_reg_seq fun K hK => ?_
        simp [go_sem, c0, d0, hi, wrap_pred (i := i) (by omega), c1, d1, c4, d4]
        repeat refine ⟨by omega, ?_⟩
        refine CSm.mk (ref35_index_cs _ c n g (g q).Parent hn) ?_
        simp [go_sem, c0, d0, hi, wrap_pred (i := i) (by omega), c1, d1, c4, d4]
        repeat refine ⟨by omega, ?_⟩
        refine hK _ ?_; clear hK K
        refine awp_forget [0, 63, 64, 65, 78] (by simp only [restr, List.contains_cons, List.contains_nil, Nat.reduceBEq, Bool.or_false, Bool.or_true, Bool.true_or, Bool.false_or, if_true, if_false, Bool.false_eq_true]; rfl) ?_
        refine awp_cond rfl (fun c5 => ?_) (fun c5 => ?_)
        · have d5 := c5; try simp at d5
          have he : parE n g q = 7 := by unfold parE; rw [if_pos d5]
          rw [he] at hy; simp at hy
          have hz := rows_2 hle hx hy (by decide)
          refine awp_reg_seq fun K hK => ?_
          simp [go_sem, c0, d0, hi, wrap_pred (i := i) (by omega), c1, d1, c4, d4, c5, d5]
          repeat refine ⟨by omega, ?_⟩
          refine hK _ ?_; clear hK K
          refine awp_ret ?_
          rw [hz]; simp [go_sem, Tryz.results17]
        · have d5 := c5; try simp at d5
          have he : parE n g q = 0 := by unfold parE; rw [if_neg (by rintro ⟨h1, h2⟩; have := d5 h1; omega)]
          rw [he] at hy; simp at hy
          refine awp_skip ?_
          refine awp_reg_end fun K hK => ?_
          simp [go_sem, c0, d0, hi, wrap_pred (i := i) (by omega), c1, d1, c4, d4, c5, d5]
          try simp (disch := omega) only [wrapI]
          repeat refine ⟨by omega, ?_⟩
          refine hK _ ?_; clear hK K
          refine ⟨q + 1, back_of' (by simp) (.refl _) (by (simp [go_sem, wrap_succ (i := q) (by omega), c0, d0, hi, wrap_pred (i := i) (by omega), c1, d1, c4, d4, c5, d5] <;> omega)), ⟨by omega, by rw [hy, hj']⟩, by first | omega | (dsimp only; omega)⟩
      · have d4 := c4; try simp at d4
        have hqn : q = n := by omega
        rw [hqn, Nat.sub_self, firstE] at hy
        have hg := good_of (by omega) hx hy
        refine awp_exit ?_
        refine awp_seq ?_
        refine awp_reg_seq fun K hK => ?_
        simp [go_sem, c0, d0, hi, wrap_pred (i := i) (by omega), c1, d1, c4, d4]
        repeat refine ⟨by omega, ?_⟩
        refine hK _ ?_; clear hK K
        refine awp_block ?_
        refine awp_forget [0, 80, 81, 82] (by simp [go_sem, restr]; rfl) ?_
        refine awp_loopU (α := Nat) (fun r => [(82, .d (I r))]) (fun r => _) (fun r => r ≤ n ∧ ∀ z, z < r → ¬Cyc n g z) (fun r => n - r) 0 (by simp [go_sem]) rfl (by simp) ?_
        rintro r ⟨hr, hc⟩
        refine awp_reg_seq fun K hK => ?_
        simp [go_sem, c0, d0, hi, wrap_pred (i := i) (by omega), c1, d1, c4, d4]
        repeat refine ⟨by omega, ?_⟩
        refine hK _ ?_; clear hK K
        refine awp_seq ?_
        refine awp_forget [0, 80, 81, 82, 83] (by simp only [restr, List.contains_cons, List.contains_nil, Nat.reduceBEq, Bool.or_false, Bool.or_true, Bool.true_or, Bool.false_or, if_true, if_false, Bool.false_eq_true]; rfl) ?_
        refine awp_cond rfl (fun c6 => ?_) (fun c6 => ?_)
        · have d6 := c6; try simp at d6
          refine awp_skip ?_
          refine awp_seq ?_
          refine awp_block ?_
          refine awp_reg_seq fun K hK => ?_
          simp [go_sem, c0, d0, hi, wrap_pred (i := i) (by omega), c1, d1, c4, d4, c6, d6]
          repeat refine ⟨by omega, ?_⟩
          refine hK _ ?_; clear hK K
          refine awp_reg_seq fun K hK => ?_
          simp [go_sem, c0, d0, hi, wrap_pred (i := i) (by omega), c1, d1, c4, d4, c6, d6]
          repeat refine ⟨by omega, ?_⟩
          refine hK _ ?_; clear hK K
          refine awp_block ?_
          refine awp_forget [0, 9, 10, 80, 81, 82] (by simp [go_sem, restr]; rfl) ?_
          refine awp_loopU (α := Nat) (fun k => [(9, .d (I (g (chainX n g r k)).Parent)), (10, .d (I k))]) (fun k => σ ++ [.var ((g r).enc.map .d)]) (fun k => k ≤ n ∧ ∀ q, q < k → (g (chainX n g r q)).Parent ≠ 0) (fun k => n + 1 - k) 0 (by simp [go_sem, chainX]) rfl (by simp) ?_
          rintro k ⟨hk1, hks⟩
          refine awp_seq ?_
          refine awp_reg_seq fun K hK => ?_
          simp [go_sem, c0, d0, hi, wrap_pred (i := i) (by omega), c1, d1, c4, d4, c6, d6, wrap_succ (i := k) (by omega)]
          repeat refine ⟨by omega, ?_⟩
          refine hK _ ?_; clear hK K
          refine awp_forget [0, 9, 10, 80, 81, 82, 89] (by simp only [restr, List.contains_cons, List.contains_nil, Nat.reduceBEq, Bool.or_false, Bool.or_true, Bool.true_or, Bool.false_or, if_true, if_false, Bool.false_eq_true]; rfl) ?_
          refine awp_cond rfl (fun c7 => ?_) (fun c7 => ?_)
          · have d7 := c7; try simp at d7
            refine awp_skip ?_
            refine awp_block ?_
            refine awp_reg_seq fun K hK => ?_
            simp [go_sem, c0, d0, hi, wrap_pred (i := i) (by omega), c1, d1, c4, d4, c6, d6, wrap_succ (i := k) (by omega), c7, d7]
            try simp (disch := omega) only [wrapI]
            repeat refine ⟨by omega, ?_⟩
            refine hK _ ?_; clear hK K
            refine awp_seq ?_
            refine awp_reg_seq fun K hK => ?_
            simp [go_sem, c0, d0, hi, wrap_pred (i := i) (by omega), c1, d1, c4, d4, c6, d6, wrap_succ (i := k) (by omega), c7, d7]
            repeat refine ⟨by omega, ?_⟩
            refine hK _ ?_; clear hK K
            refine awp_forget [0, 9, 10, 80, 81, 82, 95] (by simp only [restr, List.contains_cons, List.contains_nil, Nat.reduceBEq, Bool.or_false, Bool.or_true, Bool.true_or, Bool.false_or, if_true, if_false, Bool.false_eq_true]; rfl) ?_
            refine awp_cond rfl (fun c8 => ?_) (fun c8 => ?_)
            · have d8 := c8; try simp at d8
              have hkn : k = n := by omega
              have hcy : Cyc n g r := fun q hq => by
                rcases Nat.lt_or_eq_of_le hq with h | h
                · exact hks q (by omega)
                · have e : q = k := by omega
                  rw [e]; exact d7
              have hz := rows_3 hle hx hy d6 hcy
              refine awp_reg_seq fun K hK => ?_
              simp [go_sem, c0, d0, hi, wrap_pred (i := i) (by omega), c1, d1, c4, d4, c6, d6, wrap_succ (i := k) (by omega), c7, d7, c8, d8]
              repeat refine ⟨by omega, ?_⟩
              refine hK _ ?_; clear hK K
              refine awp_ret ?_
              rw [hz]; simp [go_sem, Tryz.results17]
            · have d8 := c8; try simp at d8
              have hnx := (hg.chain_next d6 (k := k) (fun q hq => by rcases Nat.lt_or_eq_of_le hq with h | h; exact hks q h; rw [h]; exact d7)).1
              have hnl := hg.chain_lt d6 (k + 1) (fun q hq => by rcases Nat.lt_or_eq_of_le (Nat.le_of_lt_succ hq) with h | h; exact hks q h; rw [h]; exact d7)
              refine awp_skip ?_
              refine awp_reg_end fun K hK => ?_
              simp [go_sem, c0, d0, hi, wrap_pred (i := i) (by omega), c1, d1, c4, d4, c6, d6, wrap_succ (i := k) (by omega), c7, d7, c8, d8, hnx, hnl]
              repeat refine ⟨by omega, ?_⟩
              refine CSk.mk (ref35_index_cs _ c n g (g (chainX n g r k)).Parent hn) ?_
              simp [go_sem, c0, d0, hi, wrap_pred (i := i) (by omega), c1, d1, c4, d4, c6, d6, wrap_succ (i := k) (by omega), c7, d7, c8, d8, hnx, hnl]
              repeat refine ⟨by omega, ?_⟩
              refine hK _ ?_; clear hK K
              refine ⟨k + 1, back_of' (by simp [go_sem, wrap_succ (i := k) (by omega), c0, d0, hi, wrap_pred (i := i) (by omega), c1, d1, c4, d4, c6, d6, wrap_succ (i := k) (by omega), c7, d7, c8, d8, hnx, hnl]) (.refl _) (by (simp [go_sem, wrap_succ (i := k) (by omega), c0, d0, hi, wrap_pred (i := i) (by omega), c1, d1, c4, d4, c6, d6, wrap_succ (i := k) (by omega), c7, d7, c8, d8, hnx, hnl] <;> omega)), ⟨by omega, fun q hq => by rcases Nat.lt_or_eq_of_le (Nat.le_of_lt_succ hq) with h | h; exact hks q h; rw [h]; exact d7⟩, by first | omega | (dsimp only; omega)⟩
          · have d7 := c7; try simp at d7
            have hcy : ¬Cyc n g r := fun h => h k hk1 d7
            refine awp_exit ?_
            refine awp_reg_end fun K hK => ?_
            simp [go_sem, c0, d0, hi, wrap_pred (i := i) (by omega), c1, d1, c4, d4, c6, d6, wrap_succ (i := k) (by omega), c7, d7]
            try simp (disch := omega) only [wrapI]
            repeat refine ⟨by omega, ?_⟩
            refine hK _ ?_; clear hK K
            refine ⟨r + 1, back_of' (by simp) (.refl _) (by (simp [go_sem, wrap_succ (i := r) (by omega), c0, d0, hi, wrap_pred (i := i) (by omega), c1, d1, c4, d4, c6, d6, wrap_succ (i := k) (by omega), c7, d7] <;> omega)), ⟨by omega, fun z hz => by rcases Nat.lt_or_eq_of_le (Nat.le_of_lt_succ hz) with h | h; exact hc z h; rw [h]; exact hcy⟩, by first | omega | (dsimp only; omega)⟩
        · have d6 := c6; try simp at d6
          have hrn : r = n := by omega
          have hz := rows_4 hle hx hy (fun i hi => hc i (by omega))
          refine awp_exit ?_
          refine awp_reg_seq fun K hK => ?_
          simp [go_sem, c0, d0, hi, wrap_pred (i := i) (by omega), c1, d1, c4, d4, c6, d6]
          repeat refine ⟨by omega, ?_⟩
          refine hK _ ?_; clear hK K
          refine awp_ret ?_
          rw [hz]; simp [go_sem, Tryz.results17]

theorem ref35_start_cs (σ : List Blk) (c : Option Nat) (n : Nat) (g : Nat → Row) (p : Pol) (r u d : Int) (hn : n < 1000000000) (hp : PolOk p) : CSF Tryz.prog 66 [.d (SL c 3 Row.enc n g), .agg (p.enc.map .d), .d (I r), .d (I u), .d (I d)] σ (.d (I (askR n g p r u d))) := by
  refine CSF.of_body T.en66 Tryz.func66 rfl (by simp [Tryz.ntmps66]) (by simp [go_sem]) fun hwf => ?_
  refine awp_reg_seq fun K hK => ?_
  simp [go_sem, Tryz.ntmps66]
  repeat refine ⟨by omega, ?_⟩
  refine hK _ ?_; clear hK K
  refine awp_seq ?_
  refine awp_reg_seq fun K hK => ?_
  simp [go_sem]
  repeat refine ⟨by omega, ?_⟩
  refine CSk.mk (ref35_Rows_cs _ c n g hn) ?_
  simp [go_sem]
  repeat refine ⟨by omega, ?_⟩
  refine CSm.mk (ref35_Check_cs _ p hp) ?_
  simp [go_sem]
  repeat refine ⟨by omega, ?_⟩
  refine hK _ ?_; clear hK K
  refine awp_forget [0, 2, 3, 4, 18] (by simp only [restr, List.contains_cons, List.contains_nil, Nat.reduceBEq, Bool.or_false, Bool.or_true, Bool.true_or, Bool.false_or, if_true, if_false, Bool.false_eq_true]; rfl) ?_
  refine awp_cond rfl (fun c0 => ?_) (fun c0 => ?_)
  · have d0 := c0; try simp at d0
    have hz : askR n g p r u d = 1 := by unfold askR; rw [if_pos d0]
    refine awp_reg_seq fun K hK => ?_
    simp [go_sem, c0, d0]
    repeat refine ⟨by omega, ?_⟩
    refine hK _ ?_; clear hK K
    refine awp_ret ?_
    rw [hz]; simp [go_sem, Tryz.results66]
  · have d0 := c0; try simp at d0
    have hd0 : ¬(rowsChk n g ≠ 0 ∨ polChk p ≠ 0) := by omega
    refine awp_skip ?_
    refine awp_seq ?_
    refine awp_reg_seq fun K hK => ?_
    simp [go_sem, c0, d0]
    repeat refine ⟨by omega, ?_⟩
    refine hK _ ?_; clear hK K
    refine awp_forget [0, 3, 32] (by simp only [restr, List.contains_cons, List.contains_nil, Nat.reduceBEq, Bool.or_false, Bool.or_true, Bool.true_or, Bool.false_or, if_true, if_false, Bool.false_eq_true]; rfl) ?_
    refine awp_cond rfl (fun c1 => ?_) (fun c1 => ?_)
    · have d1 := c1; try simp at d1
      have hz : askR n g p r u d = 2 := by unfold askR idOk; rw [if_neg hd0, if_pos (by simp; omega)]
      refine awp_reg_seq fun K hK => ?_
      simp [go_sem, c0, d0, c1, d1]
      repeat refine ⟨by omega, ?_⟩
      refine hK _ ?_; clear hK K
      refine awp_ret ?_
      rw [hz]; simp [go_sem, Tryz.results66]
    · have d1 := c1; try simp at d1
      have hd1 : ¬(idOk r = false ∨ d < 0 ∨ 1048575 < d) := by unfold idOk; simp; omega
      refine awp_skip ?_
      refine awp_seq ?_
      refine awp_reg_seq fun K hK => ?_
      simp [go_sem, c0, d0, c1, d1]
      repeat refine ⟨by omega, ?_⟩
      refine CSm.mk (ref35_index_cs _ c n g u hn) ?_
      simp [go_sem, c0, d0, c1, d1]
      repeat refine ⟨by omega, ?_⟩
      refine hK _ ?_; clear hK K
      refine awp_forget [40] (by simp only [restr, List.contains_cons, List.contains_nil, Nat.reduceBEq, Bool.or_false, Bool.or_true, Bool.true_or, Bool.false_or, if_true, if_false, Bool.false_eq_true]; rfl) ?_
      refine awp_cond rfl (fun c2 => ?_) (fun c2 => ?_)
      · have d2 := c2; try simp at d2
        have hz : askR n g p r u d = 7 := by
          unfold askR
          rw [if_neg hd0, if_neg hd1, if_pos]
          apply Classical.byContradiction
          intro h
          have := unit_pos (n := n) (g := g) (by omega) (u := u) (by omega)
          omega
        refine awp_reg_seq fun K hK => ?_
        simp [go_sem, c0, d0, c1, d1, c2, d2]
        repeat refine ⟨by omega, ?_⟩
        refine hK _ ?_; clear hK K
        refine awp_ret ?_
        rw [hz]; simp [go_sem, Tryz.results66]
      · have d2 := c2; try simp at d2
        have hz : askR n g p r u d = 0 := by unfold askR; rw [if_neg hd0, if_neg hd1, if_neg (by omega)]
        refine awp_skip ?_
        refine awp_reg_seq fun K hK => ?_
        simp [go_sem, c0, d0, c1, d1, c2, d2]
        repeat refine ⟨by omega, ?_⟩
        refine hK _ ?_; clear hK K
        refine awp_ret ?_
        rw [hz]; simp [go_sem, Tryz.results66]

theorem policy_Path_cs (σ : List Blk) (c : Option Nat) (n : Nat) (g : Nat → Row) (u : Int) (hn : n < 1000000000) : CSF Tryz.prog 13 [.d (SL c 3 Row.enc n g), .d (I u)] σ (.tup [.d (SL none 1 encI (pathR n g u).1 (fun i => (g (wayX n g u i)).Unit)), .d (I (pathR n g u).2)]) := by
  refine CSF.of_body T.en13 Tryz.func13 rfl (by simp [Tryz.ntmps13]) (by simp [go_sem]) fun hwf => ?_
  refine awp_reg_seq fun K hK => ?_
  simp [go_sem, Tryz.ntmps13]
  repeat refine ⟨by omega, ?_⟩
  refine hK _ ?_; clear hK K
  refine awp_seq ?_
  refine awp_block ?_
  refine awp_reg_seq fun K hK => ?_
  simp [go_sem]
  repeat refine ⟨by omega, ?_⟩
  refine CSk.mk (policy_Rows_cs _ c n g hn) ?_
  simp [go_sem]
  repeat refine ⟨by omega, ?_⟩
  refine hK _ ?_; clear hK K
  refine awp_forget [0, 1, 6] (by simp only [restr, List.contains_cons, List.contains_nil, Nat.reduceBEq, Bool.or_false, Bool.or_true, Bool.true_or, Bool.false_or, if_true, if_false, Bool.false_eq_true]; rfl) ?_
  refine awp_cond rfl (fun c0 => ?_) (fun c0 => ?_)
  · have d0 := c0; try simp at d0
    have hz : pathR n g u = (0, 1) := by unfold pathR; rw [if_pos d0]
    refine awp_reg_seq fun K hK => ?_
    simp [go_sem, c0, d0]
    repeat refine ⟨by omega, ?_⟩
    refine hK _ ?_; clear hK K
    refine awp_ret ?_
    rw [hz]; simp [go_sem, Tryz.results13]
  · have d0 := c0; try simp at d0
    refine awp_reg_seq fun K hK => ?_
    simp [go_sem, c0, d0]
    repeat refine ⟨by omega, ?_⟩
    refine CSk.mk (policy_find_cs _ c n g u hn) ?_
    simp [go_sem, c0, d0]
    repeat refine ⟨by omega, ?_⟩
    refine hK _ ?_; clear hK K
    refine awp_forget [0, 1, 10] (by simp only [restr, List.contains_cons, List.contains_nil, Nat.reduceBEq, Bool.or_false, Bool.or_true, Bool.true_or, Bool.false_or, if_true, if_false, Bool.false_eq_true]; rfl) ?_
    refine awp_cond rfl (fun c1 => ?_) (fun c1 => ?_)
    · have d1 := c1; try simp at d1
      have hz : pathR n g u = (0, 7) := by unfold pathR; rw [if_neg (by simp [d0]), if_pos d1]
      refine awp_reg_seq fun K hK => ?_
      simp [go_sem, c0, d0, c1, d1]
      repeat refine ⟨by omega, ?_⟩
      refine hK _ ?_; clear hK K
      refine awp_ret ?_
      rw [hz]; simp [go_sem, Tryz.results13]
    · have d1 := c1; try simp at d1
      have hz : pathR n g u = (wayK n g u, 0) := by unfold pathR; rw [if_neg (by simp [d0]), if_neg (by omega)]
      refine awp_skip ?_
      refine awp_reg_seq fun K hK => ?_
      simp [go_sem, c0, d0, c1, d1]
      repeat refine ⟨by omega, ?_⟩
      refine CSk.mk (policy_path_cs _ c n g u _ _ (way_of d0 u).2 hn (by have := (way_of d0 u).1; omega)) ?_
      simp [go_sem, c0, d0, c1, d1]
      repeat refine ⟨by omega, ?_⟩
      refine hK _ ?_; clear hK K
      refine awp_ret ?_
      rw [hz]; simp [go_sem, Tryz.results13]

theorem ref35_Path_cs (σ : List Blk) (c : Option Nat) (n : Nat) (g : Nat → Row) (u : Int) (hn : n < 1000000000) : CSF Tryz.prog 15 [.d (SL c 3 Row.enc n g), .d (I u)] σ (.tup [.d (SL none 1 encI (pathR n g u).1 (fun i => (g (wayX n g u i)).Unit)), .d (I (pathR n g u).2)]) := by
  refine CSF.of_body T.en15 Tryz.func15 rfl (by simp [Tryz.ntmps15]) (by simp [go_sem]) fun hwf => ?_
  refine awp_reg_seq fun K hK => ?_
  simp [go_sem, Tryz.ntmps15]
  repeat refine ⟨by omega, ?_⟩
  refine hK _ ?_; clear hK K
  refine awp_seq ?_
  refine awp_reg_seq fun K hK => ?_
  simp [go_sem]
  repeat refine ⟨by omega, ?_⟩
  refine CSk.mk (ref35_Rows_cs _ c n g hn) ?_
  simp [go_sem]
  repeat refine ⟨by omega, ?_⟩
  refine hK _ ?_; clear hK K
  refine awp_forget [0, 1, 10] (by simp only [restr, List.contains_cons, List.contains_nil, Nat.reduceBEq, Bool.or_false, Bool.or_true, Bool.true_or, Bool.false_or, if_true, if_false, Bool.false_eq_true]; rfl) ?_
  refine awp_cond rfl (fun c0 => ?_) (fun c0 => ?_)
  · have d0 := c0; try simp at d0
    have hz : pathR n g u = (0, 1) := by unfold pathR; rw [if_pos d0]
    refine awp_reg_seq fun K hK => ?_
    simp [go_sem, c0, d0]
    repeat refine ⟨by omega, ?_⟩
    refine hK _ ?_; clear hK K
    refine awp_ret ?_
    rw [hz]; simp [go_sem, Tryz.results15]
  · have d0 := c0; try simp at d0
    refine awp_skip ?_
    refine awp_seq ?_
    refine awp_reg_seq fun K hK => ?_
    simp [go_sem, c0, d0]
    repeat refine ⟨by omega, ?_⟩
    refine CSm.mk (ref35_index_cs _ c n g u hn) ?_
    simp [go_sem, c0, d0]
    repeat refine ⟨by omega, ?_⟩
    refine hK _ ?_; clear hK K
    refine awp_forget [0, 1, 18] (by simp only [restr, List.contains_cons, List.contains_nil, Nat.reduceBEq, Bool.or_false, Bool.or_true, Bool.true_or, Bool.false_or, if_true, if_false, Bool.false_eq_true]; rfl) ?_
    refine awp_cond rfl (fun c1 => ?_) (fun c1 => ?_)
    · have d1 := c1; try simp at d1
      have hz : pathR n g u = (0, 7) := by
        unfold pathR; rw [if_neg (by simp [d0]), if_pos]
        apply Classical.byContradiction
        intro h
        have := unit_pos d0 (u := u) (by omega)
        omega
      refine awp_reg_seq fun K hK => ?_
      simp [go_sem, c0, d0, c1, d1]
      repeat refine ⟨by omega, ?_⟩
      refine hK _ ?_; clear hK K
      refine awp_ret ?_
      rw [hz]; simp [go_sem, Tryz.results15]
    · have d1 := c1; try simp at d1
      have hz : pathR n g u = (wayK n g u, 0) := by unfold pathR; rw [if_neg (by simp [d0]), if_neg (by omega)]
      obtain ⟨hwk, hway⟩ := way_of d0 u
      obtain ⟨hw0, hw1, hw2⟩ := way_units d0 u
      have hkp : 0 < wayK n g u := by
        rcases Nat.eq_zero_or_pos (wayK n g u) with h | h
        · have := (way_zero d0 u).1 h; omega
        · exact h
      have hgo := (rows_good d0).1
      refine awp_skip ?_
      refine awp_reg_seq fun K hK => ?_
      simp [go_sem, c0, d0, c1, d1]
      repeat refine ⟨by omega, ?_⟩
      refine hK _ ?_; clear hK K
      refine awp_seq ?_
      refine awp_thawT 6 1 (fun i => encI (g (wayX n g u i)).Unit) (by simp [go_sem]) (by simp [go_sem]; rfl) ?_
      refine awp_reg_seq fun K hK => ?_
      simp [go_sem, c0, d0, c1, d1]
      repeat refine ⟨by omega, ?_⟩
      refine hK _ ?_; clear hK K
      refine awp_block ?_
      refine awp_forget [0, 6, 7] (by simp [go_sem, restr]; rfl) ?_
      refine awp_mv [σ.length] (by simp) ?_
      refine awp_loopU (α := Nat) (fun k => [(6, .ms σ.length 1 0 k), (7, .d (I (if k = wayK n g u then 0 else (g (wayX n g u k)).Unit)))]) (fun k => σ ++ [.arr 1 k (fun i => encI (g (wayX n g u i)).Unit)]) (fun k => k ≤ wayK n g u) (fun k => wayK n g u - k) 0 (by simp [go_sem, show ¬ 0 = wayK n g u by omega, hw0 hkp]) rfl (by simp) ?_
      rintro k hk1
      refine awp_seq ?_
      refine awp_reg_seq fun K hK => ?_
      simp [go_sem, c0, d0, c1, d1]
      repeat refine ⟨by omega, ?_⟩
      refine hK _ ?_; clear hK K
      refine awp_forget [0, 6, 7, 21] (by simp only [restr, List.contains_cons, List.contains_nil, Nat.reduceBEq, Bool.or_false, Bool.or_true, Bool.true_or, Bool.false_or, if_true, if_false, Bool.false_eq_true]; rfl) ?_
      refine awp_cond rfl (fun c2 => ?_) (fun c2 => ?_)
      · have d2 := c2; try simp at d2
        have hkk : ¬ k = wayK n g u := d2.1
        have hnx : (if k + 1 = wayK n g u then 0 else (g (wayX n g u (k + 1))).Unit) = (g (wayX n g u k)).Parent := by
          by_cases h : k + 1 = wayK n g u
          · rw [if_pos h]; exact (hw2 k h).symm
          · rw [if_neg h]; exact (hw1 k (by omega)).1
        have hkl := hway.lt k (by omega)
        have hun := hgo.find hkl
        refine awp_skip ?_
        refine awp_seq ?_
        refine awp_block ?_
        refine awp_reg_end fun K hK => ?_
        simp [go_sem, c0, d0, c1, d1, c2, d2, hkk, hun, hnx, hwf.one, hwf.zero]
        repeat refine ⟨by omega, ?_⟩
        refine hK _ ?_; clear hK K
        refine awp_rows σ.length (fun i => encI (g (wayX n g u i)).Unit) (by simp [go_sem]; first | exact ⟨rfl, rfl, rfl⟩ | exact ⟨rfl, rfl⟩ | rfl) (by intro i hi; refine cat_fn (enc := encI) (f := fun i => (g (wayX n g u i)).Unit) ?_ hi; simp [encI]) (by simp [go_sem]; rfl) ?_
        refine awp_reg_end fun K hK => ?_
        simp [go_sem, c0, d0, c1, d1, c2, d2, hkk, hun, hnx]
        repeat refine ⟨by omega, ?_⟩
        refine CSk.mk (ref35_index_cs _ c n g (g (wayX n g u k)).Unit hn) ?_
        simp [go_sem, c0, d0, c1, d1, c2, d2, hkk, hun, hnx]
        repeat refine ⟨by omega, ?_⟩
        refine hK _ ?_; clear hK K
        refine ⟨k + 1, back_of' (by simp [go_sem, c0, d0, c1, d1, c2, d2, hkk, hun, hnx]) ((leaves_app (by simp [go_sem]))) (by (simp [go_sem, c0, d0, c1, d1, c2, d2, hkk, hun, hnx] <;> omega)), by omega, by first | omega | (dsimp only; omega)⟩
      · have d2 := c2; try simp at d2
        have hkk : k = wayK n g u := by
          apply Classical.byContradiction
          intro h
          have d2' := d2 h
          have hkl := hway.lt k (by omega)
          have := hgo.ok _ hkl
          simp [rowOk, idOk] at this
          omega
        refine awp_exit ?_
        refine awp_reg_seq fun K hK => ?_
        simp [go_sem, c0, d0, c1, d1, c2, d2]
        repeat refine ⟨by omega, ?_⟩
        refine hK _ ?_; clear hK K
        refine awp_freeze (σ.length) (by simp [go_sem]; first | exact ⟨rfl, rfl, rfl⟩ | exact ⟨rfl, rfl⟩ | rfl) (by simp [go_sem]; rfl) (by simp [go_sem, hwf.frz, hwf.frz0]; rfl) ?_
        refine awp_ret ?_
        rw [hz]; simp [go_sem, Tryz.results15, hkk]

theorem policy_Grounds_cs (σ : List Blk) (c : Option Nat) (n : Nat) (g : Nat → Row) (p : Pol) (u d : Int) (hn : n < 1000000000) (hp : PolOk p) (hσ : σ[0]? = some (.loc 0)) : CSF Tryz.prog 25 [.d (SL c 3 Row.enc n g), .agg (p.enc.map .d), .d (I u), .d (I d)] σ (.tup [.d (SL none 4 Ground.enc (grdR n g p u d).1.length (nth (grdR n g p u d).1)), .d (I (grdR n g p u d).2)]) := by
  refine CSF.of_body T.en25 Tryz.func25 rfl (by simp [Tryz.ntmps25]) (by simp [go_sem]) fun hwf => ?_
  refine awp_reg_seq fun K hK => ?_
  simp [go_sem, Tryz.ntmps25]
  repeat refine ⟨by omega, ?_⟩
  refine hK _ ?_; clear hK K
  refine awp_seq ?_
  refine awp_reg_seq fun K hK => ?_
  simp [go_sem]
  repeat refine ⟨by omega, ?_⟩
  refine CSk.mk (policy_asked_cs _ c n g p 1 u d hn hp (loc_app hσ)) ?_
  simp [go_sem]
  repeat refine ⟨by omega, ?_⟩
  refine hK _ ?_; clear hK K
  refine awp_reg_seq fun K hK => ?_
  simp [go_sem]
  repeat refine ⟨by omega, ?_⟩
  refine hK _ ?_; clear hK K
  refine awp_forget [0, 2, 3, 5, 10, 17] (by simp only [restr, List.contains_cons, List.contains_nil, Nat.reduceBEq, Bool.or_false, Bool.or_true, Bool.true_or, Bool.false_or, if_true, if_false, Bool.false_eq_true]; rfl) ?_
  refine awp_cond rfl (fun c0 => ?_) (fun c0 => ?_)
  · have d0 := c0; try simp at d0
    have hz : grdR n g p u d = ([], askR n g p 1 u d) := by unfold grdR; rw [if_pos d0]
    refine awp_reg_seq fun K hK => ?_
    simp [go_sem, c0, d0]
    repeat refine ⟨by omega, ?_⟩
    refine hK _ ?_; clear hK K
    refine awp_ret ?_
    rw [hz]; simp [go_sem, Tryz.results25]
  · have d0 := c0; try simp at d0
    have hz : grdR n g p u d = (wayG n g p u d, 0) := by unfold grdR; rw [if_neg (by simp [d0])]
    refine awp_skip ?_
    refine awp_reg_seq fun K hK => ?_
    simp [go_sem, c0, d0]
    repeat refine ⟨by omega, ?_⟩
    refine CSk.mk (policy_grounds_cs _ c n g p u d (rows_le (ask_zero d0).1) hp (ask_zero d0).1 (loc_app hσ)) ?_
    simp [go_sem, c0, d0]
    repeat refine ⟨by omega, ?_⟩
    refine hK _ ?_; clear hK K
    refine awp_ret ?_
    rw [hz]; simp [go_sem, Tryz.results25]

theorem policy_Decide_cs (σ : List Blk) (c : Option Nat) (n : Nat) (g : Nat → Row) (p : Pol) (r u d : Int) (hn : n < 1000000000) (hp : PolOk p) (hσ : σ[0]? = some (.loc 0)) : CSF Tryz.prog 22 [.d (SL c 3 Row.enc n g), .agg (p.enc.map .d), .d (I r), .d (I u), .d (I d)] σ (.tup [.agg ((decideR n g p r u d).1.enc.map .d), .d (I (decideR n g p r u d).2)]) := by
  refine CSF.of_body T.en22 Tryz.func22 rfl (by simp [Tryz.ntmps22]) (by simp [go_sem]) fun hwf => ?_
  refine awp_reg_seq fun K hK => ?_
  simp [go_sem, Tryz.ntmps22]
  repeat refine ⟨by omega, ?_⟩
  refine hK _ ?_; clear hK K
  refine awp_seq ?_
  refine awp_reg_seq fun K hK => ?_
  simp [go_sem]
  repeat refine ⟨by omega, ?_⟩
  refine CSk.mk (policy_asked_cs _ c n g p r u d hn hp (loc_app hσ)) ?_
  simp [go_sem]
  repeat refine ⟨by omega, ?_⟩
  refine hK _ ?_; clear hK K
  refine awp_reg_seq fun K hK => ?_
  simp [go_sem]
  repeat refine ⟨by omega, ?_⟩
  refine hK _ ?_; clear hK K
  refine awp_forget [0, 2, 3, 4, 6, 10, 12, 20] (by simp only [restr, List.contains_cons, List.contains_nil, Nat.reduceBEq, Bool.or_false, Bool.or_true, Bool.true_or, Bool.false_or, if_true, if_false, Bool.false_eq_true]; rfl) ?_
  refine awp_cond rfl (fun c0 => ?_) (fun c0 => ?_)
  · have d0 := c0; try simp at d0
    have hz : decideR n g p r u d = (Acc.zero, askR n g p r u d) := by unfold decideR; rw [if_pos d0]
    refine awp_reg_seq fun K hK => ?_
    simp [go_sem, c0, d0]
    repeat refine ⟨by omega, ?_⟩
    refine hK _ ?_; clear hK K
    refine awp_ret ?_
    rw [hz]; simp [go_sem, Tryz.results22, Acc.zero]
  · have d0 := c0; try simp at d0
    have hz : decideR n g p r u d = (decW n g p r u d, 0) := by unfold decideR; rw [if_neg (by simp [d0])]
    refine awp_skip ?_
    refine awp_reg_seq fun K hK => ?_
    simp [go_sem, c0, d0]
    repeat refine ⟨by omega, ?_⟩
    refine CSk.mk (policy_decide_cs _ c n g p r u d hp (ask_zero d0).1 (loc_app hσ)) ?_
    simp [go_sem, c0, d0]
    repeat refine ⟨by omega, ?_⟩
    refine hK _ ?_; clear hK K
    refine awp_ret ?_
    rw [hz]; simp [go_sem, Tryz.results22]

theorem policy_Verify_cs (σ : List Blk) (c : Option Nat) (n : Nat) (g : Nat → Row) (p : Pol) (x : Acc) (hn : n < 1000000000) (hp : PolOk p) (hx : x.nr < 1000000000) (hσ : σ[0]? = some (.loc 0)) : CSF Tryz.prog 23 [.d (SL c 3 Row.enc n g), .agg (p.enc.map .d), .agg (x.enc.map .d)] σ (.d (I (verR n g p x))) := by
  refine CSF.of_body T.en23 Tryz.func23 rfl (by simp [Tryz.ntmps23]) (by simp [go_sem]) fun hwf => ?_
  refine awp_reg_seq fun K hK => ?_
  simp [go_sem, Tryz.ntmps23]
  repeat refine ⟨by omega, ?_⟩
  refine hK _ ?_; clear hK K
  refine awp_seq ?_
  refine awp_reg_seq fun K hK => ?_
  simp [go_sem]
  repeat refine ⟨by omega, ?_⟩
  refine CSk.mk (policy_asked_cs _ c n g p x.Reader x.Unit x.Day hn hp (loc_app hσ)) ?_
  simp [go_sem]
  repeat refine ⟨by omega, ?_⟩
  refine hK _ ?_; clear hK K
  refine awp_reg_seq fun K hK => ?_
  simp [go_sem]
  repeat refine ⟨by omega, ?_⟩
  refine hK _ ?_; clear hK K
  refine awp_forget [0, 4, 5, 7, 19] (by simp only [restr, List.contains_cons, List.contains_nil, Nat.reduceBEq, Bool.or_false, Bool.or_true, Bool.true_or, Bool.false_or, if_true, if_false, Bool.false_eq_true]; rfl) ?_
  refine awp_cond rfl (fun c0 => ?_) (fun c0 => ?_)
  · have d0 := c0; try simp at d0
    have hz : verR n g p x = askR n g p x.Reader x.Unit x.Day := by unfold verR; rw [if_pos d0]
    refine awp_reg_seq fun K hK => ?_
    simp [go_sem, c0, d0]
    repeat refine ⟨by omega, ?_⟩
    refine hK _ ?_; clear hK K
    refine awp_ret ?_
    rw [hz]; simp [go_sem, Tryz.results23]
  · have d0 := c0; try simp at d0
    refine awp_skip ?_
    refine awp_seq ?_
    refine awp_reg_seq fun K hK => ?_
    simp [go_sem, c0, d0]
    repeat refine ⟨by omega, ?_⟩
    refine CSk.mk (policy_decide_cs _ c n g p x.Reader x.Unit x.Day hp (ask_zero d0).1 (loc_app hσ)) ?_
    simp [go_sem, c0, d0]
    repeat refine ⟨by omega, ?_⟩
    refine hK _ ?_; clear hK K
    refine awp_reg_seq fun K hK => ?_
    simp [go_sem, c0, d0]
    repeat refine ⟨by omega, ?_⟩
    refine CSm.mk (equalReason_cs _ none none x.nr (decW n g p x.Reader x.Unit x.Day).nr x.rs (decW n g p x.Reader x.Unit x.Day).rs hx (by have := decW_nr hp (ask_zero d0).1 x.Reader x.Unit x.Day; omega)) ?_
    simp [go_sem, c0, d0]
    repeat refine ⟨by omega, ?_⟩
    refine hK _ ?_; clear hK K
    refine awp_forget [42] (by simp only [restr, List.contains_cons, List.contains_nil, Nat.reduceBEq, Bool.or_false, Bool.or_true, Bool.true_or, Bool.false_or, if_true, if_false, Bool.false_eq_true]; rfl) ?_
    refine awp_cond rfl (fun c1 => ?_) (fun c1 => ?_)
    · have d1 := c1; try simp at d1
      have hz : verR n g p x = 14 := by unfold verR; rw [if_neg (by simp [d0]), if_pos d1]
      refine awp_reg_seq fun K hK => ?_
      simp [go_sem, c0, d0, c1, d1]
      repeat refine ⟨by omega, ?_⟩
      refine hK _ ?_; clear hK K
      refine awp_ret ?_
      rw [hz]; simp [go_sem, Tryz.results23]
    · have d1 := c1; try simp at d1
      have hz : verR n g p x = 0 := by
        unfold verR; rw [if_neg (by simp [d0]), if_neg]
        rintro (h | h)
        · exact h d1.1
        · have := d1.2; rw [h] at this; cases this
      refine awp_skip ?_
      refine awp_reg_seq fun K hK => ?_
      simp [go_sem, c0, d0, c1, d1]
      repeat refine ⟨by omega, ?_⟩
      refine hK _ ?_; clear hK K
      refine awp_ret ?_
      rw [hz]; simp [go_sem, Tryz.results23]

end Go.Proofs.YtkochmppmpmddaaGreat

/-! Dj -/
namespace Go.Proofs.YtkochmppmpmddaaGreat
open Go.Abs Go.Arch
set_option linter.unusedVariables false
set_option linter.unusedSimpArgs false
set_option maxRecDepth 100000
set_option maxHeartbeats 1000000

theorem firstR_no {N : Nat} {G : Nat → Pmt} {r : Int} {n : Nat} {g : Nat → Int} {k d : Int} (h : (firstR N G r n g k d).2 = false) : (firstR N G r n g k d).1 = 0 := by
  unfold firstR at h ⊢
  split
  · rfl
  · rename_i hn; rw [if_neg hn] at h; cases h
theorem cat_app {α : Type} [Inhabited α] {enc : α → List D} {l m : List α} {q : Nat} (hq : q < l.length + m.length) : catRows l.length (fun i => enc (nth l i)) (fun i => enc (nth m i)) q = enc (nth (l ++ m) q) := by
  unfold catRows
  by_cases h : q < l.length
  · rw [if_pos h]; simp [nth, List.getElem?_append_left h]
  · rw [if_neg h]; simp [nth, List.getElem?_append_right (Nat.le_of_not_lt h)]
def visF (n : Nat) (f : Nat → Bool) (g : Nat → Row) (i : Nat) : List Int := if f i = true then [(g i).Unit] else []
theorem visF_len (n : Nat) (f : Nat → Bool) (g : Nat → Row) (i : Nat) : (visF n f g i).length ≤ 1 := by unfold visF; split <;> simp
noncomputable def visR (n : Nat) (g : Nat → Row) (p : Pol) (r d : Int) : List Int × Int := if rowsChk n g ≠ 0 ∨ polChk p ≠ 0 then ([], 1) else if idOk r = false ∨ d < 0 ∨ 1048575 < d then ([], 2)
  else (gather (visF n (fun i => (decW n g p r (g i).Unit d).Granted) g) n, 0)
theorem subs_uniq {p : Pol} (h : subChk p = 0) {i j : Nat} (hi : i < p.ns) (hj : j < p.ns) (he : (p.gs i).Unit = (p.gs j).Unit) : i = j := by
  have h1 : ∀ i, i < p.ns → 0 < i → (p.gs (i - 1)).Unit < (p.gs i).Unit := fun i hi hp => by
    unfold subChk at h
    split at h
    · omega
    have := firstE_zero h i (by omega) (by omega)
    unfold subE at this
    split at this
    · omega
    split at this
    · omega
    split at this
    · omega
    rename_i h3
    apply Classical.byContradiction
    intro hn
    exact h3 (.inl ⟨hp, by omega⟩)
  have h2 : ∀ i, i < p.ns → ∀ j, j < i → (p.gs j).Unit < (p.gs i).Unit := by
    intro i
    induction i with
    | zero => intro _ j hj; omega
    | succ i ih =>
      intro hi j hj
      have h3 := h1 (i + 1) hi (by omega)
      simp only [Nat.add_sub_cancel] at h3
      rcases Nat.lt_or_eq_of_le (Nat.le_of_lt_succ hj) with h | h
      · have := ih (by omega) j h; omega
      · rw [h]; exact h3
  rcases Nat.lt_trichotomy i j with h3 | h3 | h3
  · have := h2 j hj i h3; omega
  · exact h3
  · have := h2 i hi j h3; omega
theorem findS_ge (n : Nat) (g : Nat → Sbj) (u : Int) : -1 ≤ findS n g u := by
  rcases idx_spec (fun r : Sbj => r.Unit == u) (lst n g) 0 with ⟨h2, _⟩ | ⟨q, h2, h3, _⟩ <;> unfold findS <;> omega
theorem findS_at {n : Nat} {g : Nat → Sbj} {u : Int} (h : 0 ≤ findS n g u) : (findS n g u).toNat < n ∧ (g (findS n g u).toNat).Unit = u := by
  have h1 := findS_lt n g u
  refine ⟨by omega, ?_⟩
  rcases idx_spec (fun r : Sbj => r.Unit == u) (lst n g) 0 with ⟨h2, _⟩ | ⟨q, h2, h3, x, h4, h5, _⟩
  · unfold findS at h; omega
  · have e : (findS n g u).toNat = q := by unfold findS; rw [h3]; omega
    rw [lst_length] at h2
    rw [lst_get h2] at h4
    rw [e]; cases h4; simpa using h5
theorem findS_is {p : Pol} (h : subChk p = 0) {i : Nat} (hi : i < p.ns) : findS p.ns p.gs (p.gs i).Unit = (i : Int) := by
  have h1 : 0 ≤ findS p.ns p.gs (p.gs i).Unit := by
    rcases idx_spec (fun r : Sbj => r.Unit == (p.gs i).Unit) (lst p.ns p.gs) 0 with ⟨h2, h3⟩ | ⟨q, h2, h3, _⟩
    · have := h3 (p.gs i) (by simp only [lst, List.mem_map, List.mem_range]; exact ⟨i, hi, rfl⟩)
      simp at this
    · unfold findS; omega
  obtain ⟨h2, h3⟩ := findS_at h1
  have := subs_uniq h h2 hi h3
  omega
theorem pol_parts {p : Pol} (h : polChk p = 0) : check p.nc p.gc = 0 ∧ prsChk p.np p.gp = 0 ∧ agrChk p.na p.ga = 0 ∧ pmtChk p.nm p.gm = 0 ∧ 0 ≤ p.Years ∧ p.Years ≤ 200 ∧ subChk p = 0 := by
  unfold polChk at h
  split at h
  · exact absurd h (by assumption)
  rename_i h1
  split at h
  · omega
  have h1 := Decidable.not_not.1 h1
  exact ⟨firstE_zero h1 0 (by omega) (by omega), firstE_zero h1 1 (by omega) (by omega), firstE_zero h1 2 (by omega) (by omega), firstE_zero h1 3 (by omega) (by omega), by omega, by omega, h⟩
theorem sub_class {p : Pol} (h : subChk p = 0) {i : Nat} (hi : i < p.ns) : 0 ≤ (p.gs i).Class := by
  unfold subChk at h
  split at h
  · omega
  have := firstE_zero h i (by omega) (by omega)
  unfold subE at this
  split at this
  · omega
  · omega
/-- what the first subjects give -/
def subsG (p : Pol) (r : Row) (d : Int) (i : Nat) : List Ground := if 0 ≤ findS p.ns p.gs r.Unit ∧ findS p.ns p.gs r.Unit < i then clsG p r d 0 ++ clsG p r d 1 else []
theorem subsG_succ {p : Pol} (h : subChk p = 0) {r : Row} {d : Int} {i : Nat} (hi : i < p.ns) : subsG p r d (i + 1) = if (p.gs i).Unit = r.Unit then clsG p r d 0 ++ clsG p r d 1 else subsG p r d i := by
  unfold subsG
  by_cases he : (p.gs i).Unit = r.Unit
  · have := findS_is h hi
    rw [he] at this
    rw [if_pos he, if_pos (by omega)]
  · rw [if_neg he]
    have hne : findS p.ns p.gs r.Unit ≠ i := fun hf => by
      have := findS_at (n := p.ns) (g := p.gs) (u := r.Unit) (by omega)
      rw [hf] at this
      exact he (by simpa using this.2)
    by_cases h2 : 0 ≤ findS p.ns p.gs r.Unit ∧ findS p.ns p.gs r.Unit < (i : Int)
    · rw [if_pos h2, if_pos (by omega)]
    · rw [if_neg h2, if_neg (by omega)]
theorem subsG_here {p : Pol} (h : subChk p = 0) {r : Row} {d : Int} {i : Nat} (hi : i < p.ns) (he : (p.gs i).Unit = r.Unit) : subsG p r d i = [] ∧ (subjR p r.Unit).1 = p.gs i := by
  have := findS_is h hi
  rw [he] at this
  unfold subsG subjR
  rw [if_neg (by omega), if_neg (by omega), this]
  exact ⟨rfl, by simp⟩
theorem subsG_all {p : Pol} (r : Row) (d : Int) : subsG p r d p.ns = clsG p r d 0 ++ clsG p r d 1 := by
  unfold subsG
  have h1 := findS_lt p.ns p.gs r.Unit
  by_cases h0 : 0 ≤ findS p.ns p.gs r.Unit
  · rw [if_pos ⟨h0, h1⟩]
  · rw [if_neg (by omega)]
    have hs : (subjR p r.Unit).1 = Sbj.zero := by unfold subjR; rw [if_pos (by omega)]
    rw [clsG_0, clsG_1, hs, if_neg (by simp [Sbj.zero])]
    have : (prsGr p.np p.gp Sbj.zero.np Sbj.zero.ps Sbj.zero.Made p.Years d).1.length ≤ 0 := prsGr_len _ _ _ _ _ _ _
    rw [List.eq_nil_of_length_eq_zero (Nat.le_zero.1 this)]
    rfl
theorem rowG_eq (p : Pol) (d : Int) (r : Row) : rowG p d r = (clsG p r d 0 ++ clsG p r d 1 ++ clsG p r d 2).map (setU r.Unit) := by
  unfold rowG gather clsU
  simp [gather]


theorem policy_Visible_cs (σ : List Blk) (c : Option Nat) (n : Nat) (g : Nat → Row) (p : Pol) (r d : Int) (hn : n < 1000000000) (hp : PolOk p) (hσ : σ[0]? = some (.loc 0)) : CSF Tryz.prog 33 [.d (SL c 3 Row.enc n g), .agg (p.enc.map .d), .d (I r), .d (I d)] σ (.tup [.d (SL none 1 encI (visR n g p r d).1.length (nth (visR n g p r d).1)), .d (I (visR n g p r d).2)]) := by
  refine CSF.of_body T.en33 Tryz.func33 rfl (by simp [Tryz.ntmps33]) (by simp [go_sem]) fun hwf => ?_
  refine awp_reg_seq fun K hK => ?_
  simp [go_sem, Tryz.ntmps33]
  repeat refine ⟨by omega, ?_⟩
  refine hK _ ?_; clear hK K
  refine awp_seq ?_
  refine awp_block ?_
  refine awp_reg_seq fun K hK => ?_
  simp [go_sem]
  repeat refine ⟨by omega, ?_⟩
  refine CSk.mk (policy_Rows_cs _ c n g hn) ?_
  simp [go_sem]
  repeat refine ⟨by omega, ?_⟩
  refine CSm.mk (policy_Check_cs _ p hp (loc_app hσ)) ?_
  simp [go_sem]
  repeat refine ⟨by omega, ?_⟩
  refine hK _ ?_; clear hK K
  refine awp_forget [0, 2, 3, 5, 13] (by simp only [restr, List.contains_cons, List.contains_nil, Nat.reduceBEq, Bool.or_false, Bool.or_true, Bool.true_or, Bool.false_or, if_true, if_false, Bool.false_eq_true]; rfl) ?_
  refine awp_cond rfl (fun c0 => ?_) (fun c0 => ?_)
  · have d0 := c0; try simp at d0
    have hz : visR n g p r d = ([], 1) := by unfold visR; rw [if_pos d0]
    refine awp_reg_seq fun K hK => ?_
    simp [go_sem, c0, d0]
    repeat refine ⟨by omega, ?_⟩
    refine hK _ ?_; clear hK K
    refine awp_ret ?_
    rw [hz]; simp [go_sem, Tryz.results33]
  · have d0 := c0; try simp at d0
    have hd0 : ¬(rowsChk n g ≠ 0 ∨ polChk p ≠ 0) := by omega
    refine awp_reg_seq fun K hK => ?_
    simp [go_sem, c0, d0]
    repeat refine ⟨by omega, ?_⟩
    refine CSk.mk (policy_id_cs _ r) ?_
    simp [go_sem, c0, d0]
    repeat refine ⟨by omega, ?_⟩
    refine hK _ ?_; clear hK K
    refine awp_forget [0, 2, 3, 5, 22] (by simp only [restr, List.contains_cons, List.contains_nil, Nat.reduceBEq, Bool.or_false, Bool.or_true, Bool.true_or, Bool.false_or, if_true, if_false, Bool.false_eq_true]; rfl) ?_
    refine awp_cond rfl (fun c1 => ?_) (fun c1 => ?_)
    · have d1 := c1; try simp at d1
      have hz : visR n g p r d = ([], 2) := by unfold visR; rw [if_neg hd0, if_pos (by simpa [or_assoc] using d1)]
      refine awp_reg_seq fun K hK => ?_
      simp [go_sem, c0, d0, c1, d1]
      repeat refine ⟨by omega, ?_⟩
      refine hK _ ?_; clear hK K
      refine awp_ret ?_
      rw [hz]; simp [go_sem, Tryz.results33]
    · have d1 := c1; try simp at d1
      have hd1 : ¬(idOk r = false ∨ d < 0 ∨ 1048575 < d) := by
        rintro (h | h | h)
        · have := d1.1.1; rw [h] at this; cases this
        · omega
        · omega
      have hz : visR n g p r d = (gather (visF n (fun i => (decW n g p r (g i).Unit d).Granted) g) n, 0) := by unfold visR; rw [if_neg hd0, if_neg hd1]
      refine awp_skip ?_
      refine awp_reg_seq fun K hK => ?_
      simp [go_sem, c0, d0, c1, d1]
      repeat refine ⟨by omega, ?_⟩
      refine hK _ ?_; clear hK K
      refine awp_seq ?_
      refine awp_thawT 10 1 (fun i => encI (nth ([] : List Int) i)) (by simp [go_sem]) (by simp [go_sem]; rfl) ?_
      refine awp_reg_seq fun K hK => ?_
      simp [go_sem, c0, d0, c1, d1]
      repeat refine ⟨by omega, ?_⟩
      refine hK _ ?_; clear hK K
      refine awp_block ?_
      refine awp_forget [0, 2, 3, 5, 10, 34, 35, 36] (by simp [go_sem, restr]; rfl) ?_
      refine awp_mv [σ.length + 1] (by simp) ?_
      refine awp_loopU (α := Nat) (fun i => [(10, .ms (σ.length + 1) 1 0 (gather (visF n (fun i => (decW n g p r (g i).Unit d).Granted) g) i).length), (36, .d (I i))]) (fun i => σ ++ [.var (p.enc.map .d), .arr 1 (gather (visF n (fun i => (decW n g p r (g i).Unit d).Granted) g) i).length (fun q => encI (nth (gather (visF n (fun i => (decW n g p r (g i).Unit d).Granted) g) i) q))]) (fun i => i ≤ n) (fun i => n - i) 0 (by simp [go_sem, gather]) rfl (by simp) ?_
      rintro i hi
      refine awp_reg_seq fun K hK => ?_
      simp [go_sem, c0, d0, c1, d1]
      repeat refine ⟨by omega, ?_⟩
      refine hK _ ?_; clear hK K
      refine awp_seq ?_
      refine awp_forget [0, 2, 3, 5, 10, 34, 35, 36, 37] (by simp only [restr, List.contains_cons, List.contains_nil, Nat.reduceBEq, Bool.or_false, Bool.or_true, Bool.true_or, Bool.false_or, if_true, if_false, Bool.false_eq_true]; rfl) ?_
      refine awp_cond rfl (fun c2 => ?_) (fun c2 => ?_)
      · have d2 := c2; try simp at d2
        have hl := gather_len (visF_len n (fun i => (decW n g p r (g i).Unit d).Granted) g) i
        refine awp_skip ?_
        refine awp_seq ?_
        refine awp_block ?_
        refine awp_reg_seq fun K hK => ?_
        simp [go_sem, c0, d0, c1, d1, c2, d2]
        repeat refine ⟨by omega, ?_⟩
        refine hK _ ?_; clear hK K
        refine awp_reg_seq fun K hK => ?_
        simp [go_sem, c0, d0, c1, d1, c2, d2]
        repeat refine ⟨by omega, ?_⟩
        refine CSk.mk (policy_decide_cs _ c n g p r (g i).Unit d hp d0.1 (loc_app hσ)) ?_
        simp [go_sem, c0, d0, c1, d1, c2, d2]
        repeat refine ⟨by omega, ?_⟩
        refine hK _ ?_; clear hK K
        refine awp_forget [0, 2, 3, 5, 10, 12, 34, 35, 36, 47] (by simp only [restr, List.contains_cons, List.contains_nil, Nat.reduceBEq, Bool.or_false, Bool.or_true, Bool.true_or, Bool.false_or, if_true, if_false, Bool.false_eq_true]; rfl) ?_
        refine awp_cond rfl (fun c3 => ?_) (fun c3 => ?_)
        · have d3 := c3; try simp at d3
          have ha : gather (visF n (fun i => (decW n g p r (g i).Unit d).Granted) g) (i + 1) = gather (visF n (fun i => (decW n g p r (g i).Unit d).Granted) g) i ++ [(g i).Unit] := by rw [gather, visF, if_pos d3]
          refine awp_reg_end fun K hK => ?_
          simp [go_sem, c0, d0, c1, d1, c2, d2, c3, d3, ha, hwf.one, hwf.zero]
          repeat refine ⟨by omega, ?_⟩
          refine hK _ ?_; clear hK K
          refine awp_rows (σ.length + 1) (fun q => encI (nth (gather (visF n (fun i => (decW n g p r (g i).Unit d).Granted) g) i ++ [(g i).Unit]) q)) (by simp [go_sem]; first | exact ⟨rfl, rfl, rfl⟩ | exact ⟨rfl, rfl⟩ | rfl) (by exact fun q hq => cat_nth (enc := encI) (x := (g i).Unit) rfl hq) (by simp [go_sem]; rfl) ?_
          refine awp_reg_end fun K hK => ?_
          simp [go_sem, c0, d0, c1, d1, c2, d2, c3, d3, ha]
          try simp (disch := omega) only [wrapI]
          repeat refine ⟨by omega, ?_⟩
          refine hK _ ?_; clear hK K
          refine ⟨i + 1, back_of' (by simp [go_sem, wrap_succ (i := i) (by omega), c0, d0, c1, d1, c2, d2, c3, d3, ha]) ((leaves_app (by simp [go_sem]))) (by (simp [go_sem, wrap_succ (i := i) (by omega), c0, d0, c1, d1, c2, d2, c3, d3, ha] <;> omega)), by omega, by first | omega | (dsimp only; omega)⟩
        · have d3 := c3; try simp at d3
          have ha : gather (visF n (fun i => (decW n g p r (g i).Unit d).Granted) g) (i + 1) = gather (visF n (fun i => (decW n g p r (g i).Unit d).Granted) g) i := by rw [gather, visF, if_neg (by simp [d3])]; simp
          refine awp_skip ?_
          refine awp_reg_end fun K hK => ?_
          simp [go_sem, c0, d0, c1, d1, c2, d2, c3, d3, ha]
          try simp (disch := omega) only [wrapI]
          repeat refine ⟨by omega, ?_⟩
          refine hK _ ?_; clear hK K
          refine ⟨i + 1, back_of' (by simp [go_sem, wrap_succ (i := i) (by omega), c0, d0, c1, d1, c2, d2, c3, d3, ha]) ((leaves_app (by simp [go_sem]))) (by (simp [go_sem, wrap_succ (i := i) (by omega), c0, d0, c1, d1, c2, d2, c3, d3, ha] <;> omega)), by omega, by first | omega | (dsimp only; omega)⟩
      · have d2 := c2; try simp at d2
        have hin : i = n := by omega
        refine awp_exit ?_
        refine awp_reg_seq fun K hK => ?_
        simp [go_sem, c0, d0, c1, d1, c2, d2]
        repeat refine ⟨by omega, ?_⟩
        refine hK _ ?_; clear hK K
        refine awp_freeze (σ.length + 1) (by simp [go_sem]; first | exact ⟨rfl, rfl, rfl⟩ | exact ⟨rfl, rfl⟩ | rfl) (by simp [go_sem]; rfl) (by simp [go_sem, hwf.frz, hwf.frz0]; rfl) ?_
        refine awp_ret ?_
        rw [hz]; simp [go_sem, Tryz.results33, hin]

end Go.Proofs.YtkochmppmpmddaaGreat
