/- Contracts and lemmas (Cw, Cx, Cy), joined out of smaller texts by a program; no conditions. -/
import Derived.Test.YtldnolgijfkfpaaGreatDoorKC7
/-! Cw -/
namespace Go.Proofs.YtldnolgijfkfpaaGreatDoor
open Go.Abs
set_option linter.unusedVariables false
set_option linter.unusedSimpArgs false
set_option maxRecDepth 100000
set_option maxHeartbeats 1000000
theorem idB_iff {n : Int} : idB n = true ↔ 1 ≤ n ∧ n ≤ 1073741824 := by simp [idB, inB]
def LnkR (g : Nat → Lnk) (i : Nat) : Prop := (1 ≤ (g i).Image ∧ (g i).Image ≤ 1073741824) ∧ (1 ≤ (g i).Unit ∧ (g i).Unit ≤ 1073741824) ∧ (0 < i → (g (i - 1)).Image < (g i).Image)
open Classical in
noncomputable def linkB (g : Nat → Lnk) (n : Nat) : Bool := decide ((∀ i, i < n → LnkR g i) ∧ n ≤ 1024)
theorem linkB_iff {g : Nat → Lnk} {n : Nat} : linkB g n = true ↔ (∀ i, i < n → LnkR g i) ∧ n ≤ 1024 := by simp [linkB]
theorem linkB_no {g : Nat → Lnk} {n i : Nat} (hi : i < n) (h : ¬ LnkR g i) : linkB g n = false := by
  rw [← Bool.not_eq_true, linkB_iff]; exact fun H => h (H.1 i hi)
theorem linkB_yes {g : Nat → Lnk} {n : Nat} (h : ∀ i, i < n → LnkR g i) : linkB g n = decide (n ≤ 1024) := by
  rw [Bool.eq_iff_iff, linkB_iff, decide_eq_true_eq]; exact ⟨fun H => H.2, fun H => ⟨h, H⟩⟩
theorem lnk_next {g : Nat → Lnk} {i : Nat} (h : ∀ q, q < i → LnkR g q) (hi : LnkR g i) : ∀ q, q < i + 1 → LnkR g q := fun q hq => by
  rcases Nat.lt_or_eq_of_le (Nat.le_of_lt_succ hq) with h9 | h9
  · exact h q h9
  · rw [h9]; exact hi
theorem digitize_linked_cs (σ : List Blk) (c : Option Nat) (n : Nat) (g : Nat → Lnk) (hn : n < 1000000000) : CSF Tryz.prog 56 [.d (SL c 2 Lnk.enc n g)] σ (.d (B (linkB g n))) := by
  refine CSF.of_body T.en56 Tryz.func56 rfl (by simp [Tryz.ntmps56]) (by simp [go_sem]) fun hwf => ?_
  refine awp_reg_seq fun K hK => ?_
  simp [go_sem, Tryz.ntmps56]
  repeat refine ⟨by omega, ?_⟩
  refine hK _ ?_; clear hK K
  refine awp_seq ?_
  refine awp_reg_seq fun K hK => ?_
  simp [go_sem]
  repeat refine ⟨by omega, ?_⟩
  refine hK _ ?_; clear hK K
  refine awp_block ?_
  refine awp_forget [0, 5, 6, 7] (by simp [go_sem, restr]; rfl) ?_
  refine awp_loopU (α := Nat) (fun i => [(7, .d (I i))]) (fun i => _) (fun i => i ≤ n ∧ ∀ q, q < i → LnkR g q) (fun i => n - i) 0 (by simp [go_sem]) (rfl) (by simp) ?_
  rintro i ⟨hi, hx⟩
  refine awp_reg_seq fun K hK => ?_
  simp [go_sem, wrap_pred (i := i) (by omega)]
  repeat refine ⟨by omega, ?_⟩
  refine hK _ ?_; clear hK K
  refine awp_seq ?_
  refine awp_forget [0, 5, 6, 7, 8] (by simp only [restr, List.contains_cons, List.contains_nil, Nat.reduceBEq, Bool.or_false, Bool.or_true, Bool.true_or, Bool.false_or, if_true, if_false, Bool.false_eq_true]; rfl) ?_
  refine awp_cond rfl (fun c0 => ?_) (fun c0 => ?_)
  · have d0 := c0; try simp at d0
    have hi5 : i < n := by omega
    refine awp_skip ?_
    refine awp_seq ?_
    refine awp_block ?_
    refine awp_reg_seq fun K hK => ?_
    simp [go_sem, wrap_pred (i := i) (by omega), c0, d0, hi5]
    repeat refine ⟨by omega, ?_⟩
    refine hK _ ?_; clear hK K
    refine awp_draw_seq 25 T.mixed (by kernel_rfl) fun K hK => ?_
    simp [go_sem, wrap_pred (i := i) (by omega), c0, d0, hi5]
    try simp (disch := omega) only [wrapI]
    repeat refine ⟨by omega, ?_⟩
    refine CSg.mk (digitize_id_cs _ (g i).Image) ?_
    simp [go_sem, wrap_pred (i := i) (by omega), c0, d0, hi5]
    try simp (disch := omega) only [wrapI]
    repeat refine ⟨by omega, ?_⟩
    refine CSg.mk (digitize_id_cs _ (g i).Unit) ?_
    simp [go_sem, wrap_pred (i := i) (by omega), c0, d0, hi5]
    try simp (disch := omega) only [wrapI]
    repeat refine ⟨by omega, ?_⟩
    refine hK _ ?_; clear hK K
    refine awp_forget [0, 5, 6, 7, 36] (by simp only [restr, List.contains_cons, List.contains_nil, Nat.reduceBEq, Bool.or_false, Bool.or_true, Bool.true_or, Bool.false_or, if_true, if_false, Bool.false_eq_true]; rfl) ?_
    refine awp_cond rfl (fun c1 => ?_) (fun c1 => ?_)
    · have d1 := c1; try simp at d1
      have hz : linkB g n = false := linkB_no hi5 fun hr => by
        have h1 := idB_iff.2 hr.1
        have h2 := idB_iff.2 hr.2.1
        have h3 := hr.2.2
        simp [h1, h2] at d1; omega
      refine awp_reg_seq fun K hK => ?_
      simp [go_sem, wrap_pred (i := i) (by omega), c0, d0, hi5, c1, d1]
      repeat refine ⟨by omega, ?_⟩
      refine hK _ ?_; clear hK K
      refine awp_ret ?_
      rw [hz]; simp [go_sem, Tryz.results56]
    · have d1 := c1; try simp at d1
      have hr : LnkR g i := ⟨idB_iff.1 d1.1.1, idB_iff.1 d1.1.2, d1.2⟩
      refine awp_skip ?_
      refine awp_reg_end fun K hK => ?_
      simp [go_sem, wrap_pred (i := i) (by omega), c0, d0, hi5, c1, d1]
      try simp (disch := omega) only [wrapI]
      repeat refine ⟨by omega, ?_⟩
      refine hK _ ?_; clear hK K
      refine ⟨i + 1, back_of' (by simp) (.refl _) (by (simp [go_sem, wrap_succ (i := i) (by omega), wrap_pred (i := i) (by omega), c0, d0, hi5, c1, d1] <;> omega)), ⟨by omega, lnk_next hx hr⟩, by first | omega | (dsimp only; omega)⟩
  · have d0 := c0; try simp at d0
    obtain rfl : i = n := by omega
    have hz := linkB_yes hx
    refine awp_exit ?_
    refine awp_reg_seq fun K hK => ?_
    simp [go_sem, wrap_pred (i := i) (by omega), c0, d0]
    repeat refine ⟨by omega, ?_⟩
    refine hK _ ?_; clear hK K
    refine awp_ret ?_
    rw [hz]; simp [go_sem, Tryz.results56] <;> omega
theorem ref44_Links_cs (σ : List Blk) (c : Option Nat) (n : Nat) (g : Nat → Lnk) (hn : n < 1000000000) : CSF Tryz.prog 57 [.d (SL c 2 Lnk.enc n g)] σ (.d (B (linkB g n))) := by
  refine CSF.of_body T.en57 Tryz.func57 rfl (by simp [Tryz.ntmps57]) (by simp [go_sem]) fun hwf => ?_
  refine awp_reg_seq fun K hK => ?_
  simp [go_sem, Tryz.ntmps57]
  repeat refine ⟨by omega, ?_⟩
  refine hK _ ?_; clear hK K
  refine awp_seq ?_
  refine awp_reg_seq fun K hK => ?_
  simp [go_sem]
  repeat refine ⟨by omega, ?_⟩
  refine hK _ ?_; clear hK K
  refine awp_block ?_
  refine awp_forget [0, 5, 6, 7] (by simp [go_sem, restr]; rfl) ?_
  refine awp_loopU (α := Nat) (fun i => [(7, .d (I i))]) (fun i => _) (fun i => i ≤ n ∧ ∀ q, q < i → LnkR g q) (fun i => n - i) 0 (by simp [go_sem]) (rfl) (by simp) ?_
  rintro i ⟨hi, hx⟩
  refine awp_reg_seq fun K hK => ?_
  simp [go_sem, wrap_pred (i := i) (by omega)]
  repeat refine ⟨by omega, ?_⟩
  refine hK _ ?_; clear hK K
  refine awp_seq ?_
  refine awp_forget [0, 5, 6, 7, 8] (by simp only [restr, List.contains_cons, List.contains_nil, Nat.reduceBEq, Bool.or_false, Bool.or_true, Bool.true_or, Bool.false_or, if_true, if_false, Bool.false_eq_true]; rfl) ?_
  refine awp_cond rfl (fun c0 => ?_) (fun c0 => ?_)
  · have d0 := c0; try simp at d0
    have hi5 : i < n := by omega
    refine awp_skip ?_
    refine awp_seq ?_
    refine awp_block ?_
    refine awp_reg_seq fun K hK => ?_
    simp [go_sem, wrap_pred (i := i) (by omega), c0, d0, hi5]
    repeat refine ⟨by omega, ?_⟩
    refine hK _ ?_; clear hK K
    refine awp_draw_seq 33 T.mixed (by kernel_rfl) fun K hK => ?_
    simp [go_sem, wrap_pred (i := i) (by omega), c0, d0, hi5]
    try simp (disch := omega) only [wrapI]
    repeat refine ⟨by omega, ?_⟩
    refine hK _ ?_; clear hK K
    refine awp_forget [0, 5, 6, 7, 44] (by simp only [restr, List.contains_cons, List.contains_nil, Nat.reduceBEq, Bool.or_false, Bool.or_true, Bool.true_or, Bool.false_or, if_true, if_false, Bool.false_eq_true]; rfl) ?_
    refine awp_cond rfl (fun c1 => ?_) (fun c1 => ?_)
    · have d1 := c1; try simp at d1
      have hz : linkB g n = false := linkB_no hi5 fun hr => by
        have h1 := hr.1
        have h2 := hr.2.1
        have h3 := hr.2.2
        omega
      refine awp_reg_seq fun K hK => ?_
      simp [go_sem, wrap_pred (i := i) (by omega), c0, d0, hi5, c1, d1]
      repeat refine ⟨by omega, ?_⟩
      refine hK _ ?_; clear hK K
      refine awp_ret ?_
      rw [hz]; simp [go_sem, Tryz.results57]
    · have d1 := c1; try simp at d1
      have hr : LnkR g i := ⟨d1.1.1.1, ⟨d1.1.1.2, d1.1.2⟩, d1.2⟩
      refine awp_skip ?_
      refine awp_reg_end fun K hK => ?_
      simp [go_sem, wrap_pred (i := i) (by omega), c0, d0, hi5, c1, d1]
      try simp (disch := omega) only [wrapI]
      repeat refine ⟨by omega, ?_⟩
      refine hK _ ?_; clear hK K
      refine ⟨i + 1, back_of' (by simp) (.refl _) (by (simp [go_sem, wrap_succ (i := i) (by omega), wrap_pred (i := i) (by omega), c0, d0, hi5, c1, d1] <;> omega)), ⟨by omega, lnk_next hx hr⟩, by first | omega | (dsimp only; omega)⟩
  · have d0 := c0; try simp at d0
    obtain rfl : i = n := by omega
    have hz := linkB_yes hx
    refine awp_exit ?_
    refine awp_reg_seq fun K hK => ?_
    simp [go_sem, wrap_pred (i := i) (by omega), c0, d0]
    repeat refine ⟨by omega, ?_⟩
    refine hK _ ?_; clear hK K
    refine awp_ret ?_
    rw [hz]; simp [go_sem, Tryz.results57] <;> omega
noncomputable def imgL (g : Nat → Lnk) (u : Int) (i : Nat) : List Int := pickL (fun q => decide ((g q).Unit = u)) (fun q => (g q).Image) i
noncomputable def imgR (g : Nat → Lnk) (n : Nat) (u : Int) : List Int := if linkB g n = true then imgL g u n else []
theorem imgL_len (g : Nat → Lnk) (u : Int) (i : Nat) : (imgL g u i).length ≤ i := pickL_len _ _ _
theorem imgL_yes {g : Nat → Lnk} {u : Int} {i : Nat} (h : (g i).Unit = u) : imgL g u (i + 1) = imgL g u i ++ [(g i).Image] := by
  unfold imgL; rw [pickL, if_pos (by simpa using h)]
theorem imgL_not {g : Nat → Lnk} {u : Int} {i : Nat} (h : ¬ (g i).Unit = u) : imgL g u (i + 1) = imgL g u i := by
  unfold imgL; rw [pickL, if_neg (by simpa using h)]
theorem digitize_Images_cs (σ : List Blk) (c : Option Nat) (n : Nat) (g : Nat → Lnk) (u : Int) (hn : n < 1000000000) : CSF Tryz.prog 34 [.d (SL c 2 Lnk.enc n g), .d (I u)] σ (.d (SL none 1 encI (imgR g n u).length (nth (imgR g n u)))) := by
  refine CSF.of_body T.en34 Tryz.func34 rfl (by simp [Tryz.ntmps34]) (by simp [go_sem]) fun hwf => ?_
  refine awp_reg_seq fun K hK => ?_
  simp [go_sem, Tryz.ntmps34]
  repeat refine ⟨by omega, ?_⟩
  refine hK _ ?_; clear hK K
  refine awp_seq ?_
  refine awp_reg_seq fun K hK => ?_
  simp [go_sem]
  repeat refine ⟨by omega, ?_⟩
  refine CSk.mk (digitize_linked_cs _ c n g hn) ?_
  simp [go_sem]
  repeat refine ⟨by omega, ?_⟩
  refine hK _ ?_; clear hK K
  refine awp_forget [0, 1, 10] (by simp only [restr, List.contains_cons, List.contains_nil, Nat.reduceBEq, Bool.or_false, Bool.or_true, Bool.true_or, Bool.false_or, if_true, if_false, Bool.false_eq_true]; rfl) ?_
  refine awp_cond rfl (fun c0 => ?_) (fun c0 => ?_)
  · have d0 := c0; try simp at d0
    have hz : imgR g n u = [] := by unfold imgR; rw [if_neg (by simpa using d0)]
    refine awp_reg_seq fun K hK => ?_
    simp [go_sem, c0, d0]
    repeat refine ⟨by omega, ?_⟩
    refine hK _ ?_; clear hK K
    refine awp_ret ?_
    rw [hz]; simp [go_sem, Tryz.results34, sameL0, Go.Abs.sameA]
  · have d0 := c0; try simp at d0
    have hz : imgR g n u = imgL g u n := by unfold imgR; rw [if_pos (by simpa using d0)]
    refine awp_skip ?_
    refine awp_reg_seq fun K hK => ?_
    simp [go_sem, c0, d0]
    repeat refine ⟨by omega, ?_⟩
    refine hK _ ?_; clear hK K
    refine awp_seq ?_
    refine awp_reg_seq fun K hK => ?_
    simp [go_sem, c0, d0]
    repeat refine ⟨by omega, ?_⟩
    refine hK _ ?_; clear hK K
    refine awp_block ?_
    refine awp_thawT 5 1 (fun q => encI (nth ([] : List Int) q)) (by simp [go_sem]) (by simp [go_sem]; rfl) ?_
    refine awp_forget [1, 5, 11, 12, 13] (by simp [go_sem, restr]; rfl) ?_
    refine awp_mv [σ.length] (by simp) ?_
    refine awp_loopU (α := Nat) (fun i => [(13, .d (I i)), (5, .ms σ.length 1 0 (imgL g u i).length)]) (fun i => σ ++ [.arr 1 (imgL g u i).length (fun q => encI (nth (imgL g u i) q))]) (fun i => i ≤ n) (fun i => n - i) 0 (by simp [go_sem, imgL, pickL]) (rfl) (by simp) ?_
    rintro i hi
    refine awp_reg_seq fun K hK => ?_
    simp [go_sem, c0, d0]
    repeat refine ⟨by omega, ?_⟩
    refine hK _ ?_; clear hK K
    refine awp_seq ?_
    refine awp_forget [1, 5, 11, 12, 13, 14] (by simp only [restr, List.contains_cons, List.contains_nil, Nat.reduceBEq, Bool.or_false, Bool.or_true, Bool.true_or, Bool.false_or, if_true, if_false, Bool.false_eq_true]; rfl) ?_
    refine awp_cond rfl (fun c1 => ?_) (fun c1 => ?_)
    · have d1 := c1; try simp at d1
      have hi5 : i < n := by omega
      have hll := imgL_len g u i
      refine awp_skip ?_
      refine awp_seq ?_
      refine awp_block ?_
      refine awp_reg_seq fun K hK => ?_
      simp [go_sem, c0, d0, c1, d1, hi5]
      repeat refine ⟨by omega, ?_⟩
      refine hK _ ?_; clear hK K
      refine awp_reg_seq fun K hK => ?_
      simp [go_sem, c0, d0, c1, d1, hi5]
      repeat refine ⟨by omega, ?_⟩
      refine hK _ ?_; clear hK K
      refine awp_forget [1, 5, 7, 11, 12, 13, 20] (by simp only [restr, List.contains_cons, List.contains_nil, Nat.reduceBEq, Bool.or_false, Bool.or_true, Bool.true_or, Bool.false_or, if_true, if_false, Bool.false_eq_true]; rfl) ?_
      refine awp_cond rfl (fun c2 => ?_) (fun c2 => ?_)
      · have d2 := c2; try simp at d2
        have hp := imgL_yes d2
        refine awp_reg_end fun K hK => ?_
        simp [go_sem, c0, d0, c1, d1, hi5, c2, d2, hp, hwf.one, hwf.zero]
        repeat refine ⟨by omega, ?_⟩
        refine hK _ ?_; clear hK K
        refine awp_rows σ.length (fun q => encI (nth (imgL g u i ++ [(g i).Image]) q)) (by simp [go_sem]; first | exact ⟨rfl, rfl, rfl⟩ | exact ⟨rfl, rfl⟩ | rfl) (by exact fun q hq => cat_nth (enc := encI) (x := (g i).Image) rfl hq) (by simp [go_sem]; rfl) ?_
        refine awp_reg_end fun K hK => ?_
        simp [go_sem, c0, d0, c1, d1, hi5, c2, d2, hp]
        try simp (disch := omega) only [wrapI]
        repeat refine ⟨by omega, ?_⟩
        refine hK _ ?_; clear hK K
        refine ⟨i + 1, back_of' (by simp [go_sem, wrap_succ (i := i) (by omega), c0, d0, c1, d1, hi5, c2, d2, hp]) ((leaves_app (by simp [go_sem]))) (by (simp [go_sem, wrap_succ (i := i) (by omega), c0, d0, c1, d1, hi5, c2, d2, hp] <;> omega)), by omega, by first | omega | (dsimp only; omega)⟩
      · have d2 := c2; try simp at d2
        have hp := imgL_not d2
        refine awp_skip ?_
        refine awp_reg_end fun K hK => ?_
        simp [go_sem, c0, d0, c1, d1, hi5, c2, d2, hp]
        try simp (disch := omega) only [wrapI]
        repeat refine ⟨by omega, ?_⟩
        refine hK _ ?_; clear hK K
        refine ⟨i + 1, back_of' (by simp [go_sem, wrap_succ (i := i) (by omega), c0, d0, c1, d1, hi5, c2, d2, hp]) ((leaves_app (by simp [go_sem]))) (by (simp [go_sem, wrap_succ (i := i) (by omega), c0, d0, c1, d1, hi5, c2, d2, hp] <;> omega)), by omega, by first | omega | (dsimp only; omega)⟩
    · have d1 := c1; try simp at d1
      obtain rfl : i = n := by omega
      refine awp_exit ?_
      refine awp_reg_seq fun K hK => ?_
      simp [go_sem, c0, d0, c1, d1]
      repeat refine ⟨by omega, ?_⟩
      refine hK _ ?_; clear hK K
      refine awp_freeze (σ.length) (by simp [go_sem]; first | exact ⟨rfl, rfl, rfl⟩ | exact ⟨rfl, rfl⟩ | rfl) (by simp [go_sem]; rfl) (by simp [go_sem, hwf.frz, hwf.frz0]; rfl) ?_
      refine awp_ret ?_
      rw [hz]; simp [go_sem, Tryz.results34]
theorem ref44_Images_cs (σ : List Blk) (c : Option Nat) (n : Nat) (g : Nat → Lnk) (u : Int) (hn : n < 1000000000) : CSF Tryz.prog 35 [.d (SL c 2 Lnk.enc n g), .d (I u)] σ (.d (SL none 1 encI (imgR g n u).length (nth (imgR g n u)))) := by
  refine CSF.of_body T.en35 Tryz.func35 rfl (by simp [Tryz.ntmps35]) (by simp [go_sem]) fun hwf => ?_
  refine awp_reg_seq fun K hK => ?_
  simp [go_sem, Tryz.ntmps35]
  repeat refine ⟨by omega, ?_⟩
  refine hK _ ?_; clear hK K
  refine awp_seq ?_
  refine awp_reg_seq fun K hK => ?_
  simp [go_sem]
  repeat refine ⟨by omega, ?_⟩
  refine CSk.mk (ref44_Links_cs _ c n g hn) ?_
  simp [go_sem]
  repeat refine ⟨by omega, ?_⟩
  refine hK _ ?_; clear hK K
  refine awp_forget [0, 1, 10] (by simp only [restr, List.contains_cons, List.contains_nil, Nat.reduceBEq, Bool.or_false, Bool.or_true, Bool.true_or, Bool.false_or, if_true, if_false, Bool.false_eq_true]; rfl) ?_
  refine awp_cond rfl (fun c0 => ?_) (fun c0 => ?_)
  · have d0 := c0; try simp at d0
    have hz : imgR g n u = [] := by unfold imgR; rw [if_neg (by simpa using d0)]
    refine awp_reg_seq fun K hK => ?_
    simp [go_sem, c0, d0]
    repeat refine ⟨by omega, ?_⟩
    refine hK _ ?_; clear hK K
    refine awp_ret ?_
    rw [hz]; simp [go_sem, Tryz.results35, sameL0, Go.Abs.sameA]
  · have d0 := c0; try simp at d0
    have hz : imgR g n u = imgL g u n := by unfold imgR; rw [if_pos (by simpa using d0)]
    refine awp_skip ?_
    refine awp_reg_seq fun K hK => ?_
    simp [go_sem, c0, d0]
    repeat refine ⟨by omega, ?_⟩
    refine hK _ ?_; clear hK K
    refine awp_seq ?_
    refine awp_reg_seq fun K hK => ?_
    simp [go_sem, c0, d0]
    repeat refine ⟨by omega, ?_⟩
    refine hK _ ?_; clear hK K
    refine awp_block ?_
    refine awp_thawT 5 1 (fun q => encI (nth ([] : List Int) q)) (by simp [go_sem]) (by simp [go_sem]; rfl) ?_
    refine awp_forget [1, 5, 11, 12, 13] (by simp [go_sem, restr]; rfl) ?_
    refine awp_mv [σ.length] (by simp) ?_
    refine awp_loopU (α := Nat) (fun i => [(13, .d (I i)), (5, .ms σ.length 1 0 (imgL g u i).length)]) (fun i => σ ++ [.arr 1 (imgL g u i).length (fun q => encI (nth (imgL g u i) q))]) (fun i => i ≤ n) (fun i => n - i) 0 (by simp [go_sem, imgL, pickL]) (rfl) (by simp) ?_
    rintro i hi
    refine awp_reg_seq fun K hK => ?_
    simp [go_sem, c0, d0]
    repeat refine ⟨by omega, ?_⟩
    refine hK _ ?_; clear hK K
    refine awp_seq ?_
    refine awp_forget [1, 5, 11, 12, 13, 14] (by simp only [restr, List.contains_cons, List.contains_nil, Nat.reduceBEq, Bool.or_false, Bool.or_true, Bool.true_or, Bool.false_or, if_true, if_false, Bool.false_eq_true]; rfl) ?_
    refine awp_cond rfl (fun c1 => ?_) (fun c1 => ?_)
    · have d1 := c1; try simp at d1
      have hi5 : i < n := by omega
      have hll := imgL_len g u i
      refine awp_skip ?_
      refine awp_seq ?_
      refine awp_block ?_
      refine awp_reg_seq fun K hK => ?_
      simp [go_sem, c0, d0, c1, d1, hi5]
      repeat refine ⟨by omega, ?_⟩
      refine hK _ ?_; clear hK K
      refine awp_reg_seq fun K hK => ?_
      simp [go_sem, c0, d0, c1, d1, hi5]
      repeat refine ⟨by omega, ?_⟩
      refine hK _ ?_; clear hK K
      refine awp_forget [1, 5, 7, 11, 12, 13, 20] (by simp only [restr, List.contains_cons, List.contains_nil, Nat.reduceBEq, Bool.or_false, Bool.or_true, Bool.true_or, Bool.false_or, if_true, if_false, Bool.false_eq_true]; rfl) ?_
      refine awp_cond rfl (fun c2 => ?_) (fun c2 => ?_)
      · have d2 := c2; try simp at d2
        have hp := imgL_yes d2
        refine awp_reg_end fun K hK => ?_
        simp [go_sem, c0, d0, c1, d1, hi5, c2, d2, hp, hwf.one, hwf.zero]
        repeat refine ⟨by omega, ?_⟩
        refine hK _ ?_; clear hK K
        refine awp_rows σ.length (fun q => encI (nth (imgL g u i ++ [(g i).Image]) q)) (by simp [go_sem]; first | exact ⟨rfl, rfl, rfl⟩ | exact ⟨rfl, rfl⟩ | rfl) (by exact fun q hq => cat_nth (enc := encI) (x := (g i).Image) rfl hq) (by simp [go_sem]; rfl) ?_
        refine awp_reg_end fun K hK => ?_
        simp [go_sem, c0, d0, c1, d1, hi5, c2, d2, hp]
        try simp (disch := omega) only [wrapI]
        repeat refine ⟨by omega, ?_⟩
        refine hK _ ?_; clear hK K
        refine ⟨i + 1, back_of' (by simp [go_sem, wrap_succ (i := i) (by omega), c0, d0, c1, d1, hi5, c2, d2, hp]) ((leaves_app (by simp [go_sem]))) (by (simp [go_sem, wrap_succ (i := i) (by omega), c0, d0, c1, d1, hi5, c2, d2, hp] <;> omega)), by omega, by first | omega | (dsimp only; omega)⟩
      · have d2 := c2; try simp at d2
        have hp := imgL_not d2
        refine awp_skip ?_
        refine awp_reg_end fun K hK => ?_
        simp [go_sem, c0, d0, c1, d1, hi5, c2, d2, hp]
        try simp (disch := omega) only [wrapI]
        repeat refine ⟨by omega, ?_⟩
        refine hK _ ?_; clear hK K
        refine ⟨i + 1, back_of' (by simp [go_sem, wrap_succ (i := i) (by omega), c0, d0, c1, d1, hi5, c2, d2, hp]) ((leaves_app (by simp [go_sem]))) (by (simp [go_sem, wrap_succ (i := i) (by omega), c0, d0, c1, d1, hi5, c2, d2, hp] <;> omega)), by omega, by first | omega | (dsimp only; omega)⟩
    · have d1 := c1; try simp at d1
      obtain rfl : i = n := by omega
      refine awp_exit ?_
      refine awp_reg_seq fun K hK => ?_
      simp [go_sem, c0, d0, c1, d1]
      repeat refine ⟨by omega, ?_⟩
      refine hK _ ?_; clear hK K
      refine awp_freeze (σ.length) (by simp [go_sem]; first | exact ⟨rfl, rfl, rfl⟩ | exact ⟨rfl, rfl⟩ | rfl) (by simp [go_sem]; rfl) (by simp [go_sem, hwf.frz, hwf.frz0]; rfl) ?_
      refine awp_ret ?_
      rw [hz]; simp [go_sem, Tryz.results35]
theorem ref44_SameLinks_cs (σ : List Blk) (c c' : Option Nat) (n m : Nat) (f g : Nat → Lnk) (hn : n < 1000000000) (hm : m < 1000000000) : CSF Tryz.prog 33 [.d (SL c 2 Lnk.enc n f), .d (SL c' 2 Lnk.enc m g)] σ (.d (B (eqL (lst n f) (lst m g)))) := by
  refine CSF.of_body T.en33 Tryz.func33 rfl (by simp [Tryz.ntmps33]) (by simp [go_sem]) fun hwf => ?_
  refine awp_reg_seq fun K hK => ?_
  simp [go_sem, Tryz.ntmps33]
  repeat refine ⟨by omega, ?_⟩
  refine hK _ ?_; clear hK K
  refine awp_seq ?_
  refine awp_reg_seq fun K hK => ?_
  simp [go_sem]
  repeat refine ⟨by omega, ?_⟩
  refine hK _ ?_; clear hK K
  refine awp_forget [0, 1, 10] (by simp only [restr, List.contains_cons, List.contains_nil, Nat.reduceBEq, Bool.or_false, Bool.or_true, Bool.true_or, Bool.false_or, if_true, if_false, Bool.false_eq_true]; rfl) ?_
  refine awp_cond rfl (fun c0 => ?_) (fun c0 => ?_)
  · have d0 := c0; try simp at d0
    have hz := eqL_len (f := f) (g := g) (show ¬ n = m by omega)
    refine awp_reg_seq fun K hK => ?_
    simp [go_sem, c0, d0]
    repeat refine ⟨by omega, ?_⟩
    refine hK _ ?_; clear hK K
    refine awp_ret ?_
    rw [hz]; simp [go_sem, Tryz.results33]
  · have d0 := c0; try simp at d0
    have hnm : n = m := by omega
    subst hnm
    refine awp_skip ?_
    refine awp_seq ?_
    refine awp_reg_seq fun K hK => ?_
    simp [go_sem, c0, d0]
    repeat refine ⟨by omega, ?_⟩
    refine hK _ ?_; clear hK K
    refine awp_block ?_
    refine awp_forget [0, 1, 12, 13] (by simp [go_sem, restr]; rfl) ?_
    refine awp_loopU (α := Nat) (fun i => [(13, .d (I i))]) (fun i => _) (fun i => i ≤ n ∧ ∀ q, q < i → f q = g q) (fun i => n - i) 0 (by simp [go_sem]) (rfl) (by simp) ?_
    rintro i ⟨hi, hx⟩
    refine awp_reg_seq fun K hK => ?_
    simp [go_sem, c0, d0]
    repeat refine ⟨by omega, ?_⟩
    refine hK _ ?_; clear hK K
    refine awp_seq ?_
    refine awp_forget [0, 1, 12, 13, 14] (by simp only [restr, List.contains_cons, List.contains_nil, Nat.reduceBEq, Bool.or_false, Bool.or_true, Bool.true_or, Bool.false_or, if_true, if_false, Bool.false_eq_true]; rfl) ?_
    refine awp_cond rfl (fun c1 => ?_) (fun c1 => ?_)
    · have d1 := c1; try simp at d1
      have hi5 : i < n := by omega
      refine awp_skip ?_
      refine awp_seq ?_
      refine awp_block ?_
      refine awp_reg_seq fun K hK => ?_
      simp [go_sem, c0, d0, c1, d1, hi5]
      repeat refine ⟨by omega, ?_⟩
      refine hK _ ?_; clear hK K
      refine awp_draw_seq 9 T.mixed (by kernel_rfl) fun K hK => ?_
      simp [go_sem, c0, d0, c1, d1, hi5]
      repeat refine ⟨by omega, ?_⟩
      refine hK _ ?_; clear hK K
      refine awp_forget [0, 1, 12, 13, 24] (by simp only [restr, List.contains_cons, List.contains_nil, Nat.reduceBEq, Bool.or_false, Bool.or_true, Bool.true_or, Bool.false_or, if_true, if_false, Bool.false_eq_true]; rfl) ?_
      refine awp_cond rfl (fun c2 => ?_) (fun c2 => ?_)
      · have d2 := c2; try simp at d2
        have hz : eqL (lst n f) (lst n g) = false := eqL_at hi5 hi5 (fun h => by simp [h] at d2)
        refine awp_reg_seq fun K hK => ?_
        simp [go_sem, c0, d0, c1, d1, hi5, c2, d2]
        repeat refine ⟨by omega, ?_⟩
        refine hK _ ?_; clear hK K
        refine awp_ret ?_
        rw [hz]; simp [go_sem, Tryz.results33]
      · have d2 := c2; try simp at d2
        have heq : f i = g i := by
          revert c2; rcases f i with ⟨_, _⟩; rcases g i with ⟨_, _⟩; simp <;> (intros; simp_all)
        refine awp_skip ?_
        refine awp_reg_end fun K hK => ?_
        simp [go_sem, c0, d0, c1, d1, hi5, c2, d2]
        try simp (disch := omega) only [wrapI]
        repeat refine ⟨by omega, ?_⟩
        refine hK _ ?_; clear hK K
        refine ⟨i + 1, back_of' (by simp) (.refl _) (by (simp [go_sem, wrap_succ (i := i) (by omega), c0, d0, c1, d1, hi5, c2, d2] <;> omega)), ⟨by omega, fun q hq => by rcases Nat.lt_or_eq_of_le (Nat.le_of_lt_succ hq) with h | h; exact hx q h; rw [h]; exact heq⟩, by first | omega | (dsimp only; omega)⟩
    · have d1 := c1; try simp at d1
      obtain rfl : i = n := by omega
      have hz := eqL_yes (f := f) (g := g) rfl hx
      refine awp_exit ?_
      refine awp_reg_seq fun K hK => ?_
      simp [go_sem, c0, d0, c1, d1]
      repeat refine ⟨by omega, ?_⟩
      refine hK _ ?_; clear hK K
      refine awp_ret ?_
      rw [hz]; simp [go_sem, Tryz.results33]
end Go.Proofs.YtldnolgijfkfpaaGreatDoor

/-! Cx -/
namespace Go.Proofs.YtldnolgijfkfpaaGreatDoor
open Go.Abs
set_option linter.unusedVariables false
set_option linter.unusedSimpArgs false
set_option maxRecDepth 100000
set_option maxHeartbeats 1000000
def twB (g : Nat → Lnk) (n : Nat) (u : Nat → Int) (m : Nat) : Bool := (lst m u).any fun k => (lst n g).any fun y => y.Unit == k
theorem twB_iff {g : Nat → Lnk} {n : Nat} {u : Nat → Int} {m : Nat} : twB g n u m = true ↔ ∃ i, i < n ∧ memI m u (g i).Unit = true := by
  unfold twB
  simp only [lst, List.any_map, List.any_eq_true, List.mem_range, Function.comp, beq_iff_eq, memI_iff]
  exact ⟨fun ⟨k, h1, i, h2, h3⟩ => ⟨i, h2, k, h1, h3.symm⟩, fun ⟨i, h2, k, h1, h3⟩ => ⟨k, h1, i, h2, h3.symm⟩⟩
theorem twB_no {g : Nat → Lnk} {n : Nat} {u : Nat → Int} {m : Nat} (h : ∀ i, i < n → memI m u (g i).Unit = false) : twB g n u m = false := by
  rw [← Bool.not_eq_true, twB_iff]; rintro ⟨i, h1, h2⟩; rw [h i h1] at h2; cases h2
def linkF (g : Nat → Lnk) (n : Nat) (u : Nat → Int) (f : Int) (q : Nat) : Lnk := if q < n then g q else ⟨f + ((q - n : Nat) : Int), u (q - n)⟩
theorem linkF_lt {g : Nat → Lnk} {n : Nat} {u : Nat → Int} {f : Int} {q : Nat} (h : q < n) : linkF g n u f q = g q := if_pos h
theorem linkF_ge {g : Nat → Lnk} {n : Nat} {u : Nat → Int} {f : Int} (i : Nat) : linkF g n u f (n + i) = ⟨f + (i : Int), u i⟩ := by unfold linkF; rw [if_neg (by omega)]; simp
theorem linkF_cat {g : Nat → Lnk} {n : Nat} {u : Nat → Int} {f : Int} {i q : Nat} (hq : q < n + i + 1) : catRows (n + i) (fun q => Lnk.enc (linkF g n u f q)) (rowsOf 2 [I (f + (i : Int)), I (u i)]) q = Lnk.enc (linkF g n u f q) := by
  unfold catRows
  split
  · rfl
  · obtain rfl : q = n + i := by omega
    rw [linkF_ge]; simp [rowsOf, Lnk.enc]
noncomputable def linkE (g : Nat → Lnk) (n : Nat) (x : Bat) (f : Int) : Int :=
  if (!linkB g n || !decide (chkB x = 0)) = true then 1 else if x.State ≠ 3 then 11 else if f < 1 ∨ 1073741824 - (x.nu : Int) + 1 < f then 2
  else if 0 < n ∧ f ≤ (g (n - 1)).Image then 5 else if twB g n x.u x.nu = true then 6 else if 1024 < n + x.nu then 12 else 0
noncomputable def linkN (g : Nat → Lnk) (n : Nat) (x : Bat) (f : Int) : Nat := if linkE g n x f = 0 then n + x.nu else 0
noncomputable def linkG (g : Nat → Lnk) (n : Nat) (x : Bat) (f : Int) : Nat → Lnk := linkF g n x.u f
theorem linkN_err {g : Nat → Lnk} {n : Nat} {x : Bat} {f e : Int} (h : linkE g n x f = e) (he : e ≠ 0) : linkN g n x f = 0 := by unfold linkN; rw [h, if_neg he]
theorem linkN_ok {g : Nat → Lnk} {n : Nat} {x : Bat} {f : Int} (h : linkE g n x f = 0) : linkN g n x f = n + x.nu := by unfold linkN; rw [if_pos h]
theorem linkE_1 {g : Nat → Lnk} {n : Nat} {x : Bat} {f : Int} (h : (!linkB g n || !decide (chkB x = 0)) = true) : linkE g n x f = 1 := if_pos h
section
variable {g : Nat → Lnk} {n : Nat} {x : Bat} {f : Int} (h1 : (!linkB g n || !decide (chkB x = 0)) = false)
include h1
theorem linkE_11 (h2 : x.State ≠ 3) : linkE g n x f = 11 := by unfold linkE; rw [if_neg (by rw [h1]; decide), if_pos h2]
variable (h2 : x.State = 3)
include h2
theorem linkE_2 (h3 : f < 1 ∨ 1073741824 - (x.nu : Int) + 1 < f) : linkE g n x f = 2 := by unfold linkE; rw [if_neg (by rw [h1]; decide), if_neg (by simp [h2]), if_pos h3]
variable (h3 : ¬ (f < 1 ∨ 1073741824 - (x.nu : Int) + 1 < f))
include h3
theorem linkE_5 (h4 : 0 < n ∧ f ≤ (g (n - 1)).Image) : linkE g n x f = 5 := by unfold linkE; rw [if_neg (by rw [h1]; decide), if_neg (by simp [h2]), if_neg h3, if_pos h4]
variable (h4 : ¬ (0 < n ∧ f ≤ (g (n - 1)).Image))
include h4
theorem linkE_6 (h5 : twB g n x.u x.nu = true) : linkE g n x f = 6 := by unfold linkE; rw [if_neg (by rw [h1]; decide), if_neg (by simp [h2]), if_neg h3, if_neg h4, if_pos h5]
variable (h5 : twB g n x.u x.nu = false)
include h5
theorem linkE_12 (h6 : 1024 < n + x.nu) : linkE g n x f = 12 := by unfold linkE; rw [if_neg (by rw [h1]; decide), if_neg (by simp [h2]), if_neg h3, if_neg h4, if_neg (by rw [h5]; decide), if_pos h6]
theorem linkE_0 (h6 : ¬ 1024 < n + x.nu) : linkE g n x f = 0 := by unfold linkE; rw [if_neg (by rw [h1]; decide), if_neg (by simp [h2]), if_neg h3, if_neg h4, if_neg (by rw [h5]; decide), if_neg h6]
end
theorem linkHas1_cs (σ : List Blk) (τ : List Blk) (x : Lnk) (k : Int) : CSF Tryz.prog 55 [.agg (x.enc.map .d), .ptr σ.length 0] (σ ++ .var [.d (I k)] :: τ) (.d (B (x.Unit == k))) := by
  refine CSF.of_body T.en55 Tryz.func55 rfl (by simp [Tryz.ntmps55]) (by simp [go_sem]) fun hwf => ?_
  refine awp_reg_seq fun K hK => ?_
  simp [go_sem, Tryz.ntmps55]
  repeat refine ⟨by omega, ?_⟩
  refine hK _ ?_; clear hK K
  refine awp_reg_seq fun K hK => ?_
  simp [go_sem]
  repeat refine ⟨by omega, ?_⟩
  refine hK _ ?_; clear hK K
  refine awp_ret ?_
  simp [go_sem, Tryz.results55] <;> omega
theorem linkHas_cs (σ : List Blk) (τ : List Blk) (c : Option Nat) (n : Nat) (g : Nat → Lnk) (k : Int) (hn : n < 1000000000) : CSF Tryz.prog 53 [.d (I k), .ptr σ.length 0] (σ ++ .var [.d (SL c 2 Lnk.enc n g)] :: τ) (.d (B ((lst n g).any fun y => y.Unit == k))) := by
  refine CSF.of_body T.en53 Tryz.func53 rfl (by simp [Tryz.ntmps53]) (by simp [go_sem]) fun hwf => ?_
  refine awp_reg_seq fun K hK => ?_
  simp [go_sem, Tryz.ntmps53]
  repeat refine ⟨by omega, ?_⟩
  refine hK _ ?_; clear hK K
  refine awp_reg_seq fun K hK => ?_
  simp [go_sem]
  repeat refine ⟨by omega, ?_⟩
  refine CSk.mk (containsLnk_cs _ c n g 55 [.ptr (σ.length + (τ.length + 1)) 0] (fun y => y.Unit == k) hn (fun i hi => by have h := linkHas1_cs (σ ++ .var [.d (SL c 2 Lnk.enc n g)] :: τ) [] (g i) k; simpa using h)) ?_
  simp [go_sem]
  repeat refine ⟨by omega, ?_⟩
  refine hK _ ?_; clear hK K
  refine awp_ret ?_
  simp [go_sem, Tryz.results53] <;> omega
theorem digitize_Link_cs (σ : List Blk) (c : Option Nat) (n : Nat) (g : Nat → Lnk) (x : Bat) (f : Int) (hn : n < 1000000000) (hu : x.nu < 1000000000) (hm : x.nb < 1000000000) (hσ : σ[0]? = some (.tab 0 powV)) : CSF Tryz.prog 30 [.d (SL c 2 Lnk.enc n g), .agg (x.enc.map .d), .d (I f)] σ (.tup [.d (SL none 2 Lnk.enc (linkN g n x f) (linkG g n x f)), .d (I (linkE g n x f))]) := by
  refine CSF.of_body T.en30 Tryz.func30 rfl (by simp [Tryz.ntmps30]) (by simp [go_sem]) fun hwf => ?_
  refine awp_reg_seq fun K hK => ?_
  simp [go_sem, Tryz.ntmps30]
  repeat refine ⟨by omega, ?_⟩
  refine hK _ ?_; clear hK K
  refine awp_reg_seq fun K hK => ?_
  simp [go_sem]
  repeat refine ⟨by omega, ?_⟩
  refine hK _ ?_; clear hK K
  refine awp_seq ?_
  refine awp_block ?_
  refine awp_reg_seq fun K hK => ?_
  simp [go_sem]
  repeat refine ⟨by omega, ?_⟩
  refine CSk.mk (digitize_linked_cs _ c n g hn) ?_
  simp [go_sem]
  repeat refine ⟨by omega, ?_⟩
  refine CSm.mk' _ (fun _ => digitize_Check_cs _ x hu hm (loc_app hσ)) ?_
  simp [go_sem]
  repeat refine ⟨by omega, ?_⟩
  refine hK _ ?_; clear hK K
  refine awp_forget [2, 3, 4, 8, 13] (by simp only [restr, List.contains_cons, List.contains_nil, Nat.reduceBEq, Bool.or_false, Bool.or_true, Bool.true_or, Bool.false_or, if_true, if_false, Bool.false_eq_true]; rfl) ?_
  refine awp_cond rfl (fun c0 => ?_) (fun c0 => ?_)
  · have d0 := c0; try simp at d0
    have hz := linkE_1 (f := f) (show (!linkB g n || !decide (chkB x = 0)) = true by simpa using d0)
    have hn0 := linkN_err hz (by decide)
    refine awp_reg_seq fun K hK => ?_
    simp [go_sem, c0, d0]
    repeat refine ⟨by omega, ?_⟩
    refine hK _ ?_; clear hK K
    refine awp_ret ?_
    rw [hz, hn0]; simp [go_sem, Tryz.results30, sameL0, Go.Abs.sameA]
  · have d0 := c0; try simp at d0
    have h1 : (!linkB g n || !decide (chkB x = 0)) = false := by simpa using d0
    refine awp_reg_seq fun K hK => ?_
    simp [go_sem, c0, d0]
    repeat refine ⟨by omega, ?_⟩
    refine hK _ ?_; clear hK K
    refine awp_forget [2, 3, 4, 8, 22] (by simp only [restr, List.contains_cons, List.contains_nil, Nat.reduceBEq, Bool.or_false, Bool.or_true, Bool.true_or, Bool.false_or, if_true, if_false, Bool.false_eq_true]; rfl) ?_
    refine awp_cond rfl (fun c1 => ?_) (fun c1 => ?_)
    · have d1 := c1; try simp at d1
      have hz := linkE_11 (f := f) h1 (show x.State ≠ 3 by simpa using d1)
      have hn0 := linkN_err hz (by decide)
      refine awp_reg_seq fun K hK => ?_
      simp [go_sem, c0, d0, c1, d1]
      repeat refine ⟨by omega, ?_⟩
      refine hK _ ?_; clear hK K
      refine awp_ret ?_
      rw [hz, hn0]; simp [go_sem, Tryz.results30, sameL0, Go.Abs.sameA]
    · have d1 := c1; try simp at d1
      have h2 : x.State = 3 := by simpa using d1
      have hch : chkB x = 0 := by have := h1; simp at this; exact this.2
      have hl := linkB_iff.1 (show linkB g n = true by have := h1; simp at this; exact this.1)
      have hx := chk_rng hch
      have g3 := hx.n1
      have g4 := hx.n2
      have hn7 := hl.2
      clear d1 c1
      have d1 : True := trivial
      have c1 : True := trivial
      refine awp_reg_seq fun K hK => ?_
      simp [go_sem, c0, d0, c1, d1]
      try simp (disch := omega) only [wrapI]
      repeat refine ⟨by omega, ?_⟩
      refine hK _ ?_; clear hK K
      refine awp_forget [2, 3, 4, 8, 26] (by simp only [restr, List.contains_cons, List.contains_nil, Nat.reduceBEq, Bool.or_false, Bool.or_true, Bool.true_or, Bool.false_or, if_true, if_false, Bool.false_eq_true]; rfl) ?_
      refine awp_cond rfl (fun c2 => ?_) (fun c2 => ?_)
      · have d2 := c2; try simp at d2
        have h3 : f < 1 ∨ 1073741824 - (x.nu : Int) + 1 < f := by exact d2
        have hz := linkE_2 h1 h2 h3
        have hn0 := linkN_err hz (by decide)
        refine awp_reg_seq fun K hK => ?_
        simp [go_sem, c0, d0, c1, d1, c2, d2]
        repeat refine ⟨by omega, ?_⟩
        refine hK _ ?_; clear hK K
        refine awp_ret ?_
        rw [hz, hn0]; simp [go_sem, Tryz.results30, sameL0, Go.Abs.sameA]
      · have d2 := c2; try simp at d2
        have h3 : ¬ (f < 1 ∨ 1073741824 - (x.nu : Int) + 1 < f) := by omega
        refine awp_reg_seq fun K hK => ?_
        simp [go_sem, c0, d0, c1, d1, c2, d2]
        try simp (disch := omega) only [wrapI]
        repeat refine ⟨by omega, ?_⟩
        refine hK _ ?_; clear hK K
        refine awp_forget [2, 3, 4, 8, 38] (by simp only [restr, List.contains_cons, List.contains_nil, Nat.reduceBEq, Bool.or_false, Bool.or_true, Bool.true_or, Bool.false_or, if_true, if_false, Bool.false_eq_true]; rfl) ?_
        refine awp_cond rfl (fun c3 => ?_) (fun c3 => ?_)
        · have d3 := c3; try simp at d3
          have h4 : 0 < n ∧ f ≤ (g (n - 1)).Image := by exact d3
          have hz := linkE_5 h1 h2 h3 h4
          have hn0 := linkN_err hz (by decide)
          refine awp_reg_seq fun K hK => ?_
          simp [go_sem, c0, d0, c1, d1, c2, d2, c3, d3]
          repeat refine ⟨by omega, ?_⟩
          refine hK _ ?_; clear hK K
          refine awp_ret ?_
          rw [hz, hn0]; simp [go_sem, Tryz.results30, sameL0, Go.Abs.sameA]
        · have d3 := c3; try simp at d3
          have h4 : ¬ (0 < n ∧ f ≤ (g (n - 1)).Image) := by intro hh; have := d3 hh.1; omega
          refine awp_reg_seq fun K hK => ?_
          simp [go_sem, c0, d0, c1, d1, c2, d2, c3, d3]
          repeat refine ⟨by omega, ?_⟩
          refine CSk.mk (containsInt_cs _ none x.nu x.u 53 [.ptr σ.length 0] (fun k => (lst n g).any fun y => y.Unit == k) hu (fun i hi => linkHas_cs σ [.var (x.enc.map .d)] c n g (x.u i) hn)) ?_
          simp [go_sem, c0, d0, c1, d1, c2, d2, c3, d3]
          repeat refine ⟨by omega, ?_⟩
          refine hK _ ?_; clear hK K
          refine awp_forget [2, 3, 4, 53] (by simp only [restr, List.contains_cons, List.contains_nil, Nat.reduceBEq, Bool.or_false, Bool.or_true, Bool.true_or, Bool.false_or, if_true, if_false, Bool.false_eq_true]; rfl) ?_
          refine awp_cond rfl (fun c4 => ?_) (fun c4 => ?_)
          · have d4 := c4; try simp at d4
            have hz := linkE_6 h1 h2 h3 h4 (show twB g n x.u x.nu = true from by simpa [twB] using c4)
            have hn0 := linkN_err hz (by decide)
            refine awp_reg_seq fun K hK => ?_
            simp [go_sem, c0, d0, c1, d1, c2, d2, c3, d3, c4, d4]
            repeat refine ⟨by omega, ?_⟩
            refine hK _ ?_; clear hK K
            refine awp_ret ?_
            rw [hz, hn0]; simp [go_sem, Tryz.results30, sameL0, Go.Abs.sameA]
          · have d4 := c4; try simp at d4
            have h5 : twB g n x.u x.nu = false := by simpa [twB] using c4
            refine awp_reg_seq fun K hK => ?_
            simp [go_sem, c0, d0, c1, d1, c2, d2, c3, d3, c4, d4]
            try simp (disch := omega) only [wrapI]
            repeat refine ⟨by omega, ?_⟩
            refine hK _ ?_; clear hK K
            refine awp_forget [2, 3, 4, 58] (by simp only [restr, List.contains_cons, List.contains_nil, Nat.reduceBEq, Bool.or_false, Bool.or_true, Bool.true_or, Bool.false_or, if_true, if_false, Bool.false_eq_true]; rfl) ?_
            refine awp_cond rfl (fun c5 => ?_) (fun c5 => ?_)
            · have d5 := c5; try simp at d5
              have hz := linkE_12 h1 h2 h3 h4 h5 (by omega)
              have hn0 := linkN_err hz (by decide)
              refine awp_reg_seq fun K hK => ?_
              simp [go_sem, c0, d0, c1, d1, c2, d2, c3, d3, c4, d4, c5, d5]
              repeat refine ⟨by omega, ?_⟩
              refine hK _ ?_; clear hK K
              refine awp_ret ?_
              rw [hz, hn0]; simp [go_sem, Tryz.results30, sameL0, Go.Abs.sameA]
            · have d5 := c5; try simp at d5
              have hz := linkE_0 h1 h2 h3 h4 h5 (by omega)
              have hn0 := linkN_ok hz
              refine awp_skip ?_
              refine awp_reg_seq fun K hK => ?_
              simp [go_sem, c0, d0, c1, d1, c2, d2, c3, d3, c4, d4, c5, d5]
              repeat refine ⟨by omega, ?_⟩
              refine CSk.gen (cloneLnkM_cs _ c n g hn) ?_; rintro r σ' X ⟨rfl, rfl, rfl⟩
              simp [go_sem, c0, d0, c1, d1, c2, d2, c3, d3, c4, d4, c5, d5]
              repeat refine ⟨by omega, ?_⟩
              refine hK _ ?_; clear hK K
              refine awp_seq ?_
              refine awp_reg_seq fun K hK => ?_
              simp [go_sem, c0, d0, c1, d1, c2, d2, c3, d3, c4, d4, c5, d5]
              repeat refine ⟨by omega, ?_⟩
              refine hK _ ?_; clear hK K
              refine awp_block ?_
              refine awp_rows (σ.length + 2) (fun q => Lnk.enc (linkF g n x.u f q)) (by simp [go_sem]; first | exact ⟨rfl, rfl, rfl⟩ | exact ⟨rfl, rfl⟩ | rfl) (by intro q hq; simp [go_sem, linkF_lt hq]) (by simp [go_sem]; rfl) ?_
              refine awp_forget [2, 9, 69, 70, 71] (by simp [go_sem, restr]; rfl) ?_
              refine awp_mv [σ.length + 2] (by simp) ?_
              refine awp_loopU (α := Nat) (fun i => [(71, .d (I i)), (9, .ms (σ.length + 2) 2 0 (n + i))]) (fun i => σ ++ [.var [.d (SL c 2 Lnk.enc n g)], .var (x.enc.map .d), .arr 2 (n + i) (fun q => Lnk.enc (linkF g n x.u f q))]) (fun i => i ≤ x.nu) (fun i => x.nu - i) 0 (by simp [go_sem]) (rfl) (by simp) ?_
              rintro i hi
              refine awp_reg_seq fun K hK => ?_
              simp [go_sem, c0, d0, c1, d1, c2, d2, c3, d3, c4, d4, c5, d5]
              repeat refine ⟨by omega, ?_⟩
              refine hK _ ?_; clear hK K
              refine awp_seq ?_
              refine awp_forget [2, 9, 69, 70, 71, 72] (by simp only [restr, List.contains_cons, List.contains_nil, Nat.reduceBEq, Bool.or_false, Bool.or_true, Bool.true_or, Bool.false_or, if_true, if_false, Bool.false_eq_true]; rfl) ?_
              refine awp_cond rfl (fun c6 => ?_) (fun c6 => ?_)
              · have d6 := c6; try simp at d6
                have hi5 : i < x.nu := by omega
                have hwr : IntKind.i64.wrap (f + (i : Int)) = f + (i : Int) := wrapI (by omega) (by omega)
                have hni := Nat.add_assoc n i 1
                refine awp_skip ?_
                refine awp_seq ?_
                refine awp_block ?_
                refine awp_reg_seq fun K hK => ?_
                simp [go_sem, c0, d0, c1, d1, c2, d2, c3, d3, c4, d4, c5, d5, c6, d6, hi5, hwr, hni]
                repeat refine ⟨by omega, ?_⟩
                refine hK _ ?_; clear hK K
                refine awp_reg_end fun K hK => ?_
                simp [go_sem, c0, d0, c1, d1, c2, d2, c3, d3, c4, d4, c5, d5, c6, d6, hi5, hwr, hni, hwf.one, hwf.zero]
                try simp (disch := omega) only [wrapI]
                repeat refine ⟨by omega, ?_⟩
                refine hK _ ?_; clear hK K
                refine awp_rows (σ.length + 2) (fun q => Lnk.enc (linkF g n x.u f q)) (by simp [go_sem]; first | exact ⟨rfl, rfl, rfl⟩ | exact ⟨rfl, rfl⟩ | rfl) (by exact fun q hq => linkF_cat hq) (by simp [go_sem]; rfl) ?_
                refine awp_reg_end fun K hK => ?_
                simp [go_sem, c0, d0, c1, d1, c2, d2, c3, d3, c4, d4, c5, d5, c6, d6, hi5, hwr, hni]
                try simp (disch := omega) only [wrapI]
                repeat refine ⟨by omega, ?_⟩
                refine hK _ ?_; clear hK K
                refine ⟨i + 1, back_of' (by simp [go_sem, wrap_succ (i := i) (by omega), c0, d0, c1, d1, c2, d2, c3, d3, c4, d4, c5, d5, c6, d6, hi5, hwr, hni]) ((leaves_app (by simp [go_sem]))) (by (simp [go_sem, wrap_succ (i := i) (by omega), c0, d0, c1, d1, c2, d2, c3, d3, c4, d4, c5, d5, c6, d6, hi5, hwr, hni] <;> omega)), by omega, by first | omega | (dsimp only; omega)⟩
              · have d6 := c6; try simp at d6
                obtain rfl : i = x.nu := by omega
                refine awp_exit ?_
                refine awp_reg_seq fun K hK => ?_
                simp [go_sem, c0, d0, c1, d1, c2, d2, c3, d3, c4, d4, c5, d5, c6, d6]
                repeat refine ⟨by omega, ?_⟩
                refine hK _ ?_; clear hK K
                refine awp_freeze (σ.length + 2) (by simp [go_sem]; first | exact ⟨rfl, rfl, rfl⟩ | exact ⟨rfl, rfl⟩ | rfl) (by simp [go_sem]; rfl) (by simp [go_sem, hwf.frz, hwf.frz0]; rfl) ?_
                refine awp_ret ?_
                rw [hz, hn0]; simp [go_sem, Tryz.results30, sameL0, Go.Abs.sameA, linkG]
theorem ref44_Link_cs (σ : List Blk) (n : Nat) (g : Nat → Lnk) (x : Bat) (f : Int) (hn : n < 1000000000) (hu : x.nu < 1000000000) (hm : x.nb < 1000000000) (hσ : σ[0]? = some (.tab 0 powV)) : CSF Tryz.prog 32 [.d (SL none 2 Lnk.enc n g), .agg (x.enc.map .d), .d (I f)] σ (.tup [.d (SL none 2 Lnk.enc (linkN g n x f) (linkG g n x f)), .d (I (linkE g n x f))]) := by
  refine CSF.of_body T.en32 Tryz.func32 rfl (by simp [Tryz.ntmps32]) (by simp [go_sem]) fun hwf => ?_
  refine awp_reg_seq fun K hK => ?_
  simp [go_sem, Tryz.ntmps32]
  repeat refine ⟨by omega, ?_⟩
  refine hK _ ?_; clear hK K
  refine awp_seq ?_
  refine awp_reg_seq fun K hK => ?_
  simp [go_sem]
  repeat refine ⟨by omega, ?_⟩
  refine CSk.mk (ref44_Links_cs _ none n g hn) ?_
  simp [go_sem]
  repeat refine ⟨by omega, ?_⟩
  refine CSm.mk' _ (fun _ => ref44_Check_cs _ x hu hm (loc_app hσ)) ?_
  simp [go_sem]
  repeat refine ⟨by omega, ?_⟩
  refine hK _ ?_; clear hK K
  refine awp_forget [0, 2, 4, 20] (by simp only [restr, List.contains_cons, List.contains_nil, Nat.reduceBEq, Bool.or_false, Bool.or_true, Bool.true_or, Bool.false_or, if_true, if_false, Bool.false_eq_true]; rfl) ?_
  refine awp_cond rfl (fun c0 => ?_) (fun c0 => ?_)
  · have d0 := c0; try simp at d0
    have hz := linkE_1 (f := f) (show (!linkB g n || !decide (chkB x = 0)) = true by simpa using d0)
    have hn0 := linkN_err hz (by decide)
    refine awp_reg_seq fun K hK => ?_
    simp [go_sem, c0, d0]
    repeat refine ⟨by omega, ?_⟩
    refine hK _ ?_; clear hK K
    refine awp_ret ?_
    rw [hz, hn0]; simp [go_sem, Tryz.results32, sameL0, Go.Abs.sameA]
  · have d0 := c0; try simp at d0
    have h1 : (!linkB g n || !decide (chkB x = 0)) = false := by simpa using d0
    refine awp_skip ?_
    refine awp_seq ?_
    refine awp_reg_seq fun K hK => ?_
    simp [go_sem, c0, d0]
    repeat refine ⟨by omega, ?_⟩
    refine hK _ ?_; clear hK K
    refine awp_forget [0, 2, 4, 23] (by simp only [restr, List.contains_cons, List.contains_nil, Nat.reduceBEq, Bool.or_false, Bool.or_true, Bool.true_or, Bool.false_or, if_true, if_false, Bool.false_eq_true]; rfl) ?_
    refine awp_cond rfl (fun c1 => ?_) (fun c1 => ?_)
    · have d1 := c1; try simp at d1
      have hz := linkE_11 (f := f) h1 (show x.State ≠ 3 by simpa using d1)
      have hn0 := linkN_err hz (by decide)
      refine awp_reg_seq fun K hK => ?_
      simp [go_sem, c0, d0, c1, d1]
      repeat refine ⟨by omega, ?_⟩
      refine hK _ ?_; clear hK K
      refine awp_ret ?_
      rw [hz, hn0]; simp [go_sem, Tryz.results32, sameL0, Go.Abs.sameA]
    · have d1 := c1; try simp at d1
      have h2 : x.State = 3 := by simpa using d1
      have hch : chkB x = 0 := by have := h1; simp at this; exact this.2
      have hl := linkB_iff.1 (show linkB g n = true by have := h1; simp at this; exact this.1)
      have hx := chk_rng hch
      have g3 := hx.n1
      have g4 := hx.n2
      have hn7 := hl.2
      clear d1 c1
      have d1 : True := trivial
      have c1 : True := trivial
      refine awp_skip ?_
      refine awp_seq ?_
      refine awp_reg_seq fun K hK => ?_
      simp [go_sem, c0, d0, c1, d1]
      try simp (disch := omega) only [wrapI]
      repeat refine ⟨by omega, ?_⟩
      refine hK _ ?_; clear hK K
      refine awp_forget [0, 2, 4, 38] (by simp only [restr, List.contains_cons, List.contains_nil, Nat.reduceBEq, Bool.or_false, Bool.or_true, Bool.true_or, Bool.false_or, if_true, if_false, Bool.false_eq_true]; rfl) ?_
      refine awp_cond rfl (fun c2 => ?_) (fun c2 => ?_)
      · have d2 := c2; try simp at d2
        have h3 : f < 1 ∨ 1073741824 - (x.nu : Int) + 1 < f := by
          by_cases hf : 1 ≤ f ∧ f ≤ 1073741824
          · have e1 : IntKind.i64.wrap (f + (x.nu : Int)) = f + x.nu := wrapI (by omega) (by omega)
            have e2 : IntKind.i64.wrap (f + (x.nu : Int) - 1) = f + x.nu - 1 := wrapI (by omega) (by omega)
            rw [e1, e2] at d2; omega
          · omega
        have hz := linkE_2 h1 h2 h3
        have hn0 := linkN_err hz (by decide)
        refine awp_reg_seq fun K hK => ?_
        simp [go_sem, c0, d0, c1, d1, c2, d2]
        repeat refine ⟨by omega, ?_⟩
        refine hK _ ?_; clear hK K
        refine awp_ret ?_
        rw [hz, hn0]; simp [go_sem, Tryz.results32, sameL0, Go.Abs.sameA]
      · have d2 := c2; try simp at d2
        have e1 : IntKind.i64.wrap (f + (x.nu : Int)) = f + x.nu := wrapI (by omega) (by omega)
        have e2 : IntKind.i64.wrap (f + (x.nu : Int) - 1) = f + x.nu - 1 := wrapI (by omega) (by omega)
        have h3 : ¬ (f < 1 ∨ 1073741824 - (x.nu : Int) + 1 < f) := by
          rw [e1, e2] at d2; omega
        refine awp_skip ?_
        refine awp_seq ?_
        refine awp_reg_seq fun K hK => ?_
        simp [go_sem, c0, d0, c1, d1, c2, d2]
        try simp (disch := omega) only [wrapI]
        repeat refine ⟨by omega, ?_⟩
        refine hK _ ?_; clear hK K
        refine awp_forget [0, 2, 4, 52] (by simp only [restr, List.contains_cons, List.contains_nil, Nat.reduceBEq, Bool.or_false, Bool.or_true, Bool.true_or, Bool.false_or, if_true, if_false, Bool.false_eq_true]; rfl) ?_
        refine awp_cond rfl (fun c3 => ?_) (fun c3 => ?_)
        · have d3 := c3; try simp at d3
          have h4 : 0 < n ∧ f ≤ (g (n - 1)).Image := by exact d3
          have hz := linkE_5 h1 h2 h3 h4
          have hn0 := linkN_err hz (by decide)
          refine awp_reg_seq fun K hK => ?_
          simp [go_sem, c0, d0, c1, d1, c2, d2, c3, d3]
          repeat refine ⟨by omega, ?_⟩
          refine hK _ ?_; clear hK K
          refine awp_ret ?_
          rw [hz, hn0]; simp [go_sem, Tryz.results32, sameL0, Go.Abs.sameA]
        · have d3 := c3; try simp at d3
          have h4 : ¬ (0 < n ∧ f ≤ (g (n - 1)).Image) := by intro hh; have := d3 hh.1; omega
          refine awp_skip ?_
          refine awp_seq ?_
          refine awp_reg_seq fun K hK => ?_
          simp [go_sem, c0, d0, c1, d1, c2, d2, c3, d3]
          repeat refine ⟨by omega, ?_⟩
          refine hK _ ?_; clear hK K
          refine awp_block ?_
          refine awp_forget [0, 2, 4, 53, 54, 55] (by simp [go_sem, restr]; rfl) ?_
          refine awp_loopU (α := Nat) (fun i => [(55, .d (I i))]) (fun i => σ ++ [.var (x.enc.map .d)]) (fun i => i ≤ n ∧ ∀ q, q < i → memI x.nu x.u (g q).Unit = false) (fun i => n - i) 0 (by simp [go_sem]) (rfl) (by simp) ?_
          rintro i ⟨hi, hy⟩
          refine awp_reg_seq fun K hK => ?_
          simp [go_sem, c0, d0, c1, d1, c2, d2, c3, d3]
          repeat refine ⟨by omega, ?_⟩
          refine hK _ ?_; clear hK K
          refine awp_seq ?_
          refine awp_forget [0, 2, 4, 53, 54, 55, 56] (by simp only [restr, List.contains_cons, List.contains_nil, Nat.reduceBEq, Bool.or_false, Bool.or_true, Bool.true_or, Bool.false_or, if_true, if_false, Bool.false_eq_true]; rfl) ?_
          refine awp_cond rfl (fun c4 => ?_) (fun c4 => ?_)
          · have d4 := c4; try simp at d4
            have hi5 : i < n := by omega
            refine awp_skip ?_
            refine awp_seq ?_
            refine awp_block ?_
            refine awp_reg_seq fun K hK => ?_
            simp [go_sem, c0, d0, c1, d1, c2, d2, c3, d3, c4, d4, hi5]
            repeat refine ⟨by omega, ?_⟩
            refine hK _ ?_; clear hK K
            refine awp_reg_seq fun K hK => ?_
            simp [go_sem, c0, d0, c1, d1, c2, d2, c3, d3, c4, d4, hi5]
            repeat refine ⟨by omega, ?_⟩
            refine CSk.mk (inOf_cs _ none x.nu x.u (g i).Unit hu) ?_
            simp [go_sem, c0, d0, c1, d1, c2, d2, c3, d3, c4, d4, hi5]
            repeat refine ⟨by omega, ?_⟩
            refine hK _ ?_; clear hK K
            refine awp_forget [0, 2, 4, 53, 54, 55, 63] (by simp only [restr, List.contains_cons, List.contains_nil, Nat.reduceBEq, Bool.or_false, Bool.or_true, Bool.true_or, Bool.false_or, if_true, if_false, Bool.false_eq_true]; rfl) ?_
            refine awp_cond rfl (fun c5 => ?_) (fun c5 => ?_)
            · have d5 := c5; try simp at d5
              have hz := linkE_6 h1 h2 h3 h4 (twB_iff.2 ⟨i, hi5, by simpa using d5⟩)
              have hn0 := linkN_err hz (by decide)
              refine awp_reg_seq fun K hK => ?_
              simp [go_sem, c0, d0, c1, d1, c2, d2, c3, d3, c4, d4, hi5, c5, d5]
              repeat refine ⟨by omega, ?_⟩
              refine hK _ ?_; clear hK K
              refine awp_ret ?_
              rw [hz, hn0]; simp [go_sem, Tryz.results32, sameL0, Go.Abs.sameA]
            · have d5 := c5; try simp at d5
              refine awp_skip ?_
              refine awp_reg_end fun K hK => ?_
              simp [go_sem, c0, d0, c1, d1, c2, d2, c3, d3, c4, d4, hi5, c5, d5]
              try simp (disch := omega) only [wrapI]
              repeat refine ⟨by omega, ?_⟩
              refine hK _ ?_; clear hK K
              refine ⟨i + 1, back_of' (by simp [go_sem, wrap_succ (i := i) (by omega), c0, d0, c1, d1, c2, d2, c3, d3, c4, d4, hi5, c5, d5]) ((leaves_app (by simp [go_sem]))) (by (simp [go_sem, wrap_succ (i := i) (by omega), c0, d0, c1, d1, c2, d2, c3, d3, c4, d4, hi5, c5, d5] <;> omega)), ⟨by omega, fun q hq => by rcases Nat.lt_or_eq_of_le (Nat.le_of_lt_succ hq) with h9 | h9; exact hy q h9; rw [h9]; simpa using d5⟩, by first | omega | (dsimp only; omega)⟩
          · have d4 := c4; try simp at d4
            obtain rfl : i = n := by omega
            have h5 : twB g i x.u x.nu = false := twB_no hy
            refine awp_exit ?_
            refine awp_seq ?_
            refine awp_reg_seq fun K hK => ?_
            simp [go_sem, c0, d0, c1, d1, c2, d2, c3, d3, c4, d4]
            try simp (disch := omega) only [wrapI]
            repeat refine ⟨by omega, ?_⟩
            refine hK _ ?_; clear hK K
            refine awp_forget [0, 2, 4, 71] (by simp only [restr, List.contains_cons, List.contains_nil, Nat.reduceBEq, Bool.or_false, Bool.or_true, Bool.true_or, Bool.false_or, if_true, if_false, Bool.false_eq_true]; rfl) ?_
            refine awp_cond rfl (fun c6 => ?_) (fun c6 => ?_)
            · have d6 := c6; try simp at d6
              have hz := linkE_12 h1 h2 h3 h4 h5 (by omega)
              have hn0 := linkN_err hz (by decide)
              refine awp_reg_seq fun K hK => ?_
              simp [go_sem, c0, d0, c1, d1, c2, d2, c3, d3, c4, d4, c6, d6]
              repeat refine ⟨by omega, ?_⟩
              refine hK _ ?_; clear hK K
              refine awp_ret ?_
              rw [hz, hn0]; simp [go_sem, Tryz.results32, sameL0, Go.Abs.sameA]
            · have d6 := c6; try simp at d6
              have hz := linkE_0 h1 h2 h3 h4 h5 (by omega)
              have hn0 := linkN_ok hz
              refine awp_skip ?_
              refine awp_reg_seq fun K hK => ?_
              simp [go_sem, c0, d0, c1, d1, c2, d2, c3, d3, c4, d4, c6, d6, hwf.one, hwf.zero]
              repeat refine ⟨by omega, ?_⟩
              refine hK _ ?_; clear hK K
              refine awp_seq ?_
              refine awp_reg_seq fun K hK => ?_
              simp [go_sem, c0, d0, c1, d1, c2, d2, c3, d3, c4, d4, c6, d6]
              repeat refine ⟨by omega, ?_⟩
              refine hK _ ?_; clear hK K
              refine awp_block ?_
              refine awp_rows (σ.length + 1) (fun q => Lnk.enc (linkF g i x.u f q)) (by simp [go_sem]; first | exact ⟨rfl, rfl, rfl⟩ | exact ⟨rfl, rfl⟩ | rfl) (by intro q hq; simp [go_sem, linkF_lt hq]) (by simp [go_sem]; rfl) ?_
              refine awp_forget [2, 10, 76, 77, 78] (by simp [go_sem, restr]; rfl) ?_
              refine awp_mv [σ.length + 1] (by simp) ?_
              refine awp_loopU (α := Nat) (fun k => [(78, .d (I k)), (10, .ms (σ.length + 1) 2 0 (i + k))]) (fun k => σ ++ [.var (x.enc.map .d), .arr 2 (i + k) (fun q => Lnk.enc (linkF g i x.u f q))]) (fun k => k ≤ x.nu) (fun k => x.nu - k) 0 (by simp [go_sem]) (rfl) (by simp) ?_
              rintro k hk
              refine awp_reg_seq fun K hK => ?_
              simp [go_sem, c0, d0, c1, d1, c2, d2, c3, d3, c4, d4, c6, d6]
              repeat refine ⟨by omega, ?_⟩
              refine hK _ ?_; clear hK K
              refine awp_seq ?_
              refine awp_forget [2, 10, 76, 77, 78, 79] (by simp only [restr, List.contains_cons, List.contains_nil, Nat.reduceBEq, Bool.or_false, Bool.or_true, Bool.true_or, Bool.false_or, if_true, if_false, Bool.false_eq_true]; rfl) ?_
              refine awp_cond rfl (fun c7 => ?_) (fun c7 => ?_)
              · have d7 := c7; try simp at d7
                have hi5 : k < x.nu := by omega
                have hwr : IntKind.i64.wrap (f + (k : Int)) = f + (k : Int) := wrapI (by omega) (by omega)
                have hni := Nat.add_assoc i k 1
                refine awp_skip ?_
                refine awp_seq ?_
                refine awp_block ?_
                refine awp_reg_seq fun K hK => ?_
                simp [go_sem, c0, d0, c1, d1, c2, d2, c3, d3, c4, d4, c6, d6, c7, d7, hi5, hwr, hni]
                repeat refine ⟨by omega, ?_⟩
                refine hK _ ?_; clear hK K
                refine awp_reg_end fun K hK => ?_
                simp [go_sem, c0, d0, c1, d1, c2, d2, c3, d3, c4, d4, c6, d6, c7, d7, hi5, hwr, hni, hwf.one, hwf.zero]
                try simp (disch := omega) only [wrapI]
                repeat refine ⟨by omega, ?_⟩
                refine hK _ ?_; clear hK K
                refine awp_rows (σ.length + 1) (fun q => Lnk.enc (linkF g i x.u f q)) (by simp [go_sem]; first | exact ⟨rfl, rfl, rfl⟩ | exact ⟨rfl, rfl⟩ | rfl) (by exact fun q hq => linkF_cat hq) (by simp [go_sem]; rfl) ?_
                refine awp_reg_end fun K hK => ?_
                simp [go_sem, c0, d0, c1, d1, c2, d2, c3, d3, c4, d4, c6, d6, c7, d7, hi5, hwr, hni]
                try simp (disch := omega) only [wrapI]
                repeat refine ⟨by omega, ?_⟩
                refine hK _ ?_; clear hK K
                refine ⟨k + 1, back_of' (by simp [go_sem, wrap_succ (i := k) (by omega), c0, d0, c1, d1, c2, d2, c3, d3, c4, d4, c6, d6, c7, d7, hi5, hwr, hni]) ((leaves_app (by simp [go_sem]))) (by (simp [go_sem, wrap_succ (i := k) (by omega), c0, d0, c1, d1, c2, d2, c3, d3, c4, d4, c6, d6, c7, d7, hi5, hwr, hni] <;> omega)), by omega, by first | omega | (dsimp only; omega)⟩
              · have d7 := c7; try simp at d7
                obtain rfl : k = x.nu := by omega
                refine awp_exit ?_
                refine awp_reg_seq fun K hK => ?_
                simp [go_sem, c0, d0, c1, d1, c2, d2, c3, d3, c4, d4, c6, d6, c7, d7]
                repeat refine ⟨by omega, ?_⟩
                refine hK _ ?_; clear hK K
                refine awp_freeze (σ.length + 1) (by simp [go_sem]; first | exact ⟨rfl, rfl, rfl⟩ | exact ⟨rfl, rfl⟩ | rfl) (by simp [go_sem]; rfl) (by simp [go_sem, hwf.frz, hwf.frz0]; rfl) ?_
                refine awp_ret ?_
                rw [hz, hn0]; simp [go_sem, Tryz.results32, sameL0, Go.Abs.sameA, linkG]
end Go.Proofs.YtldnolgijfkfpaaGreatDoor

/-! Cy -/
namespace Go.Proofs.YtldnolgijfkfpaaGreatDoor
open Go.Abs
set_option linter.unusedVariables false
set_option linter.unusedSimpArgs false
set_option maxRecDepth 100000
set_option maxHeartbeats 1000000
theorem linkN_le {g : Nat → Lnk} {n : Nat} {x : Bat} {f : Int} : linkN g n x f ≤ n + x.nu := by unfold linkN; split <;> omega
theorem imgR_len {g : Nat → Lnk} {n : Nat} {u : Int} : (imgR g n u).length ≤ n := by
  unfold imgR; split
  · exact imgL_len _ _ _
  · exact Nat.zero_le _
structure LinkOk (g : Nat → Lnk) (n : Nat) (x : Bat) (f : Int) : Prop where
  hl : ∀ i, i < n → LnkR g i
  hc : chkB x = 0
  hs : x.State = 3
  hf : 1 ≤ f
  hf2 : f ≤ 1073741824 - (x.nu : Int) + 1
  hp : 0 < n → (g (n - 1)).Image < f
  ht : twB g n x.u x.nu = false
  hk : n + x.nu ≤ 1024
theorem linkE_inv {g : Nat → Lnk} {n : Nat} {x : Bat} {f : Int} (h : linkE g n x f = 0) : LinkOk g n x f := by
  by_cases h1 : (!linkB g n || !decide (chkB x = 0)) = true
  · rw [linkE_1 h1] at h; cases h
  rw [Bool.not_eq_true] at h1
  by_cases h2 : x.State = 3
  · by_cases h3 : f < 1 ∨ 1073741824 - (x.nu : Int) + 1 < f
    · rw [linkE_2 h1 h2 h3] at h; cases h
    by_cases h4 : 0 < n ∧ f ≤ (g (n - 1)).Image
    · rw [linkE_5 h1 h2 h3 h4] at h; cases h
    by_cases h5 : twB g n x.u x.nu = true
    · rw [linkE_6 h1 h2 h3 h4 h5] at h; cases h
    rw [Bool.not_eq_true] at h5
    by_cases h6 : 1024 < n + x.nu
    · rw [linkE_12 h1 h2 h3 h4 h5 h6] at h; cases h
    have hc : linkB g n = true ∧ chkB x = 0 := by simpa using h1
    exact ⟨(linkB_iff.1 hc.1).1, hc.2, h2, by omega, by omega, fun h0 => by omega, h5, by omega⟩
  · rw [linkE_11 h1 h2] at h; cases h
theorem linkF_right {g : Nat → Lnk} {n : Nat} {x : Bat} {f : Int} (h : LinkOk g n x f) : ∀ i, i < n + x.nu → LnkR (linkG g n x f) i := by
  intro i hi
  have hx := chk_rng h.hc
  have hf := h.hf
  have hf2 := h.hf2
  unfold LnkR linkG
  by_cases hin : i < n
  · rw [linkF_lt hin]
    by_cases h0 : 0 < i
    · rw [linkF_lt (show i - 1 < n by omega)]; exact h.hl i hin
    · obtain ⟨a, b, c⟩ := h.hl i hin
      exact ⟨a, b, fun h9 => absurd h9 h0⟩
  · obtain ⟨k, rfl⟩ : ∃ k, i = n + k := ⟨i - n, by omega⟩
    have hu := hx.u1 k (by omega)
    rw [linkF_ge]
    refine ⟨⟨by dsimp only; omega, by dsimp only; omega⟩, hu, fun h0 => ?_⟩
    by_cases hk : k = 0
    · subst hk
      rw [linkF_lt (show n + 0 - 1 < n by omega)]
      have := h.hp (by omega)
      simpa using this
    · rw [show n + k - 1 = n + (k - 1) by omega, linkF_ge]; dsimp only; omega
theorem pickL_one {α : Type} {p : Nat → Bool} {h : Nat → α} {k : Nat} (hp : p k = true) : ∀ {N : Nat}, (∀ q, q < N → q ≠ k → p q = false) → pickL p h N = if k < N then [h k] else []
  | 0, _ => rfl
  | N + 1, hq => by
    rw [pickL, pickL_one hp (N := N) (fun q h1 h2 => hq q (by omega) h2)]
    by_cases hk : k = N
    · subst hk; rw [if_pos hp, if_neg (by omega), if_pos (by omega)]; rfl
    · rw [if_neg (by rw [hq N (by omega) (fun h9 => hk h9.symm)]; decide)]
      by_cases h9 : k < N
      · rw [if_pos h9, if_pos (by omega)]
      · rw [if_neg h9, if_neg (by omega)]
theorem link_img {g : Nat → Lnk} {n : Nat} {x : Bat} {f : Int} (h : LinkOk g n x f) {i : Nat} (hi : i < x.nu) : imgR (linkG g n x f) (n + x.nu) (x.u i) = [f + (i : Int)] := by
  have hl : linkB (linkG g n x f) (n + x.nu) = true := linkB_iff.2 ⟨linkF_right h, h.hk⟩
  have hasc := chk_asc h.hc
  unfold imgR; rw [if_pos hl]
  unfold imgL linkG
  rw [pickL_one (k := n + i)]
  · rw [if_pos (by omega), linkF_ge]
  · rw [linkF_ge]; simp
  · intro q hq hne
    simp only [decide_eq_false_iff_not]
    by_cases hqn : q < n
    · rw [linkF_lt hqn]
      intro he
      have : twB g n x.u x.nu = true := twB_iff.2 ⟨q, hqn, (memI_iff _ _ _).2 ⟨i, hi, he.symm⟩⟩
      rw [h.ht] at this; cases this
    · obtain ⟨k, rfl⟩ : ∃ k, q = n + k := ⟨q - n, by omega⟩
      rw [linkF_ge]
      show ¬ x.u k = x.u i
      rcases Nat.lt_trichotomy k i with h9 | h9 | h9
      · have := ascB_lt hasc h9 hi; omega
      · exact absurd (by rw [h9]) hne
      · have := ascB_lt hasc h9 (show k < x.nu by omega); omega
theorem link_same {g : Nat → Lnk} {n : Nat} {x : Bat} {f : Int} : eqL (lst n (linkG g n x f)) (lst n g) = true := eqL_yes rfl fun q hq => linkF_lt hq
theorem law44_DigitizeLinks_cs (σ : List Blk) (n : Nat) (g : Nat → Lnk) (x : Bat) (a b : Int) (hn : x.nu ≤ 9223372036854775807) (hm : x.nb ≤ 9223372036854775807) (hσ : σ[0]? = some (.tab 0 powV)) : CSF Tryz.prog 9 [.d (SL none 2 Lnk.enc n g), .agg (x.enc.map .d), .agg [.d (I a), .d (I b)]] σ (.d (B true)) := by
  refine CSF.of_body T.en9 Tryz.func9 rfl (by simp [Tryz.ntmps9]) (by simp [go_sem]) fun hwf => ?_
  refine awp_reg_seq fun K hK => ?_
  simp [go_sem, Tryz.ntmps9, eqL_self]
  repeat refine ⟨by omega, ?_⟩
  refine hK _ ?_; clear hK K
  refine awp_seq ?_
  refine awp_reg_seq fun K hK => ?_
  simp [go_sem, eqL_self]
  repeat refine ⟨by omega, ?_⟩
  refine CSk.mk (law44_awake_cs _ (loc_app hσ)) ?_
  simp [go_sem, eqL_self]
  repeat refine ⟨by omega, ?_⟩
  refine hK _ ?_; clear hK K
  refine awp_forget [0, 4, 5, 12] (by simp only [restr, List.contains_cons, List.contains_nil, Nat.reduceBEq, Bool.or_false, Bool.or_true, Bool.true_or, Bool.false_or, if_true, if_false, Bool.false_eq_true]; rfl) ?_
  refine awp_cond rfl (fun c0 => ?_) (fun c0 => ?_)
  · have d0 := c0; try simp at d0
  · have d0 := c0; try simp at d0
    refine awp_skip ?_
    refine awp_seq ?_
    refine awp_reg_seq fun K hK => ?_
    simp [go_sem, eqL_self, c0, d0]
    repeat refine ⟨by omega, ?_⟩
    refine CSk.mk (ref44_Few_cs _ x hn hm) ?_
    simp [go_sem, eqL_self, c0, d0]
    repeat refine ⟨by omega, ?_⟩
    refine hK _ ?_; clear hK K
    refine awp_forget [0, 4, 5, 20] (by simp only [restr, List.contains_cons, List.contains_nil, Nat.reduceBEq, Bool.or_false, Bool.or_true, Bool.true_or, Bool.false_or, if_true, if_false, Bool.false_eq_true]; rfl) ?_
    refine awp_cond rfl (fun c1 => ?_) (fun c1 => ?_)
    · have d1 := c1; try simp at d1
      refine awp_reg_seq fun K hK => ?_
      simp [go_sem, eqL_self, c0, d0, c1, d1]
      repeat refine ⟨by omega, ?_⟩
      refine hK _ ?_; clear hK K
      refine awp_ret ?_
      simp [go_sem, Tryz.results9, eqL_self, c0, d0, c1, d1] <;> omega
    · have d1 := c1; try simp at d1
      have hfew : fewB x = true := d1.1
      have hb := few_bd hfew
      have hn7 : n < 1000000000 := by omega
      have hu7 : x.nu ≤ 70 := by simp only [fewB, Bool.and_eq_true, decide_eq_true_eq] at hfew; omega
      have hN : linkN g n x a < 1000000000 := by have := linkN_le (g := g) (n := n) (x := x) (f := a); omega
      have hI : (imgR g n b).length < 1000000000 := by have := imgR_len (g := g) (n := n) (u := b); omega
      refine awp_skip ?_
      refine awp_draw_seq 11 T.mixed (by kernel_rfl) fun K hK => ?_
      simp [go_sem, eqL_self, c0, d0, c1, d1]
      repeat refine ⟨by omega, ?_⟩
      refine CSg.mk (cloneLnk_cs _ none n g hn7) ?_
      simp [go_sem, eqL_self, c0, d0, c1, d1]
      repeat refine ⟨by omega, ?_⟩
      refine CSg.mk (ref44_Copy_cs _ x hb.1 hb.2) ?_
      simp [go_sem, eqL_self, c0, d0, c1, d1]
      repeat refine ⟨by omega, ?_⟩
      refine CSg.mk (digitize_Link_cs _ none n g x a hn7 hb.1 hb.2 (loc_app hσ)) ?_
      simp [go_sem, eqL_self, c0, d0, c1, d1]
      repeat refine ⟨by omega, ?_⟩
      refine hK _ ?_; clear hK K
      refine awp_reg_seq fun K hK => ?_
      simp [go_sem, eqL_self, c0, d0, c1, d1]
      repeat refine ⟨by omega, ?_⟩
      refine CSk.mk (ref44_Link_cs _ n g x a hn7 hb.1 hb.2 (loc_app hσ)) ?_
      simp [go_sem, eqL_self, c0, d0, c1, d1]
      repeat refine ⟨by omega, ?_⟩
      refine hK _ ?_; clear hK K
      refine awp_draw_seq 20 T.mixed (by kernel_rfl) fun K hK => ?_
      simp [go_sem, eqL_self, c0, d0, c1, d1]
      repeat refine ⟨by omega, ?_⟩
      refine CSg.mk (ref44_SameLinks_cs _ none none (linkN g n x a) (linkN g n x a) (linkG g n x a) (linkG g n x a) hN hN) ?_
      simp [go_sem, eqL_self, c0, d0, c1, d1]
      repeat refine ⟨by omega, ?_⟩
      refine CSg.mk' _ (fun _ => cloneLnk_cs _ none n g hn7) ?_
      simp [go_sem, eqL_self, c0, d0, c1, d1]
      repeat refine ⟨by omega, ?_⟩
      refine CSg.mk' _ (fun _ => digitize_Images_cs _ none n g b hn7) ?_
      simp [go_sem, eqL_self, c0, d0, c1, d1]
      repeat refine ⟨by omega, ?_⟩
      refine CSg.mk' _ (fun _ => ref44_Images_cs _ none n g b hn7) ?_
      simp [go_sem, eqL_self, c0, d0, c1, d1]
      repeat refine ⟨by omega, ?_⟩
      refine CSg.mk' _ (fun _ => equalInt_cs _ none none (imgR g n b).length (imgR g n b).length (nth (imgR g n b)) (nth (imgR g n b)) hI hI) ?_
      simp [go_sem, eqL_self, c0, d0, c1, d1]
      repeat refine ⟨by omega, ?_⟩
      refine hK _ ?_; clear hK K
      refine awp_ret ?_
      simp [go_sem, Tryz.results9, eqL_self, c0, d0, c1, d1] <;> omega
theorem law44_DigitizeLinked_cs (σ : List Blk) (n : Nat) (g : Nat → Lnk) (x : Bat) (f : Int) (hn : x.nu ≤ 9223372036854775807) (hm : x.nb ≤ 9223372036854775807) (hσ : σ[0]? = some (.tab 0 powV)) : CSF Tryz.prog 10 [.d (SL none 2 Lnk.enc n g), .agg (x.enc.map .d), .d (I f)] σ (.d (B true)) := by
  refine CSF.of_body T.en10 Tryz.func10 rfl (by simp [Tryz.ntmps10]) (by simp [go_sem]) fun hwf => ?_
  refine awp_reg_seq fun K hK => ?_
  simp [go_sem, Tryz.ntmps10, eqL_self]
  repeat refine ⟨by omega, ?_⟩
  refine hK _ ?_; clear hK K
  refine awp_seq ?_
  refine awp_reg_seq fun K hK => ?_
  simp [go_sem, eqL_self]
  repeat refine ⟨by omega, ?_⟩
  refine CSk.mk (law44_awake_cs _ (loc_app hσ)) ?_
  simp [go_sem, eqL_self]
  repeat refine ⟨by omega, ?_⟩
  refine hK _ ?_; clear hK K
  refine awp_forget [0, 2, 4, 13] (by simp only [restr, List.contains_cons, List.contains_nil, Nat.reduceBEq, Bool.or_false, Bool.or_true, Bool.true_or, Bool.false_or, if_true, if_false, Bool.false_eq_true]; rfl) ?_
  refine awp_cond rfl (fun c0 => ?_) (fun c0 => ?_)
  · have d0 := c0; try simp at d0
  · have d0 := c0; try simp at d0
    refine awp_skip ?_
    refine awp_seq ?_
    refine awp_reg_seq fun K hK => ?_
    simp [go_sem, eqL_self, c0, d0]
    repeat refine ⟨by omega, ?_⟩
    refine CSk.mk (ref44_Few_cs _ x hn hm) ?_
    simp [go_sem, eqL_self, c0, d0]
    repeat refine ⟨by omega, ?_⟩
    refine hK _ ?_; clear hK K
    refine awp_forget [0, 2, 4, 21] (by simp only [restr, List.contains_cons, List.contains_nil, Nat.reduceBEq, Bool.or_false, Bool.or_true, Bool.true_or, Bool.false_or, if_true, if_false, Bool.false_eq_true]; rfl) ?_
    refine awp_cond rfl (fun c1 => ?_) (fun c1 => ?_)
    · have d1 := c1; try simp at d1
      refine awp_reg_seq fun K hK => ?_
      simp [go_sem, eqL_self, c0, d0, c1, d1]
      repeat refine ⟨by omega, ?_⟩
      refine hK _ ?_; clear hK K
      refine awp_ret ?_
      simp [go_sem, Tryz.results10, eqL_self, c0, d0, c1, d1] <;> omega
    · have d1 := c1; try simp at d1
      have hfew : fewB x = true := d1.1
      have hb := few_bd hfew
      have hn7 : n < 1000000000 := by omega
      have hu7 : x.nu ≤ 70 := by simp only [fewB, Bool.and_eq_true, decide_eq_true_eq] at hfew; omega
      have hN : linkN g n x f < 1000000000 := by have := linkN_le (g := g) (n := n) (x := x) (f := f); omega
      refine awp_skip ?_
      refine awp_draw_seq 10 T.mixed (by kernel_rfl) fun K hK => ?_
      simp [go_sem, eqL_self, c0, d0, c1, d1]
      repeat refine ⟨by omega, ?_⟩
      refine CSg.mk (cloneLnk_cs _ none n g hn7) ?_
      simp [go_sem, eqL_self, c0, d0, c1, d1]
      repeat refine ⟨by omega, ?_⟩
      refine CSg.mk (ref44_Copy_cs _ x hb.1 hb.2) ?_
      simp [go_sem, eqL_self, c0, d0, c1, d1]
      repeat refine ⟨by omega, ?_⟩
      refine CSg.mk (digitize_Link_cs _ none n g x f hn7 hb.1 hb.2 (loc_app hσ)) ?_
      simp [go_sem, eqL_self, c0, d0, c1, d1]
      repeat refine ⟨by omega, ?_⟩
      refine hK _ ?_; clear hK K
      refine awp_seq ?_
      refine awp_reg_seq fun K hK => ?_
      simp [go_sem, eqL_self, c0, d0, c1, d1]
      repeat refine ⟨by omega, ?_⟩
      refine hK _ ?_; clear hK K
      refine awp_forget [0, 2, 4, 7, 32] (by simp only [restr, List.contains_cons, List.contains_nil, Nat.reduceBEq, Bool.or_false, Bool.or_true, Bool.true_or, Bool.false_or, if_true, if_false, Bool.false_eq_true]; rfl) ?_
      refine awp_cond rfl (fun c2 => ?_) (fun c2 => ?_)
      · have d2 := c2; try simp at d2
        have hn0 := linkN_err rfl d2
        refine awp_reg_seq fun K hK => ?_
        simp [go_sem, eqL_self, c0, d0, c1, d1, c2, d2, hn0]
        repeat refine ⟨by omega, ?_⟩
        refine hK _ ?_; clear hK K
        refine awp_ret ?_
        simp [go_sem, Tryz.results10, eqL_self, c0, d0, c1, d1, c2, d2, hn0] <;> omega
      · have d2 := c2; try simp at d2
        have hok := linkE_inv (show linkE g n x f = 0 by simpa using d2)
        have hNe := linkN_ok (show linkE g n x f = 0 by simpa using d2)
        have hst := hok.hs
        have hsame := link_same (g := g) (n := n) (x := x) (f := f)
        have hN7 : n + x.nu < 1000000000 := by omega
        have hright := linkF_right hok
        refine awp_skip ?_
        refine awp_seq ?_
        refine awp_reg_seq fun K hK => ?_
        simp [go_sem, eqL_self, c0, d0, c1, d1, c2, d2, hNe, hst, hsame]
        try simp (disch := omega) only [wrapI]
        repeat refine ⟨by omega, ?_⟩
        refine CSm.mk' _ (fun _ => ref44_SameLinks_cs _ none none n n (linkG g n x f) g hn7 hn7) ?_
        simp [go_sem, eqL_self, c0, d0, c1, d1, c2, d2, hNe, hst, hsame]
        try simp (disch := omega) only [wrapI]
        repeat refine ⟨by omega, ?_⟩
        refine hK _ ?_; clear hK K
        refine awp_forget [2, 4, 7, 58] (by simp only [restr, List.contains_cons, List.contains_nil, Nat.reduceBEq, Bool.or_false, Bool.or_true, Bool.true_or, Bool.false_or, if_true, if_false, Bool.false_eq_true]; rfl) ?_
        refine awp_cond rfl (fun c3 => ?_) (fun c3 => ?_)
        · have d3 := c3; try simp at d3
        · have d3 := c3; try simp at d3
          refine awp_skip ?_
          refine awp_seq ?_
          refine awp_reg_seq fun K hK => ?_
          simp [go_sem, eqL_self, c0, d0, c1, d1, c2, d2, hNe, hst, hsame, c3, d3]
          repeat refine ⟨by omega, ?_⟩
          refine hK _ ?_; clear hK K
          refine awp_block ?_
          refine awp_forget [2, 7, 60, 61, 62] (by simp [go_sem, restr]; rfl) ?_
          refine awp_loopU (α := Nat) (fun i => [(62, .d (I i))]) (fun i => σ ++ [.var (x.enc.map .d)]) (fun i => i ≤ x.nu) (fun i => x.nu - i) 0 (by simp [go_sem, eqL_self]) (by simp [go_sem, hst]) (by simp) ?_
          rintro i hi
          refine awp_reg_seq fun K hK => ?_
          simp [go_sem, eqL_self, c0, d0, c1, d1, c2, d2, hNe, hst, hsame, c3, d3]
          repeat refine ⟨by omega, ?_⟩
          refine hK _ ?_; clear hK K
          refine awp_seq ?_
          refine awp_forget [2, 7, 60, 61, 62, 63] (by simp only [restr, List.contains_cons, List.contains_nil, Nat.reduceBEq, Bool.or_false, Bool.or_true, Bool.true_or, Bool.false_or, if_true, if_false, Bool.false_eq_true]; rfl) ?_
          refine awp_cond rfl (fun c4 => ?_) (fun c4 => ?_)
          · have d4 := c4; try simp at d4
            have hi5 : i < x.nu := by omega
            have him := link_img hok hi5
            have g1 := hok.hf
            have g2 := hok.hf2
            have hwr : IntKind.i64.wrap (f + (i : Int)) = f + (i : Int) := wrapI (by omega) (by omega)
            refine awp_skip ?_
            refine awp_seq ?_
            refine awp_block ?_
            refine awp_reg_seq fun K hK => ?_
            simp [go_sem, eqL_self, c0, d0, c1, d1, c2, d2, hNe, hst, hsame, c3, d3, c4, d4, hi5, him, hwr]
            repeat refine ⟨by omega, ?_⟩
            refine hK _ ?_; clear hK K
            refine awp_reg_seq fun K hK => ?_
            simp [go_sem, eqL_self, c0, d0, c1, d1, c2, d2, hNe, hst, hsame, c3, d3, c4, d4, hi5, him, hwr]
            try simp (disch := omega) only [wrapI]
            repeat refine ⟨by omega, ?_⟩
            refine CSk.mk (cloneLnk_cs _ none (n + x.nu) (linkG g n x f) hN7) ?_
            simp [go_sem, eqL_self, c0, d0, c1, d1, c2, d2, hNe, hst, hsame, c3, d3, c4, d4, hi5, him, hwr]
            try simp (disch := omega) only [wrapI]
            repeat refine ⟨by omega, ?_⟩
            refine CSk.mk (digitize_Images_cs _ none (n + x.nu) (linkG g n x f) (x.u i) hN7) ?_
            simp [go_sem, eqL_self, c0, d0, c1, d1, c2, d2, hNe, hst, hsame, c3, d3, c4, d4, hi5, him, hwr]
            try simp (disch := omega) only [wrapI]
            repeat refine ⟨by omega, ?_⟩
            refine CSk.mk ((equalInt_cs _ none none 1 1 (nth [f + (i : Int)]) (nth [f + (i : Int)]) (by decide) (by decide)).sub (by simp [go_sem, sameL, sameE, sameL0, Go.Abs.sameA]; rfl)) ?_
            simp [go_sem, eqL_self, c0, d0, c1, d1, c2, d2, hNe, hst, hsame, c3, d3, c4, d4, hi5, him, hwr]
            try simp (disch := omega) only [wrapI]
            repeat refine ⟨by omega, ?_⟩
            refine hK _ ?_; clear hK K
            refine awp_forget [2, 7, 60, 61, 62, 76] (by simp only [restr, List.contains_cons, List.contains_nil, Nat.reduceBEq, Bool.or_false, Bool.or_true, Bool.true_or, Bool.false_or, if_true, if_false, Bool.false_eq_true]; rfl) ?_
            refine awp_cond rfl (fun c5 => ?_) (fun c5 => ?_)
            · have d5 := c5; try simp at d5
            · have d5 := c5; try simp at d5
              refine awp_skip ?_
              refine awp_reg_end fun K hK => ?_
              simp [go_sem, eqL_self, c0, d0, c1, d1, c2, d2, hNe, hst, hsame, c3, d3, c4, d4, hi5, him, hwr, c5, d5]
              try simp (disch := omega) only [wrapI]
              repeat refine ⟨by omega, ?_⟩
              refine hK _ ?_; clear hK K
              refine ⟨i + 1, back_of' (by simp [go_sem, wrap_succ (i := i) (by omega), eqL_self, c0, d0, c1, d1, c2, d2, hNe, hst, hsame, c3, d3, c4, d4, hi5, him, hwr, c5, d5]) ((leaves_app (by simp [go_sem]))) (by (simp [go_sem, wrap_succ (i := i) (by omega), eqL_self, c0, d0, c1, d1, c2, d2, hNe, hst, hsame, c3, d3, c4, d4, hi5, him, hwr, c5, d5] <;> omega)), by omega, by first | omega | (dsimp only; omega)⟩
          · have d4 := c4; try simp at d4
            obtain rfl : i = x.nu := by omega
            refine awp_exit ?_
            refine awp_seq ?_
            refine awp_reg_seq fun K hK => ?_
            simp [go_sem, eqL_self, c0, d0, c1, d1, c2, d2, hNe, hst, hsame, c3, d3, c4, d4]
            repeat refine ⟨by omega, ?_⟩
            refine hK _ ?_; clear hK K
            refine awp_block ?_
            refine awp_forget [7, 79, 80] (by simp [go_sem, restr]; rfl) ?_
            refine awp_loopU (α := Nat) (fun k => [(80, .d (I k))]) (fun k => σ ++ [.var (x.enc.map .d)]) (fun k => k ≤ n + x.nu) (fun k => n + x.nu - k) 0 (by simp [go_sem, eqL_self]) (by simp [go_sem, hst]) (by simp) ?_
            rintro k hk
            refine awp_reg_seq fun K hK => ?_
            simp [go_sem, eqL_self, c0, d0, c1, d1, c2, d2, hNe, hst, hsame, c3, d3, c4, d4, wrap_pred (i := k) (by omega)]
            repeat refine ⟨by omega, ?_⟩
            refine hK _ ?_; clear hK K
            refine awp_seq ?_
            refine awp_forget [7, 79, 80, 81] (by simp only [restr, List.contains_cons, List.contains_nil, Nat.reduceBEq, Bool.or_false, Bool.or_true, Bool.true_or, Bool.false_or, if_true, if_false, Bool.false_eq_true]; rfl) ?_
            refine awp_cond rfl (fun c6 => ?_) (fun c6 => ?_)
            · have d6 := c6; try simp at d6
              have hi5 : k < n + x.nu := by omega
              refine awp_skip ?_
              refine awp_seq ?_
              refine awp_block ?_
              refine awp_reg_seq fun K hK => ?_
              simp [go_sem, eqL_self, c0, d0, c1, d1, c2, d2, hNe, hst, hsame, c3, d3, c4, d4, wrap_pred (i := k) (by omega), c6, d6, hi5]
              repeat refine ⟨by omega, ?_⟩
              refine hK _ ?_; clear hK K
              refine awp_draw_seq 16 T.mixed (by kernel_rfl) fun K hK => ?_
              simp [go_sem, eqL_self, c0, d0, c1, d1, c2, d2, hNe, hst, hsame, c3, d3, c4, d4, wrap_pred (i := k) (by omega), c6, d6, hi5]
              try simp (disch := omega) only [wrapI]
              repeat refine ⟨by omega, ?_⟩
              refine hK _ ?_; clear hK K
              refine awp_forget [7, 79, 80, 98] (by simp only [restr, List.contains_cons, List.contains_nil, Nat.reduceBEq, Bool.or_false, Bool.or_true, Bool.true_or, Bool.false_or, if_true, if_false, Bool.false_eq_true]; rfl) ?_
              refine awp_cond rfl (fun c7 => ?_) (fun c7 => ?_)
              · have d7 := c7; try simp at d7
                have := (hright k hi5).2.2 d7.1
                omega
              · have d7 := c7; try simp at d7
                refine awp_skip ?_
                refine awp_reg_end fun K hK => ?_
                simp [go_sem, eqL_self, c0, d0, c1, d1, c2, d2, hNe, hst, hsame, c3, d3, c4, d4, wrap_pred (i := k) (by omega), c6, d6, hi5, c7, d7]
                try simp (disch := omega) only [wrapI]
                repeat refine ⟨by omega, ?_⟩
                refine hK _ ?_; clear hK K
                refine ⟨k + 1, back_of' (by simp [go_sem, wrap_succ (i := k) (by omega), eqL_self, c0, d0, c1, d1, c2, d2, hNe, hst, hsame, c3, d3, c4, d4, wrap_pred (i := k) (by omega), c6, d6, hi5, c7, d7]) ((leaves_app (by simp [go_sem]))) (by (simp [go_sem, wrap_succ (i := k) (by omega), eqL_self, c0, d0, c1, d1, c2, d2, hNe, hst, hsame, c3, d3, c4, d4, wrap_pred (i := k) (by omega), c6, d6, hi5, c7, d7] <;> omega)), by omega, by first | omega | (dsimp only; omega)⟩
            · have d6 := c6; try simp at d6
              have hk9 : k = n + x.nu := by omega
              refine awp_exit ?_
              refine awp_reg_seq fun K hK => ?_
              simp [go_sem, eqL_self, c0, d0, c1, d1, c2, d2, hNe, hst, hsame, c3, d3, c4, d4, wrap_pred (i := k) (by omega), c6, d6]
              repeat refine ⟨by omega, ?_⟩
              refine hK _ ?_; clear hK K
              refine awp_ret ?_
              simp [go_sem, Tryz.results10, eqL_self, c0, d0, c1, d1, c2, d2, hNe, hst, hsame, c3, d3, c4, d4, wrap_pred (i := k) (by omega), c6, d6] <;> omega
end Go.Proofs.YtldnolgijfkfpaaGreatDoor
