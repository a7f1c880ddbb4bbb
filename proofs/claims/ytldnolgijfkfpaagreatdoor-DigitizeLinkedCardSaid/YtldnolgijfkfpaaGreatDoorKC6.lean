/- Contracts and lemmas (Cp, Cq, Es, Cs), joined out of smaller texts by a program; no conditions. -/
import Derived.Test.YtldnolgijfkfpaaGreatDoorKC5
import Derived.Test.YtldnolgijfkfpaaGreatDoorKC4
/-! Cp -/
namespace Go.Proofs.YtldnolgijfkfpaaGreatDoor
open Go.Abs
set_option linter.unusedVariables false
set_option linter.unusedSimpArgs false
set_option maxRecDepth 100000
set_option maxHeartbeats 1000000
theorem few_bd {x : Bat} (h : fewB x = true) : x.nu < 1000000000 ∧ x.nb < 1000000000 := by
  simp only [fewB, Bool.and_eq_true, decide_eq_true_eq] at h; omega
theorem drawnP_err {x : Bat} {rd : Int} (h : (drawnP x rd).2 ≠ 0) : (drawnP x rd).1 = [] := by
  unfold drawnP at h ⊢
  split
  · rfl
  · rename_i h1
    rw [if_neg h1] at h
    split
    · rfl
    · rename_i h2; rw [if_neg h2] at h; exact absurd rfl h
theorem drawnP_ok {x : Bat} {rd : Int} (h : (drawnP x rd).2 = 0) : chkB x = 0 ∧ 1 ≤ rd ∧ rd ≤ 1024 ∧ drawnP x rd = (drawL x rd, 0) := by
  unfold drawnP at h ⊢
  by_cases h1 : chkB x = 0
  · rw [if_neg (by simp [h1])] at h ⊢
    cases h2 : inB rd 1 1024 with
    | false => rw [h2, if_pos rfl] at h; cases h
    | true =>
      rw [if_neg (by decide)]
      simp only [inB, Bool.and_eq_true, decide_eq_true_eq] at h2
      exact ⟨h1, h2.1, h2.2, rfl⟩
  · rw [if_pos h1] at h; cases h
theorem chk_asc {x : Bat} (h : chkB x = 0) : ascB x.u x.nu = true := (chk_iff.1 h).2.1
theorem ref44_Copy_cs (σ : List Blk) (x : Bat) (hn : x.nu < 1000000000) (hm : x.nb < 1000000000) : CSF Tryz.prog 17 [.agg (x.enc.map .d)] σ (.agg (x.enc.map .d)) := by
  refine CSF.of_body T.en17 Tryz.func17 rfl (by simp [Tryz.ntmps17]) (by simp [go_sem]) fun hwf => ?_
  refine awp_reg_seq fun K hK => ?_
  simp [go_sem, Tryz.ntmps17]
  repeat refine ⟨by omega, ?_⟩
  refine hK _ ?_; clear hK K
  apply awp_late_seq 10 9 T.mixed (by kernel_rfl)
  · intro K hK
    simp [go_sem, hwf.one, hwf.zero]
    repeat refine ⟨by omega, ?_⟩
    exact hK _ _
  · simp [go_sem, hwf.one, hwf.zero]; rfl
  · intro K hK
    simp [go_sem, hwf.one, hwf.zero]
    repeat refine ⟨by omega, ?_⟩
    exact hK _ _
  intro K hK
  simp [go_sem, hwf.one, hwf.zero]
  repeat refine ⟨by omega, ?_⟩
  refine hK _ ?_; clear hK K
  refine awp_reg_seq fun K hK => ?_
  simp [go_sem]
  repeat refine ⟨by omega, ?_⟩
  refine hK _ ?_; clear hK K
  refine awp_ret ?_
  simp [go_sem, Tryz.results17] <;> omega
theorem law44_DigitizeDraws_cs (σ : List Blk) (x : Bat) (rd : Int) (hn : x.nu ≤ 9223372036854775807) (hm : x.nb ≤ 9223372036854775807) (hσ : σ[0]? = some (.tab 0 powV)) : CSF Tryz.prog 5 [.agg (x.enc.map .d), .d (I rd)] σ (.d (B true)) := by
  refine CSF.of_body T.en5 Tryz.func5 rfl (by simp [Tryz.ntmps5]) (by simp [go_sem]) fun hwf => ?_
  refine awp_reg_seq fun K hK => ?_
  simp [go_sem, Tryz.ntmps5]
  repeat refine ⟨by omega, ?_⟩
  refine hK _ ?_; clear hK K
  refine awp_seq ?_
  refine awp_reg_seq fun K hK => ?_
  simp [go_sem]
  repeat refine ⟨by omega, ?_⟩
  refine CSk.mk (law44_awake_cs _ (loc_app hσ)) ?_
  simp [go_sem]
  repeat refine ⟨by omega, ?_⟩
  refine hK _ ?_; clear hK K
  refine awp_forget [1, 2, 10] (by simp only [restr, List.contains_cons, List.contains_nil, Nat.reduceBEq, Bool.or_false, Bool.or_true, Bool.true_or, Bool.false_or, if_true, if_false, Bool.false_eq_true]; rfl) ?_
  refine awp_cond rfl (fun c0 => ?_) (fun c0 => ?_)
  · have d0 := c0; try simp at d0
  · have d0 := c0; try simp at d0
    refine awp_skip ?_
    refine awp_seq ?_
    refine awp_reg_seq fun K hK => ?_
    simp [go_sem, c0, d0]
    repeat refine ⟨by omega, ?_⟩
    refine CSk.mk (ref44_Few_cs _ x hn hm) ?_
    simp [go_sem, c0, d0]
    repeat refine ⟨by omega, ?_⟩
    refine hK _ ?_; clear hK K
    refine awp_forget [1, 2, 13] (by simp only [restr, List.contains_cons, List.contains_nil, Nat.reduceBEq, Bool.or_false, Bool.or_true, Bool.true_or, Bool.false_or, if_true, if_false, Bool.false_eq_true]; rfl) ?_
    refine awp_cond rfl (fun c1 => ?_) (fun c1 => ?_)
    · have d1 := c1; try simp at d1
      refine awp_reg_seq fun K hK => ?_
      simp [go_sem, c0, d0, c1, d1]
      repeat refine ⟨by omega, ?_⟩
      refine hK _ ?_; clear hK K
      refine awp_ret ?_
      simp [go_sem, Tryz.results5, c0, d0, c1, d1] <;> omega
    · have d1 := c1; try simp at d1
      have hfew : fewB x = true := by simpa using d1
      have hb := few_bd hfew
      refine awp_skip ?_
      refine awp_reg_seq fun K hK => ?_
      simp [go_sem, c0, d0, c1, d1]
      repeat refine ⟨by omega, ?_⟩
      refine CSk.mk (ref44_Copy_cs _ x hb.1 hb.2) ?_
      simp [go_sem, c0, d0, c1, d1]
      repeat refine ⟨by omega, ?_⟩
      refine CSk.mk (digitize_Drawn_cs _ x rd hb.1 hb.2 (loc_app hσ)) ?_
      simp [go_sem, c0, d0, c1, d1]
      repeat refine ⟨by omega, ?_⟩
      refine hK _ ?_; clear hK K
      refine awp_seq ?_
      refine awp_reg_seq fun K hK => ?_
      simp [go_sem, c0, d0, c1, d1]
      repeat refine ⟨by omega, ?_⟩
      refine hK _ ?_; clear hK K
      refine awp_forget [2, 5, 22] (by simp only [restr, List.contains_cons, List.contains_nil, Nat.reduceBEq, Bool.or_false, Bool.or_true, Bool.true_or, Bool.false_or, if_true, if_false, Bool.false_eq_true]; rfl) ?_
      refine awp_cond rfl (fun c2 => ?_) (fun c2 => ?_)
      · have d2 := c2; try simp at d2
        have hz := drawnP_err d2
        refine awp_reg_seq fun K hK => ?_
        simp [go_sem, c0, d0, c1, d1, c2, d2, hz]
        repeat refine ⟨by omega, ?_⟩
        refine hK _ ?_; clear hK K
        refine awp_ret ?_
        simp [go_sem, Tryz.results5, c0, d0, c1, d1, c2, d2, hz] <;> omega
      · have d2 := c2; try simp at d2
        have hok := drawnP_ok (by simpa using d2)
        have hz : drawnP x rd = (drawL x rd, 0) := hok.2.2.2
        have hx := chk_rng hok.1
        have hasc := ascB_nth.2 (drawL_asc hx (chk_asc hok.1) rd)
        have hle := drawL_le x rd
        have hn6 := hx.n2
        have hlen : ((drawL x rd).length : Int) = x.Sample := by
          rw [drawL_len]; have := hx.s1; have := hx.s2; omega
        refine awp_skip ?_
        refine awp_seq ?_
        refine awp_reg_seq fun K hK => ?_
        simp [go_sem, c0, d0, c1, d1, c2, d2, hz]
        repeat refine ⟨by omega, ?_⟩
        refine hK _ ?_; clear hK K
        refine awp_block ?_
        refine awp_forget [2, 5, 26, 27, 28] (by simp [go_sem, restr]; rfl) ?_
        refine awp_loopU (α := Nat) (fun i => [(28, .d (I i))]) (fun i => σ ++ [.var (x.enc.map .d)]) (fun i => i ≤ (drawL x rd).length) (fun i => (drawL x rd).length - i) 0 (by simp [go_sem]) (rfl) (by simp) ?_
        rintro i hi
        refine awp_reg_seq fun K hK => ?_
        simp [go_sem, c0, d0, c1, d1, c2, d2, hz]
        repeat refine ⟨by omega, ?_⟩
        refine hK _ ?_; clear hK K
        refine awp_seq ?_
        refine awp_forget [2, 5, 26, 27, 28, 29] (by simp only [restr, List.contains_cons, List.contains_nil, Nat.reduceBEq, Bool.or_false, Bool.or_true, Bool.true_or, Bool.false_or, if_true, if_false, Bool.false_eq_true]; rfl) ?_
        refine awp_cond rfl (fun c3 => ?_) (fun c3 => ?_)
        · have d3 := c3; try simp at d3
          have hi5 : i < (drawL x rd).length := by omega
          have hmem : memI x.nu x.u (nth (drawL x rd) i) = true := by
            obtain ⟨q, h1, h2⟩ := drawL_mem hx (nth_mem hi5)
            exact (memI_iff _ _ _).2 ⟨q, h1, h2⟩
          have hlt : 0 < i → nth (drawL x rd) (i - 1) < nth (drawL x rd) i := fun h => (ascB_iff _ _).1 hasc i h hi5
          refine awp_skip ?_
          refine awp_seq ?_
          refine awp_block ?_
          refine awp_reg_seq fun K hK => ?_
          simp [go_sem, c0, d0, c1, d1, c2, d2, hz, c3, d3, hi5, hmem]
          repeat refine ⟨by omega, ?_⟩
          refine hK _ ?_; clear hK K
          refine awp_reg_seq fun K hK => ?_
          simp [go_sem, c0, d0, c1, d1, c2, d2, hz, c3, d3, hi5, hmem]
          try simp (disch := omega) only [wrapI]
          repeat refine ⟨by omega, ?_⟩
          refine CSm.mk (containsOf_cs _ none x.nu x.u (nth (drawL x rd) i) hb.1) ?_
          simp [go_sem, c0, d0, c1, d1, c2, d2, hz, c3, d3, hi5, hmem]
          try simp (disch := omega) only [wrapI]
          repeat refine ⟨by omega, ?_⟩
          refine hK _ ?_; clear hK K
          refine awp_forget [2, 5, 26, 27, 28, 50] (by simp only [restr, List.contains_cons, List.contains_nil, Nat.reduceBEq, Bool.or_false, Bool.or_true, Bool.true_or, Bool.false_or, if_true, if_false, Bool.false_eq_true]; rfl) ?_
          refine awp_cond rfl (fun c4 => ?_) (fun c4 => ?_)
          · have d4 := c4; try simp at d4
            exfalso
            omega
          · have d4 := c4; try simp at d4
            refine awp_skip ?_
            refine awp_reg_end fun K hK => ?_
            simp [go_sem, c0, d0, c1, d1, c2, d2, hz, c3, d3, hi5, hmem, c4, d4]
            try simp (disch := omega) only [wrapI]
            repeat refine ⟨by omega, ?_⟩
            refine hK _ ?_; clear hK K
            refine ⟨i + 1, back_of' (by simp [go_sem, wrap_succ (i := i) (by omega), c0, d0, c1, d1, c2, d2, hz, c3, d3, hi5, hmem, c4, d4]) ((leaves_app (by simp [go_sem]))) (by (simp [go_sem, wrap_succ (i := i) (by omega), c0, d0, c1, d1, c2, d2, hz, c3, d3, hi5, hmem, c4, d4] <;> omega)), by omega, by first | omega | (dsimp only; omega)⟩
        · have d3 := c3; try simp at d3
          obtain rfl : i = (drawL x rd).length := by omega
          refine awp_exit ?_
          refine awp_reg_seq fun K hK => ?_
          simp [go_sem, c0, d0, c1, d1, c2, d2, hz, c3, d3, hlen]
          repeat refine ⟨by omega, ?_⟩
          refine hK _ ?_; clear hK K
          refine awp_ret ?_
          simp [go_sem, Tryz.results5, c0, d0, c1, d1, c2, d2, hz, c3, d3, hlen] <;> omega
end Go.Proofs.YtldnolgijfkfpaaGreatDoor

/-! Cq -/
namespace Go.Proofs.YtldnolgijfkfpaaGreatDoor
open Go.Abs
set_option linter.unusedVariables false
set_option linter.unusedSimpArgs false
set_option maxRecDepth 100000
set_option maxHeartbeats 1000000
def pickL {α : Type} (p : Nat → Bool) (f : Nat → α) : Nat → List α
  | 0 => []
  | i + 1 => if p i = true then pickL p f i ++ [f i] else pickL p f i
theorem pickL_len {α : Type} (p : Nat → Bool) (f : Nat → α) : ∀ i, (pickL p f i).length ≤ i
  | 0 => Nat.le_refl _
  | i + 1 => by
    have := pickL_len p f i
    rw [pickL]; split
    · simp; omega
    · omega
theorem mem_pickL {α : Type} {p : Nat → Bool} {f : Nat → α} {x : α} : ∀ {n : Nat}, x ∈ pickL p f n ↔ ∃ q, q < n ∧ p q = true ∧ f q = x
  | 0 => by simp [pickL]
  | n + 1 => by
    rw [pickL]
    constructor
    · intro h
      split at h
      · rename_i hp
        rcases List.mem_append.1 h with h | h
        · obtain ⟨q, h1, h2⟩ := mem_pickL.1 h; exact ⟨q, by omega, h2⟩
        · exact ⟨n, by omega, hp, by simpa using (List.mem_singleton.1 h).symm⟩
      · obtain ⟨q, h1, h2⟩ := mem_pickL.1 h; exact ⟨q, by omega, h2⟩
    · rintro ⟨q, h1, h2, h3⟩
      rcases Nat.lt_or_eq_of_le (Nat.le_of_lt_succ h1) with h4 | h4
      · split
        · exact List.mem_append.2 (.inl (mem_pickL.2 ⟨q, h4, h2, h3⟩))
        · exact mem_pickL.2 ⟨q, h4, h2, h3⟩
      · subst h4
        rw [if_pos h2]; exact List.mem_append.2 (.inr (by simp [h3]))
theorem pickL_asc {p : Nat → Bool} {f : Nat → Int} {n : Nat} (h : ascB f n = true) : ∀ {i : Nat}, i ≤ n → (pickL p f i).Pairwise (· < ·)
  | 0, _ => .nil
  | i + 1, hi => by
    have ih := pickL_asc (p := p) h (i := i) (by omega)
    rw [pickL]; split
    · refine List.pairwise_append.2 ⟨ih, List.pairwise_singleton _ _, ?_⟩
      intro a ha b hb
      obtain ⟨q, h1, h2, rfl⟩ := mem_pickL.1 ha
      rw [List.mem_singleton] at hb
      subst hb
      exact ascB_lt h h1 (by omega)
    · exact ih
abbrev Byt : Type := Nat × (Nat → Int)
def encB (r : Byt) : List D := [.sl none 1 r.1 (u8D r.2)]
attribute [go_sem] encB
def isBad (x : Byt) (i : Nat) : Bool := decide (i < x.1) && decide ((x.2 i).tmod 3 = 0)
noncomputable def badL (y : Bat) (x : Byt) : List Int := pickL (isBad x) (nth (drawL (scanB y) (y.Round + 1))) (drawL (scanB y) (y.Round + 1)).length
noncomputable def doneB (y : Bat) (x : Byt) : Bat := inspB (scanB y) (badL y x).length (nth (badL y x))
theorem scanP_go {y : Bat} (h : chkB y = 0) (hs : ¬ ((scanP y).2 = 11 ∨ (scanP y).2 = 15)) : scanP y = (scanB y, 0) ∧ y.Round < 1024 := by
  have hx := chk_rng h
  unfold scanP at hs ⊢
  rw [if_neg (by simp [h])] at hs ⊢
  split
  · rename_i h1; rw [if_pos h1] at hs; exact absurd (.inl rfl) hs
  · rename_i h1
    rw [if_neg h1] at hs
    split
    · rename_i h2; rw [if_pos h2] at hs; exact absurd (.inr rfl) hs
    · rename_i h2; exact ⟨rfl, by have := hx.r2; omega⟩
theorem badL_asc {y : Bat} {x : Byt} (h : chkB y = 0) (hr : y.Round < 1024) : ascB (nth (badL y x)) (badL y x).length = true := by
  have hx := rng_scan (chk_rng h) hr
  exact ascB_nth.2 (pickL_asc (ascB_nth.2 (drawL_asc hx (show ascB y.u y.nu = true from chk_asc h) _)) (Nat.le_refl _))
theorem badL_sub (y : Bat) (x : Byt) : subB (drawL (scanB y) (scanB y).Round).length (nth (drawL (scanB y) (scanB y).Round)) (badL y x).length (nth (badL y x)) = true := by
  refine subB_of fun i hi => ?_
  obtain ⟨q, h1, h2, h3⟩ := mem_pickL.1 (show nth (badL y x) i ∈ badL y x from nth_mem hi)
  rw [← h3]; exact nth_mem h1
theorem done_insp {y : Bat} {x : Byt} (h : chkB y = 0) (hr : y.Round < 1024) : inspP (scanB y) (badL y x).length (nth (badL y x)) = (doneB y x, 0) :=
  inspP_yes (chk_scan h hr) rfl (badL_asc h hr) (badL_sub y x)
theorem done_chk {y : Bat} {x : Byt} (h : chkB y = 0) (hr : y.Round < 1024) : chkB (doneB y x) = 0 := chk_insp (chk_scan h hr) rfl (badL_asc h hr) (badL_sub y x)
theorem done_state (y : Bat) (x : Byt) : ((doneB y x).State == 3) = decide (((badL y x).length : Int) ≤ y.Accept) := by
  show ((if y.Accept < ((badL y x).length : Int) then (4 : Int) else 3) == 3) = _
  split
  · rename_i h; rw [decide_eq_false (by omega)]; rfl
  · rename_i h; rw [decide_eq_true (by omega)]; rfl
theorem done_nu (y : Bat) (x : Byt) : (doneB y x).nu = y.nu := rfl
theorem done_u (y : Bat) (x : Byt) : (doneB y x).u = y.u := rfl
theorem scan_round (y : Bat) : (scanB y).Round = y.Round + 1 := rfl
theorem law44_DigitizeDecides_cs (σ : List Blk) (x : Bat) (n : Nat) (R : Nat → Byt) (hn : x.nu ≤ 9223372036854775807) (hm : x.nb ≤ 9223372036854775807) (hσ : σ[0]? = some (.tab 0 powV)) : CSF Tryz.prog 8 [.agg (x.enc.map .d), .d (SL none 1 encB n R)] σ (.d (B true)) := by
  refine CSF.of_body T.en8 Tryz.func8 rfl (by simp [Tryz.ntmps8]) (by simp [go_sem]) fun hwf => ?_
  refine awp_reg_seq fun K hK => ?_
  simp [go_sem, Tryz.ntmps8]
  repeat refine ⟨by omega, ?_⟩
  refine hK _ ?_; clear hK K
  refine awp_seq ?_
  refine awp_reg_seq fun K hK => ?_
  simp [go_sem]
  repeat refine ⟨by omega, ?_⟩
  refine CSk.mk (law44_awake_cs _ (loc_app hσ)) ?_
  simp [go_sem]
  repeat refine ⟨by omega, ?_⟩
  refine hK _ ?_; clear hK K
  refine awp_forget [1, 2, 17] (by simp only [restr, List.contains_cons, List.contains_nil, Nat.reduceBEq, Bool.or_false, Bool.or_true, Bool.true_or, Bool.false_or, if_true, if_false, Bool.false_eq_true]; rfl) ?_
  refine awp_cond rfl (fun c0 => ?_) (fun c0 => ?_)
  · have d0 := c0; try simp at d0
  · have d0 := c0; try simp at d0
    refine awp_skip ?_
    refine awp_seq ?_
    refine awp_reg_seq fun K hK => ?_
    simp [go_sem, c0, d0]
    repeat refine ⟨by omega, ?_⟩
    refine CSk.mk (ref44_Few_cs _ x hn hm) ?_
    simp [go_sem, c0, d0]
    repeat refine ⟨by omega, ?_⟩
    refine CSm.mk' _ (fun hg => ref44_Copy_cs _ x (by have h9 := hg; simp at h9; first | exact (few_bd h9.1).1 | exact (few_bd h9).1) (by have h9 := hg; simp at h9; first | exact (few_bd h9.1).2 | exact (few_bd h9).2)) ?_
    simp [go_sem, c0, d0]
    repeat refine ⟨by omega, ?_⟩
    refine CSm.mk' _ (fun hg => digitize_Check_cs _ x (by have h9 := hg; simp at h9; first | exact (few_bd h9.1).1 | exact (few_bd h9).1) (by have h9 := hg; simp at h9; first | exact (few_bd h9.1).2 | exact (few_bd h9).2) (loc_app hσ)) ?_
    simp [go_sem, c0, d0]
    repeat refine ⟨by omega, ?_⟩
    refine hK _ ?_; clear hK K
    refine awp_forget [1, 2, 31] (by simp only [restr, List.contains_cons, List.contains_nil, Nat.reduceBEq, Bool.or_false, Bool.or_true, Bool.true_or, Bool.false_or, if_true, if_false, Bool.false_eq_true]; rfl) ?_
    refine awp_cond rfl (fun c1 => ?_) (fun c1 => ?_)
    · have d1 := c1; try simp at d1
      refine awp_reg_seq fun K hK => ?_
      simp [go_sem, c0, d0, c1, d1]
      repeat refine ⟨by omega, ?_⟩
      refine hK _ ?_; clear hK K
      refine awp_ret ?_
      simp [go_sem, Tryz.results8, c0, d0, c1, d1] <;> omega
    · have d1 := c1; try simp at d1
      have hfew : fewB x = true := d1.1.1
      have hn10 : n ≤ 10 := by omega
      have hch0 : chkB x = 0 := by omega
      refine awp_skip ?_
      refine awp_seq ?_
      refine awp_reg_seq fun K hK => ?_
      simp [go_sem, c0, d0, c1, d1]
      repeat refine ⟨by omega, ?_⟩
      refine hK _ ?_; clear hK K
      refine awp_block ?_
      refine awp_forget [2, 32, 33, 34] (by simp [go_sem, restr]; rfl) ?_
      refine awp_mv [σ.length + 2] (by simp) ?_
      refine awp_loopU (α := Nat × Bat) (fun z => [(34, .d (I z.1))]) (fun z => σ ++ [.var (z.2.enc.map .d)]) (fun z => z.1 ≤ n ∧ chkB z.2 = 0 ∧ z.2.nb < 1000000000) (fun z => n - z.1) (0, x) (by simp [go_sem]) (rfl) (⟨Nat.zero_le _, hch0, (few_bd hfew).2⟩) ?_
      rintro ⟨i, y⟩ ⟨hi, hch, hnb⟩
      replace hi : i ≤ n := hi; replace hch : chkB y = 0 := hch; replace hnb : y.nb < 1000000000 := hnb
      refine awp_reg_seq fun K hK => ?_
      simp [go_sem, c0, d0, c1, d1]
      repeat refine ⟨by omega, ?_⟩
      refine hK _ ?_; clear hK K
      refine awp_seq ?_
      refine awp_forget [2, 32, 33, 34, 35] (by simp only [restr, List.contains_cons, List.contains_nil, Nat.reduceBEq, Bool.or_false, Bool.or_true, Bool.true_or, Bool.false_or, if_true, if_false, Bool.false_eq_true]; rfl) ?_
      refine awp_cond rfl (fun c2 => ?_) (fun c2 => ?_)
      · have d2 := c2; try simp at d2
        have hi5 : i < n := by omega
        have hx := chk_rng hch
        have hny : y.nu < 1000000000 := by have := hx.n2; omega
        refine awp_skip ?_
        refine awp_seq ?_
        refine awp_block ?_
        refine awp_reg_seq fun K hK => ?_
        simp [go_sem, c0, d0, c1, d1, c2, d2, hi5]
        repeat refine ⟨by omega, ?_⟩
        refine hK _ ?_; clear hK K
        refine awp_reg_seq fun K hK => ?_
        simp [go_sem, c0, d0, c1, d1, c2, d2, hi5]
        repeat refine ⟨by omega, ?_⟩
        refine CSk.mk (ref44_Copy_cs _ y hny hnb) ?_
        simp [go_sem, c0, d0, c1, d1, c2, d2, hi5]
        repeat refine ⟨by omega, ?_⟩
        refine CSk.mk (digitize_Scan_cs _ y hny hnb (loc_app hσ)) ?_
        simp [go_sem, c0, d0, c1, d1, c2, d2, hi5]
        repeat refine ⟨by omega, ?_⟩
        refine hK _ ?_; clear hK K
        refine awp_seq ?_
        refine awp_reg_seq fun K hK => ?_
        simp [go_sem, c0, d0, c1, d1, c2, d2, hi5]
        repeat refine ⟨by omega, ?_⟩
        refine hK _ ?_; clear hK K
        refine awp_forget [2, 6, 7, 8, 32, 33, 34, 49] (by simp only [restr, List.contains_cons, List.contains_nil, Nat.reduceBEq, Bool.or_false, Bool.or_true, Bool.true_or, Bool.false_or, if_true, if_false, Bool.false_eq_true]; rfl) ?_
        refine awp_cond rfl (fun c3 => ?_) (fun c3 => ?_)
        · have d3 := c3; try simp at d3
          refine awp_exit ?_
          refine awp_reg_end fun K hK => ?_
          simp [go_sem, c0, d0, c1, d1, c2, d2, hi5, c3, d3]
          try simp (disch := omega) only [wrapI]
          repeat refine ⟨by omega, ?_⟩
          refine hK _ ?_; clear hK K
          refine ⟨(i + 1, y), back_of' (by simp [go_sem, wrap_succ (i := i) (by omega), c0, d0, c1, d1, c2, d2, hi5, c3, d3]) ((leaves_app (by simp [go_sem]))) (by (simp [go_sem, wrap_succ (i := i) (by omega), c0, d0, c1, d1, c2, d2, hi5, c3, d3] <;> omega)), ⟨by omega, hch, hnb⟩, by first | omega | (dsimp only; omega)⟩
        · have d3 := c3; try simp at d3
          obtain ⟨hz, hr⟩ := scanP_go hch (by simpa using d3)
          have hch2 := chk_scan hch hr
          have hr0 := hx.r1
          have hd : drawnP (scanB y) (y.Round + 1) = (drawL (scanB y) (y.Round + 1), 0) := drawnP_yes hch2 (by omega) (by omega)
          have hwr : IntKind.i64.wrap (y.Round + 1) = y.Round + 1 := wrapI (by omega) (by omega)
          have hrd := scan_round y
          have hdl : (drawL (scanB y) (y.Round + 1)).length ≤ y.nu := drawL_le (scanB y) (y.Round + 1)
          have hbl2 : (badL y (R i)).length ≤ (drawL (scanB y) (y.Round + 1)).length := pickL_len _ _ _
          have hn6 := hx.n2
          refine awp_skip ?_
          refine awp_draw_seq 9 T.mixed (by kernel_rfl) fun K hK => ?_
          simp [go_sem, c0, d0, c1, d1, c2, d2, hi5, c3, d3, hz, hch2, hd, hwr, hrd]
          repeat refine ⟨by omega, ?_⟩
          refine CSg.mk (ref44_Copy_cs _ (scanB y) hny (show (0 : Nat) < 1000000000 by decide)) ?_
          simp [go_sem, c0, d0, c1, d1, c2, d2, hi5, c3, d3, hz, hch2, hd, hwr, hrd]
          repeat refine ⟨by omega, ?_⟩
          refine CSg.mk (digitize_Drawn_cs _ (scanB y) (y.Round + 1) hny (show (0 : Nat) < 1000000000 by decide) (loc_app hσ)) ?_
          simp [go_sem, c0, d0, c1, d1, c2, d2, hi5, c3, d3, hz, hch2, hd, hwr, hrd]
          repeat refine ⟨by omega, ?_⟩
          refine hK _ ?_; clear hK K
          refine awp_seq ?_
          refine awp_reg_seq fun K hK => ?_
          simp [go_sem, c0, d0, c1, d1, c2, d2, hi5, c3, d3, hz, hch2, hd, hwr, hrd]
          try simp (disch := omega) only [wrapI]
          repeat refine ⟨by omega, ?_⟩
          refine CSm.mk' _ (fun _ => ref44_Copy_cs _ (scanB y) hny (show (0 : Nat) < 1000000000 by decide)) ?_
          simp [go_sem, c0, d0, c1, d1, c2, d2, hi5, c3, d3, hz, hch2, hd, hwr, hrd]
          try simp (disch := omega) only [wrapI]
          repeat refine ⟨by omega, ?_⟩
          refine CSm.mk' _ (fun _ => digitize_Check_cs _ (scanB y) hny (show (0 : Nat) < 1000000000 by decide) (loc_app hσ)) ?_
          simp [go_sem, c0, d0, c1, d1, c2, d2, hi5, c3, d3, hz, hch2, hd, hwr, hrd]
          try simp (disch := omega) only [wrapI]
          repeat refine ⟨by omega, ?_⟩
          refine hK _ ?_; clear hK K
          refine awp_forget [2, 6, 7, 9, 32, 33, 34, 77] (by simp only [restr, List.contains_cons, List.contains_nil, Nat.reduceBEq, Bool.or_false, Bool.or_true, Bool.true_or, Bool.false_or, if_true, if_false, Bool.false_eq_true]; rfl) ?_
          refine awp_cond rfl (fun c4 => ?_) (fun c4 => ?_)
          · have d4 := c4; try simp at d4
          · have d4 := c4; try simp at d4
            refine awp_skip ?_
            refine awp_reg_seq fun K hK => ?_
            simp [go_sem, c0, d0, c1, d1, c2, d2, hi5, c3, d3, hz, hch2, hd, hwr, hrd, c4, d4]
            repeat refine ⟨by omega, ?_⟩
            refine hK _ ?_; clear hK K
            refine awp_seq ?_
            refine awp_thawT 11 1 (fun q => encI (nth ([] : List Int) q)) (by simp [go_sem]) (by simp [go_sem]; rfl) ?_
            refine awp_reg_seq fun K hK => ?_
            simp [go_sem, c0, d0, c1, d1, c2, d2, hi5, c3, d3, hz, hch2, hd, hwr, hrd, c4, d4]
            repeat refine ⟨by omega, ?_⟩
            refine hK _ ?_; clear hK K
            refine awp_block ?_
            refine awp_forget [2, 6, 7, 11, 32, 33, 34, 78, 79, 80] (by simp [go_sem, restr]; rfl) ?_
            refine awp_loopU (α := Nat) (fun k => [(80, .d (I k)), (11, .ms (σ.length + 2) 1 0 (pickL (isBad (R i)) (nth (drawL (scanB y) (y.Round + 1))) k).length)]) (fun k => σ ++ [.var (y.enc.map .d), .var ((scanB y).enc.map .d), .arr 1 (pickL (isBad (R i)) (nth (drawL (scanB y) (y.Round + 1))) k).length (fun q => encI (nth (pickL (isBad (R i)) (nth (drawL (scanB y) (y.Round + 1))) k) q))]) (fun k => k ≤ (drawL (scanB y) (y.Round + 1)).length) (fun k => (drawL (scanB y) (y.Round + 1)).length - k) 0 (by simp [go_sem, pickL]) (rfl) (by simp) ?_
            rintro k hk
            refine awp_reg_seq fun K hK => ?_
            simp [go_sem, c0, d0, c1, d1, c2, d2, hi5, c3, d3, hz, hch2, hd, hwr, hrd, c4, d4]
            repeat refine ⟨by omega, ?_⟩
            refine hK _ ?_; clear hK K
            refine awp_seq ?_
            refine awp_forget [2, 6, 7, 11, 32, 33, 34, 78, 79, 80, 81] (by simp only [restr, List.contains_cons, List.contains_nil, Nat.reduceBEq, Bool.or_false, Bool.or_true, Bool.true_or, Bool.false_or, if_true, if_false, Bool.false_eq_true]; rfl) ?_
            refine awp_cond rfl (fun c5 => ?_) (fun c5 => ?_)
            · have d5 := c5; try simp at d5
              have hk5 : k < (drawL (scanB y) (y.Round + 1)).length := by omega
              have hpl := pickL_len (isBad (R i)) (nth (drawL (scanB y) (y.Round + 1))) k
              have hur : u8D (R i).2 k = [.v (.int .u8 ((R i).2 k))] := rfl
              refine awp_skip ?_
              refine awp_seq ?_
              refine awp_block ?_
              refine awp_reg_seq fun K hK => ?_
              simp [go_sem, c0, d0, c1, d1, c2, d2, hi5, c3, d3, hz, hch2, hd, hwr, hrd, c4, d4, c5, d5, hk5, hur]
              repeat refine ⟨by omega, ?_⟩
              refine hK _ ?_; clear hK K
              refine awp_reg_seq fun K hK => ?_
              simp [go_sem, c0, d0, c1, d1, c2, d2, hi5, c3, d3, hz, hch2, hd, hwr, hrd, c4, d4, c5, d5, hk5, hur]
              try simp (disch := omega) only [tmodI]
              repeat refine ⟨by omega, ?_⟩
              refine hK _ ?_; clear hK K
              refine awp_forget [2, 6, 7, 11, 13, 32, 33, 34, 78, 79, 80, 96] (by simp only [restr, List.contains_cons, List.contains_nil, Nat.reduceBEq, Bool.or_false, Bool.or_true, Bool.true_or, Bool.false_or, if_true, if_false, Bool.false_eq_true]; rfl) ?_
              refine awp_cond rfl (fun c6 => ?_) (fun c6 => ?_)
              · have d6 := c6; try simp at d6
                have hb6 : isBad (R i) k = true := by unfold isBad; simp; exact d6
                have ha : pickL (isBad (R i)) (nth (drawL (scanB y) (y.Round + 1))) (k + 1) = pickL (isBad (R i)) (nth (drawL (scanB y) (y.Round + 1))) k ++ [nth (drawL (scanB y) (y.Round + 1)) k] := by rw [pickL, if_pos hb6]
                refine awp_reg_end fun K hK => ?_
                simp [go_sem, c0, d0, c1, d1, c2, d2, hi5, c3, d3, hz, hch2, hd, hwr, hrd, c4, d4, c5, d5, hk5, hur, c6, d6, ha, hwf.one, hwf.zero]
                repeat refine ⟨by omega, ?_⟩
                refine hK _ ?_; clear hK K
                refine awp_rows (σ.length + 2) (fun q => encI (nth (pickL (isBad (R i)) (nth (drawL (scanB y) (y.Round + 1))) k ++ [nth (drawL (scanB y) (y.Round + 1)) k]) q)) (by simp [go_sem]; first | exact ⟨rfl, rfl, rfl⟩ | exact ⟨rfl, rfl⟩ | rfl) (by exact fun q hq => cat_nth (enc := encI) (x := nth (drawL (scanB y) (y.Round + 1)) k) rfl hq) (by simp [go_sem]; rfl) ?_
                refine awp_reg_end fun K hK => ?_
                simp [go_sem, c0, d0, c1, d1, c2, d2, hi5, c3, d3, hz, hch2, hd, hwr, hrd, c4, d4, c5, d5, hk5, hur, c6, d6, ha]
                try simp (disch := omega) only [wrapI]
                repeat refine ⟨by omega, ?_⟩
                refine hK _ ?_; clear hK K
                refine ⟨k + 1, back_of' (by simp [go_sem, wrap_succ (i := k) (by omega), c0, d0, c1, d1, c2, d2, hi5, c3, d3, hz, hch2, hd, hwr, hrd, c4, d4, c5, d5, hk5, hur, c6, d6, ha]) ((leaves_app (by simp [go_sem]))) (by (simp [go_sem, wrap_succ (i := k) (by omega), c0, d0, c1, d1, c2, d2, hi5, c3, d3, hz, hch2, hd, hwr, hrd, c4, d4, c5, d5, hk5, hur, c6, d6, ha] <;> omega)), by omega, by first | omega | (dsimp only; omega)⟩
              · have d6 := c6; try simp at d6
                have hb6 : isBad (R i) k = false := by unfold isBad; simp; exact d6
                have ha : pickL (isBad (R i)) (nth (drawL (scanB y) (y.Round + 1))) (k + 1) = pickL (isBad (R i)) (nth (drawL (scanB y) (y.Round + 1))) k := by rw [pickL, if_neg (by simp [hb6])]
                refine awp_skip ?_
                refine awp_reg_end fun K hK => ?_
                simp [go_sem, c0, d0, c1, d1, c2, d2, hi5, c3, d3, hz, hch2, hd, hwr, hrd, c4, d4, c5, d5, hk5, hur, c6, d6, ha]
                try simp (disch := omega) only [wrapI]
                repeat refine ⟨by omega, ?_⟩
                refine hK _ ?_; clear hK K
                refine ⟨k + 1, back_of' (by simp [go_sem, wrap_succ (i := k) (by omega), c0, d0, c1, d1, c2, d2, hi5, c3, d3, hz, hch2, hd, hwr, hrd, c4, d4, c5, d5, hk5, hur, c6, d6, ha]) ((leaves_app (by simp [go_sem]))) (by (simp [go_sem, wrap_succ (i := k) (by omega), c0, d0, c1, d1, c2, d2, hi5, c3, d3, hz, hch2, hd, hwr, hrd, c4, d4, c5, d5, hk5, hur, c6, d6, ha] <;> omega)), by omega, by first | omega | (dsimp only; omega)⟩
            · have d5 := c5; try simp at d5
              obtain rfl : k = (drawL (scanB y) (y.Round + 1)).length := by omega
              have hbl : pickL (isBad (R i)) (nth (drawL (scanB y) (y.Round + 1))) (drawL (scanB y) (y.Round + 1)).length = badL y (R i) := rfl
              have hz2 := done_insp (x := R i) hch hr
              have hch3 := done_chk (x := R i) hch hr
              have hst := done_state y (R i)
              have hnu := done_nu y (R i)
              have hu := done_u y (R i)
              refine awp_exit ?_
              refine awp_freeze (σ.length + 2) (by simp [go_sem]; first | exact ⟨rfl, rfl, rfl⟩ | exact ⟨rfl, rfl⟩ | rfl) (by simp [go_sem]; rfl) (by simp [go_sem, hwf.frz, hwf.frz0]; rfl) ?_
              refine awp_reg_seq fun K hK => ?_
              simp [go_sem, c0, d0, c1, d1, c2, d2, hi5, c3, d3, hz, hch2, hd, hwr, hrd, c4, d4, c5, d5, hbl, hz2, hch3, hst, hnu, hu, eqL_self]
              repeat refine ⟨by omega, ?_⟩
              refine CSk.mk (ref44_Copy_cs _ (scanB y) hny (show (0 : Nat) < 1000000000 by decide)) ?_
              simp [go_sem, c0, d0, c1, d1, c2, d2, hi5, c3, d3, hz, hch2, hd, hwr, hrd, c4, d4, c5, d5, hbl, hz2, hch3, hst, hnu, hu, eqL_self]
              repeat refine ⟨by omega, ?_⟩
              refine CSk.mk (cloneInt_cs _ none (badL y (R i)).length (nth (badL y (R i))) (by omega)) ?_
              simp [go_sem, c0, d0, c1, d1, c2, d2, hi5, c3, d3, hz, hch2, hd, hwr, hrd, c4, d4, c5, d5, hbl, hz2, hch3, hst, hnu, hu, eqL_self]
              repeat refine ⟨by omega, ?_⟩
              refine CSk.mk (digitize_Inspect_cs _ (scanB y) none (badL y (R i)).length (nth (badL y (R i))) hny (show (0 : Nat) < 1000000000 by decide) (by omega) (loc_app hσ)) ?_
              simp [go_sem, c0, d0, c1, d1, c2, d2, hi5, c3, d3, hz, hch2, hd, hwr, hrd, c4, d4, c5, d5, hbl, hz2, hch3, hst, hnu, hu, eqL_self]
              repeat refine ⟨by omega, ?_⟩
              refine hK _ ?_; clear hK K
              refine awp_seq ?_
              refine awp_reg_seq fun K hK => ?_
              simp [go_sem, c0, d0, c1, d1, c2, d2, hi5, c3, d3, hz, hch2, hd, hwr, hrd, c4, d4, c5, d5, hbl, hz2, hch3, hst, hnu, hu, eqL_self]
              repeat refine ⟨by omega, ?_⟩
              refine CSm.mk' _ (fun _ => ref44_Copy_cs _ (doneB y (R i)) hny (show (badL y (R i)).length < 1000000000 by omega)) ?_
              simp [go_sem, c0, d0, c1, d1, c2, d2, hi5, c3, d3, hz, hch2, hd, hwr, hrd, c4, d4, c5, d5, hbl, hz2, hch3, hst, hnu, hu, eqL_self]
              repeat refine ⟨by omega, ?_⟩
              refine CSm.mk' _ (fun _ => digitize_Check_cs _ (doneB y (R i)) hny (show (badL y (R i)).length < 1000000000 by omega) (loc_app hσ)) ?_
              simp [go_sem, c0, d0, c1, d1, c2, d2, hi5, c3, d3, hz, hch2, hd, hwr, hrd, c4, d4, c5, d5, hbl, hz2, hch3, hst, hnu, hu, eqL_self]
              repeat refine ⟨by omega, ?_⟩
              refine CSm.mk' _ (fun _ => equalInt_cs _ none none (doneB y (R i)).nu y.nu (doneB y (R i)).u y.u hny hny) ?_
              simp [go_sem, c0, d0, c1, d1, c2, d2, hi5, c3, d3, hz, hch2, hd, hwr, hrd, c4, d4, c5, d5, hbl, hz2, hch3, hst, hnu, hu, eqL_self]
              repeat refine ⟨by omega, ?_⟩
              refine hK _ ?_; clear hK K
              refine awp_forget [2, 14, 32, 33, 34, 136] (by simp only [restr, List.contains_cons, List.contains_nil, Nat.reduceBEq, Bool.or_false, Bool.or_true, Bool.true_or, Bool.false_or, if_true, if_false, Bool.false_eq_true]; rfl) ?_
              refine awp_cond rfl (fun c7 => ?_) (fun c7 => ?_)
              · have d7 := c7; try simp at d7
              · have d7 := c7; try simp at d7
                refine awp_skip ?_
                refine awp_reg_end fun K hK => ?_
                simp [go_sem, c0, d0, c1, d1, c2, d2, hi5, c3, d3, hz, hch2, hd, hwr, hrd, c4, d4, c5, d5, hbl, hz2, hch3, hst, hnu, hu, eqL_self, c7, d7]
                repeat refine ⟨by omega, ?_⟩
                refine hK _ ?_; clear hK K
                refine awp_reg_end fun K hK => ?_
                simp [go_sem, c0, d0, c1, d1, c2, d2, hi5, c3, d3, hz, hch2, hd, hwr, hrd, c4, d4, c5, d5, hbl, hz2, hch3, hst, hnu, hu, eqL_self, c7, d7]
                try simp (disch := omega) only [wrapI]
                repeat refine ⟨by omega, ?_⟩
                refine hK _ ?_; clear hK K
                refine ⟨(i + 1, doneB y (R i)), back_of' (by simp [go_sem, wrap_succ (i := i) (by omega), c0, d0, c1, d1, c2, d2, hi5, c3, d3, hz, hch2, hd, hwr, hrd, c4, d4, c5, d5, hbl, hz2, hch3, hst, hnu, hu, eqL_self, c7, d7]) ((leaves_app (by simp [go_sem]))) (by (simp [go_sem, wrap_succ (i := i) (by omega), c0, d0, c1, d1, c2, d2, hi5, c3, d3, hz, hch2, hd, hwr, hrd, c4, d4, c5, d5, hbl, hz2, hch3, hst, hnu, hu, eqL_self, c7, d7] <;> omega)), ⟨by omega, done_chk hch hr, by show (badL y (R i)).length < _; omega⟩, by first | omega | (dsimp only; omega)⟩
      · have d2 := c2; try simp at d2
        refine awp_exit ?_
        refine awp_reg_seq fun K hK => ?_
        simp [go_sem, c0, d0, c1, d1, c2, d2]
        repeat refine ⟨by omega, ?_⟩
        refine hK _ ?_; clear hK K
        refine awp_ret ?_
        simp [go_sem, Tryz.results8, c0, d0, c1, d1, c2, d2] <;> omega
end Go.Proofs.YtldnolgijfkfpaaGreatDoor

/-! Es -/
namespace Go.Proofs.YtldnolgijfkfpaaGreatDoor
open Go.Abs
open Go.ChangeShapes Go.WideShapes Go.ChangeAt Go.RowKit
set_option linter.unusedVariables false
set_option linter.unusedSimpArgs false
theorem opn5 : Opn Tryz.prog 5 fun ds => ∃ n, ds = [.v (.int .u8 n)] ∧ (Lit.int .u8 n).wf = true := opn_int Tryz.underlying5
theorem opn50 : Opn Tryz.prog 50 fun ds => ∃ r : Byt, ds = encB r := (opn_slice (sz := 1) [.v (.int .u8 0)] Tryz.underlying50 (by kernel_rfl) (by omega) opn5 ⟨_, rfl, by decide⟩).mono fun ds h => by
  obtain ⟨n, row, rfl, hn, h⟩ := h
  exact ⟨(n, fun i => (h i).choose), congrArg (fun f => [D.sl none 1 n f]) (funext fun i => (h i).choose_spec.1)⟩
theorem opn49 : Opn Tryz.prog 49 fun ds => ∃ y, ds = [y] ∧ ∃ n R, y = SL none 1 encB n R ∧ n ≤ maxLen := (opn_slice (sz := 1) (encB (0, fun _ => 0)) Tryz.underlying49 (by kernel_rfl) (by omega) opn50 ⟨_, rfl⟩).mono fun ds h => by
  obtain ⟨n, row, rfl, hn, h⟩ := h
  exact ⟨_, rfl, n, fun i => (h i).choose, congrArg (D.sl none 1 n) (funext fun i => (h i).choose_spec), hn⟩
end Go.Proofs.YtldnolgijfkfpaaGreatDoor

/-! Cs -/
namespace Go.Proofs.YtldnolgijfkfpaaGreatDoor
open Go.Abs
set_option linter.unusedVariables false
set_option linter.unusedSimpArgs false
noncomputable def bestU (ID rd : Nat) (P : List Int) (u : Nat → Nat) : Nat → Nat
  | 0 => 0
  | i + 1 => open Classical in if (u i : Int) ∈ P then bestU ID rd P u i
    else if bestU ID rd P u i = 0 ∨ ltS (keyS ID rd (u i)) (keyS ID rd (bestU ID rd P u i)) = true then u i else bestU ID rd P u i
theorem bestU_in {ID rd : Nat} {P : List Int} {u : Nat → Nat} {i : Nat} (h : (u i : Int) ∈ P) : bestU ID rd P u (i + 1) = bestU ID rd P u i := by
  rw [bestU, if_pos h]
theorem bestU_new {ID rd : Nat} {P : List Int} {u : Nat → Nat} {i : Nat} (h : ¬ (u i : Int) ∈ P) (hb : bestU ID rd P u i = 0 ∨ ltS (keyS ID rd (u i)) (keyS ID rd (bestU ID rd P u i)) = true) : bestU ID rd P u (i + 1) = u i := by
  rw [bestU, if_neg h, if_pos hb]
theorem bestU_old {ID rd : Nat} {P : List Int} {u : Nat → Nat} {i : Nat} (h : ¬ (u i : Int) ∈ P) (hb : ¬ (bestU ID rd P u i = 0 ∨ ltS (keyS ID rd (u i)) (keyS ID rd (bestU ID rd P u i)) = true)) : bestU ID rd P u (i + 1) = bestU ID rd P u i := by
  rw [bestU, if_neg h, if_neg hb]
theorem bestU_spec {ID rd : Nat} {P : List Int} {u : Nat → Nat} : ∀ {n : Nat}, (∀ i, i < n → 1 ≤ u i) → (∀ i j, i < j → j < n → u i < u j) →
    (bestU ID rd P u n = 0 ∧ ∀ i, i < n → (u i : Int) ∈ P) ∨ (∃ j, j < n ∧ bestU ID rd P u n = u j ∧ ¬ (u j : Int) ∈ P ∧ ∀ i, i < n → ¬ (u i : Int) ∈ P → ¬ befU ID rd (u i) (u j))
  | 0, _, _ => .inl ⟨rfl, fun i hi => by omega⟩
  | n + 1, h1, h2 => by
    have ih := bestU_spec (ID := ID) (rd := rd) (P := P) (u := u) (n := n) (fun i hi => h1 i (by omega)) (fun i j hij hj => h2 i j hij (by omega))
    by_cases hp : (u n : Int) ∈ P
    · rw [bestU_in hp]
      rcases ih with ⟨e, h⟩ | ⟨j, hj, e, hjp, h⟩
      · left; exact ⟨e, fun i hi => by
          by_cases hin : i = n
          · rw [hin]; exact hp
          · exact h i (by omega)⟩
      · right; exact ⟨j, by omega, e, hjp, fun i hi hip => by
          by_cases hin : i = n
          · rw [hin] at hip; exact absurd hp hip
          · exact h i (by omega) hip⟩
    · right
      by_cases hb : bestU ID rd P u n = 0 ∨ ltS (keyS ID rd (u n)) (keyS ID rd (bestU ID rd P u n)) = true
      · rw [bestU_new hp hb]
        refine ⟨n, by omega, rfl, hp, fun i hi hip => ?_⟩
        by_cases hin : i = n
        · rw [hin]; exact befU_irrefl _ _ _
        · rcases ih with ⟨e, h⟩ | ⟨j, hj, e, hjp, h⟩
          · exact absurd (h i (by omega)) hip
          · have hj1 := h1 j (by omega)
            rw [e] at hb
            have hlt : ltS (keyS ID rd (u n)) (keyS ID rd (u j)) = true := by
              rcases hb with hb | hb
              · omega
              · exact hb
            intro hbad
            exact h i (by omega) hip (befU_trans hbad (.inl hlt))
      · rw [bestU_old hp hb]
        rcases ih with ⟨e, h⟩ | ⟨j, hj, e, hjp, h⟩
        · exact absurd (.inl e) hb
        · refine ⟨j, by omega, e, hjp, fun i hi hip => ?_⟩
          by_cases hin : i = n
          · rw [hin]
            rw [e] at hb
            intro hbad
            rcases hbad with hl | ⟨_, hl⟩
            · exact hb (.inr hl)
            · have := h2 j n (by omega) (by omega); omega
          · exact h i (by omega) hip
theorem bestU_next {ID rd n k : Nat} {u : Nat → Nat} (h1 : ∀ i, i < n → 1 ≤ u i) (h2 : ∀ i j, i < j → j < n → u i < u j) (hnd : (lst n u).Nodup) {L : List Nat} (hL : OrdL ID rd (lst n u) L) (hk : k < L.length) :
    bestU ID rd ((L.take k).map fun n : Nat => (n : Int)) u n = L[k] := by
  have hmem : ∀ x : Nat, ((x : Int) ∈ (L.take k).map fun n : Nat => (n : Int)) ↔ x ∈ L.take k := by
    intro x
    constructor
    · intro h
      obtain ⟨y, hy, he⟩ := List.mem_map.1 h
      have : y = x := by omega
      exact this ▸ hy
    · intro h; exact List.mem_map.2 ⟨x, h, rfl⟩
  have hLn : L.Nodup := hL.1.nodup_iff.2 hnd
  have hkn : L[k] ∉ L.take k := by
    intro h
    obtain ⟨i, hi, he⟩ := List.mem_iff_getElem.1 h
    rw [List.length_take] at hi
    rw [List.getElem_take] at he
    have := (List.getElem_inj hLn).1 he
    omega
  obtain ⟨q, hq, heq⟩ : ∃ q, q < n ∧ u q = L[k] := by
    have := hL.1.mem_iff.1 (List.getElem_mem hk)
    obtain ⟨q, h, e⟩ := List.mem_map.1 this
    exact ⟨q, List.mem_range.1 h, e⟩
  rcases bestU_spec (ID := ID) (rd := rd) (P := (L.take k).map fun n : Nat => (n : Int)) h1 h2 with ⟨_, h⟩ | ⟨j, hj, e, hjp, h⟩
  · exact absurd ((hmem _).1 (h q hq)) (by rw [heq]; exact hkn)
  · rw [e]
    have hjL : u j ∈ L := hL.1.mem_iff.2 (List.mem_map.2 ⟨j, List.mem_range.2 hj, rfl⟩)
    obtain ⟨r, hr, her⟩ := List.mem_iff_getElem.1 hjL
    have hrk : ¬ r < k := by
      intro hrk
      apply hjp
      rw [hmem, ← her]
      exact List.mem_iff_getElem.2 ⟨r, by rw [List.length_take]; omega, by rw [List.getElem_take]⟩
    by_cases hre : r = k
    · subst hre; exact her.symm
    · have hb1 : ¬ befU ID rd (u j) L[k] := by
        have := (List.pairwise_iff_getElem.1 hL.2) k r hk hr (by omega)
        rw [her] at this; exact this
      have hb2 : ¬ befU ID rd L[k] (u j) := by
        have := h q hq (by rw [heq, hmem]; exact hkn)
        rwa [heq] at this
      exact befU_total hb1 hb2
theorem draw_pick {x : Bat} (hx : Rng x) (ha : ascB x.u x.nu = true) (rd : Int) :
    pickL (fun i => decide (x.u i ∈ ((ordL x.ID.toNat rd.toNat (lst x.nu (unN x))).take x.Sample.toNat).map fun n : Nat => (n : Int))) x.u x.nu = drawL x rd := by
  classical
  unfold drawL
  have hnd := nodup_units hx ha
  have hO := ordL_spec x.ID.toNat rd.toNat (lst x.nu (unN x))
  have hasc := pickL_asc (p := fun i => decide (x.u i ∈ ((ordL x.ID.toNat rd.toNat (lst x.nu (unN x))).take x.Sample.toNat).map fun n : Nat => (n : Int))) ha (Nat.le_refl _)
  refine sortI_eq ?_ (hasc.imp fun h => by omega)
  refine (List.perm_ext_iff_of_nodup (hasc.imp fun h => by omega) ?_).2 fun a => ?_
  · refine List.pairwise_map.2 (List.Pairwise.imp (R := (· ≠ ·)) (fun h e => h (Int.ofNat_inj.1 e)) ?_)
    exact List.Pairwise.sublist (List.take_sublist _ _) (hO.1.nodup_iff.2 hnd)
  · rw [mem_pickL]
    constructor
    · rintro ⟨q, h1, h2, rfl⟩
      exact of_decide_eq_true h2
    · intro h
      obtain ⟨y, hy, rfl⟩ := List.mem_map.1 h
      have h3 := hO.1.mem_iff.1 (List.mem_of_mem_take hy)
      obtain ⟨q, hq, e⟩ := List.mem_map.1 h3
      rw [List.mem_range] at hq
      have h4 := hx.u1 q hq
      have e2 : x.u q = (y : Int) := by unfold unN at e; omega
      exact ⟨q, hq, by rw [e2]; exact decide_eq_true h, e2⟩
end Go.Proofs.YtldnolgijfkfpaaGreatDoor
