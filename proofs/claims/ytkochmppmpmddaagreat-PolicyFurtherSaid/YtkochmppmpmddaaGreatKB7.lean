/- Contracts and lemmas (Dt, Dv), joined out of smaller texts by a program; no conditions. -/
import Derived.Test.YtkochmppmpmddaaGreatKB6
/-! Dt -/
namespace Go.Proofs.YtkochmppmpmddaaGreat
open Go.Abs Go.Arch
set_option linter.unusedVariables false
set_option linter.unusedSimpArgs false
set_option maxRecDepth 100000
set_option maxHeartbeats 1000000
theorem deleteAgr_cs (σ : List Blk) (τ : List Blk) (n : Nat) (g : Nat → Agr) (i : Nat) (hi : i < n) (hn : n < 1000000000) : CS Tryz.prog 30 [.ms σ.length 6 0 n, .d (I i), .d (I (i + 1))] (σ ++ .arr 6 n (fun i => Agr.enc (g i)) :: τ) (fun r σ' X' => X' = [] ∧ r = .ms σ.length 6 0 (n - 1) ∧ σ' = σ ++ .arr 6 (n - 1) (fun q => Agr.enc (without g i q)) :: τ) := by
  have h0 : ((i : Int) == (i : Int) + 1) = false := by simp; omega
  have h1 : ((i : Int) + 1).toNat = i + 1 := by omega
  have h2 : ((n : Int) - ((i : Int) + 1)).toNat = n - 1 - i := by omega
  refine CS.of_bodyD [] T.en30 Tryz.func30 rfl (by simp [Tryz.ntmps30]) fun hwf => ?_
  refine awp_reg_seq fun K hK => ?_
  simp [go_sem, Tryz.ntmps30, h0, hi]
  repeat refine ⟨by omega, ?_⟩
  refine hK _ ?_; clear hK K
  refine awp_reg_seq fun K hK => ?_
  simp [go_sem, h0, hi]
  repeat refine ⟨by omega, ?_⟩
  refine hK _ ?_; clear hK K
  refine awp_seq ?_
  refine awp_reg_seq fun K hK => ?_
  simp [go_sem, h0, hi]
  repeat refine ⟨by omega, ?_⟩
  refine hK _ ?_; clear hK K
  refine awp_forget [0, 1, 2, 16] (by simp only [restr, List.contains_cons, List.contains_nil, Nat.reduceBEq, Bool.or_false, Bool.or_true, Bool.true_or, Bool.false_or, if_true, if_false, Bool.false_eq_true]; rfl) ?_
  refine awp_cond rfl (fun c0 => ?_) (fun c0 => ?_)
  · have d0 := c0; try simp at d0
  · have d0 := c0; try simp at d0
    refine awp_skip ?_
    refine awp_reg_seq fun K hK => ?_
    simp [go_sem, h0, hi, c0, d0]
    repeat refine ⟨by omega, ?_⟩
    refine hK _ ?_; clear hK K
    refine awp_draw_seq 6 T.mixed (by kernel_rfl) fun K hK => ?_
    simp [go_sem, h0, hi, c0, d0, hwf.one, hwf.zero]
    repeat refine ⟨by omega, ?_⟩
    refine hK _ ?_; clear hK K
    refine awp_reg_seq fun K hK => ?_
    simp [go_sem, h0, hi, c0, d0]
    repeat refine ⟨by omega, ?_⟩
    refine hK _ ?_; clear hK K
    refine awp_reg_seq fun K hK => ?_
    simp [go_sem, h0, hi, c0, d0]
    repeat refine ⟨by omega, ?_⟩
    refine hK _ ?_; clear hK K
    refine awp_shrink σ.length (n - 1) (fun q => Agr.enc (without g i q)) (by simp [go_sem]; first | exact ⟨rfl, rfl, rfl⟩ | exact ⟨rfl, rfl⟩ | rfl) (by omega) (fun q hq => by
      simp only [setRows, without, skip]
      rw [if_neg (by omega)]
      by_cases h : q < i
      · rw [if_neg (by omega), if_pos h]; rfl
      · rw [if_pos (by omega), if_neg h, show i + 1 + (q - i) = q + 1 by omega]; rfl) (by simp [go_sem]; rfl) ?_
    refine awp_ret ?_
    simp [go_sem, Tryz.results30, h0, hi]
    exact ⟨_, ⟨[], (List.append_nil _).symm⟩, leaves_app (by simp [go_sem, leavesL_refl]), by omega, rfl⟩
theorem deletePmt_cs (σ : List Blk) (τ : List Blk) (n : Nat) (g : Nat → Pmt) (i : Nat) (hi : i < n) (hn : n < 1000000000) : CS Tryz.prog 31 [.ms σ.length 6 0 n, .d (I i), .d (I (i + 1))] (σ ++ .arr 6 n (fun i => Pmt.enc (g i)) :: τ) (fun r σ' X' => X' = [] ∧ r = .ms σ.length 6 0 (n - 1) ∧ σ' = σ ++ .arr 6 (n - 1) (fun q => Pmt.enc (without g i q)) :: τ) := by
  have h0 : ((i : Int) == (i : Int) + 1) = false := by simp; omega
  have h1 : ((i : Int) + 1).toNat = i + 1 := by omega
  have h2 : ((n : Int) - ((i : Int) + 1)).toNat = n - 1 - i := by omega
  refine CS.of_bodyD [] T.en31 Tryz.func31 rfl (by simp [Tryz.ntmps31]) fun hwf => ?_
  refine awp_reg_seq fun K hK => ?_
  simp [go_sem, Tryz.ntmps31, h0, hi]
  repeat refine ⟨by omega, ?_⟩
  refine hK _ ?_; clear hK K
  refine awp_reg_seq fun K hK => ?_
  simp [go_sem, h0, hi]
  repeat refine ⟨by omega, ?_⟩
  refine hK _ ?_; clear hK K
  refine awp_seq ?_
  refine awp_reg_seq fun K hK => ?_
  simp [go_sem, h0, hi]
  repeat refine ⟨by omega, ?_⟩
  refine hK _ ?_; clear hK K
  refine awp_forget [0, 1, 2, 16] (by simp only [restr, List.contains_cons, List.contains_nil, Nat.reduceBEq, Bool.or_false, Bool.or_true, Bool.true_or, Bool.false_or, if_true, if_false, Bool.false_eq_true]; rfl) ?_
  refine awp_cond rfl (fun c0 => ?_) (fun c0 => ?_)
  · have d0 := c0; try simp at d0
  · have d0 := c0; try simp at d0
    refine awp_skip ?_
    refine awp_reg_seq fun K hK => ?_
    simp [go_sem, h0, hi, c0, d0]
    repeat refine ⟨by omega, ?_⟩
    refine hK _ ?_; clear hK K
    refine awp_draw_seq 6 T.mixed (by kernel_rfl) fun K hK => ?_
    simp [go_sem, h0, hi, c0, d0, hwf.one, hwf.zero]
    repeat refine ⟨by omega, ?_⟩
    refine hK _ ?_; clear hK K
    refine awp_reg_seq fun K hK => ?_
    simp [go_sem, h0, hi, c0, d0]
    repeat refine ⟨by omega, ?_⟩
    refine hK _ ?_; clear hK K
    refine awp_reg_seq fun K hK => ?_
    simp [go_sem, h0, hi, c0, d0]
    repeat refine ⟨by omega, ?_⟩
    refine hK _ ?_; clear hK K
    refine awp_shrink σ.length (n - 1) (fun q => Pmt.enc (without g i q)) (by simp [go_sem]; first | exact ⟨rfl, rfl, rfl⟩ | exact ⟨rfl, rfl⟩ | rfl) (by omega) (fun q hq => by
      simp only [setRows, without, skip]
      rw [if_neg (by omega)]
      by_cases h : q < i
      · rw [if_neg (by omega), if_pos h]; rfl
      · rw [if_pos (by omega), if_neg h, show i + 1 + (q - i) = q + 1 by omega]; rfl) (by simp [go_sem]; rfl) ?_
    refine awp_ret ?_
    simp [go_sem, Tryz.results31, h0, hi]
    exact ⟨_, ⟨[], (List.append_nil _).symm⟩, leaves_app (by simp [go_sem, leavesL_refl]), by omega, rfl⟩
theorem cloneAgrM_cs (σ : List Blk) (c : Option Nat) (n : Nat) (g : Nat → Agr) (hn : n < 1000000000) : CS Tryz.prog 55 [.d (SL c 6 Agr.enc n g)] σ (fun r σ' X => r = .ms σ.length 6 0 n ∧ σ' = σ ++ [.arr 6 n fun i => Agr.enc (g i)] ∧ X = []) := by
  refine CS.of_bodyW T.en55 Tryz.func55 rfl (by simp [Tryz.ntmps55]) fun hwf => ?_
  refine awp_reg_seq fun K hK => ?_
  simp [go_sem, Tryz.ntmps55]
  repeat refine ⟨by omega, ?_⟩
  refine hK _ ?_; clear hK K
  refine awp_seq ?_
  refine awp_reg_seq fun K hK => ?_
  simp [go_sem, -Bool.forall_bool]
  intro b1 hb1
  repeat refine ⟨by omega, ?_⟩
  refine hK _ ?_; clear hK K
  refine awp_cond rfl (fun c0 => ?_) (fun c0 => ?_)
  · have d0 := c0; try simp at d0
    refine awp_reg_seq fun K hK => ?_
    simp [go_sem, c0, d0]
    repeat refine ⟨by omega, ?_⟩
    refine hK _ ?_; clear hK K
    refine awp_thawT 2 6 (fun i => Agr.enc (g i)) (by simp [go_sem]) (by simp [go_sem]; rfl) ?_
    refine awp_ret ?_
    obtain rfl := hb1 c0
    simp [go_sem, Tryz.results55]
  · have d0 := c0; try simp at d0
    refine awp_skip ?_
    refine awp_reg_seq fun K hK => ?_
    simp [go_sem, c0, d0, hwf.one, hwf.zero]
    repeat refine ⟨by omega, ?_⟩
    refine hK _ ?_; clear hK K
    refine awp_ret ?_
    simp [go_sem, Tryz.results55, c0, d0] <;> omega
theorem clonePmtM_cs (σ : List Blk) (c : Option Nat) (n : Nat) (g : Nat → Pmt) (hn : n < 1000000000) : CS Tryz.prog 56 [.d (SL c 6 Pmt.enc n g)] σ (fun r σ' X => r = .ms σ.length 6 0 n ∧ σ' = σ ++ [.arr 6 n fun i => Pmt.enc (g i)] ∧ X = []) := by
  refine CS.of_bodyW T.en56 Tryz.func56 rfl (by simp [Tryz.ntmps56]) fun hwf => ?_
  refine awp_reg_seq fun K hK => ?_
  simp [go_sem, Tryz.ntmps56]
  repeat refine ⟨by omega, ?_⟩
  refine hK _ ?_; clear hK K
  refine awp_seq ?_
  refine awp_reg_seq fun K hK => ?_
  simp [go_sem, -Bool.forall_bool]
  intro b1 hb1
  repeat refine ⟨by omega, ?_⟩
  refine hK _ ?_; clear hK K
  refine awp_cond rfl (fun c0 => ?_) (fun c0 => ?_)
  · have d0 := c0; try simp at d0
    refine awp_reg_seq fun K hK => ?_
    simp [go_sem, c0, d0]
    repeat refine ⟨by omega, ?_⟩
    refine hK _ ?_; clear hK K
    refine awp_thawT 2 6 (fun i => Pmt.enc (g i)) (by simp [go_sem]) (by simp [go_sem]; rfl) ?_
    refine awp_ret ?_
    obtain rfl := hb1 c0
    simp [go_sem, Tryz.results56]
  · have d0 := c0; try simp at d0
    refine awp_skip ?_
    refine awp_reg_seq fun K hK => ?_
    simp [go_sem, c0, d0, hwf.one, hwf.zero]
    repeat refine ⟨by omega, ?_⟩
    refine hK _ ?_; clear hK K
    refine awp_ret ?_
    simp [go_sem, Tryz.results56, c0, d0] <;> omega
theorem law35_cpA_cs (σ : List Blk) (p : Pol) (hp : PolOk p) : CS Tryz.prog 19 [.agg (p.enc.map .d)] σ (fun r σ' X => r = .agg [.d (SL none 5 Sbj.enc p.ns p.gs), .d (SL none 6 Rule.enc p.nc p.gc), .d (SL none 6 Prs.enc p.np p.gp), .d (I p.Years), .ms (σ.length + 3) 6 0 p.na, .d (SL none 6 Pmt.enc p.nm p.gm)] ∧ X = [σ.length + 2] ∧ ∃ x y, σ' = σ ++ [x, y, .dead, .arr 6 p.na (fun i => Agr.enc (p.ga i))]) := by
  refine CS.of_bodyW T.en19 Tryz.func19 rfl (by simp [Tryz.ntmps19]) fun hwf => ?_
  refine awp_reg_seq fun K hK => ?_
  simp [go_sem, Tryz.ntmps19]
  repeat refine ⟨by omega, ?_⟩
  refine hK _ ?_; clear hK K
  refine awp_reg_seq fun K hK => ?_
  simp [go_sem]
  repeat refine ⟨by omega, ?_⟩
  refine CSk.gen (cloneSbjM_cs _ none p.ns p.gs (by have := hp.ns; omega)) ?_; rintro r σ' X ⟨rfl, rfl, rfl⟩
  simp [go_sem]
  repeat refine ⟨by omega, ?_⟩
  refine hK _ ?_; clear hK K
  refine awp_seq ?_
  refine awp_reg_seq fun K hK => ?_
  simp [go_sem]
  repeat refine ⟨by omega, ?_⟩
  refine hK _ ?_; clear hK K
  refine awp_block ?_
  refine awp_forget [1, 2, 10, 11] (by simp [go_sem, restr]; rfl) ?_
  refine awp_loopU (α := Nat) (fun i => [(11, .d (I i))]) (fun i => σ ++ [.var [.ms (σ.length + 2) 5 0 p.ns, .d (SL none 6 Rule.enc p.nc p.gc), .d (SL none 6 Prs.enc p.np p.gp), .d (I p.Years), .d (SL none 6 Agr.enc p.na p.ga), .d (SL none 6 Pmt.enc p.nm p.gm)], .var [.d (.v (.slice none 0 0)), .d (.v (.slice none 0 0)), .d (.v (.slice none 0 0)), .d (I 0), .d (.v (.slice none 0 0)), .d (.v (.slice none 0 0))], .arr 5 p.ns (fun i => Sbj.enc (p.gs i))]) (fun i => i ≤ p.ns) (fun i => p.ns - i) 0 (by simp [go_sem]) (rfl) (by simp) ?_
  rintro i hi
  refine awp_reg_seq fun K hK => ?_
  simp [go_sem]
  repeat refine ⟨by omega, ?_⟩
  refine hK _ ?_; clear hK K
  refine awp_seq ?_
  refine awp_forget [1, 2, 10, 11, 12] (by simp only [restr, List.contains_cons, List.contains_nil, Nat.reduceBEq, Bool.or_false, Bool.or_true, Bool.true_or, Bool.false_or, if_true, if_false, Bool.false_eq_true]; rfl) ?_
  refine awp_cond rfl (fun c0 => ?_) (fun c0 => ?_)
  · have d0 := c0; try simp at d0
    refine awp_skip ?_
    refine awp_seq ?_
    refine awp_block ?_
    refine awp_reg_seq fun K hK => ?_
    simp [go_sem, c0, d0]
    repeat refine ⟨by omega, ?_⟩
    refine hK _ ?_; clear hK K
    apply awp_late_end 13 12 T.mixed (by kernel_rfl)
    · intro K hK
      simp [go_sem, c0, d0]
      repeat refine ⟨by omega, ?_⟩
      refine CSg.mk (cloneInt_cs _ none (p.gs i).np (p.gs i).ps (by have := hp.ps i (by omega); omega)) ?_
      simp [go_sem, c0, d0]
      repeat refine ⟨by omega, ?_⟩
      exact hK _ _
    · simp [go_sem, c0, d0]; rfl
    · intro K hK
      simp [go_sem, c0, d0]
      repeat refine ⟨by omega, ?_⟩
      refine CSg.mk (cloneInt_cs _ none (p.gs i).np (p.gs i).ps (by have := hp.ps i (by omega); omega)) ?_
      simp [go_sem, c0, d0]
      repeat refine ⟨by omega, ?_⟩
      exact hK _ _
    intro K hK
    simp [go_sem, c0, d0]
    repeat refine ⟨by omega, ?_⟩
    refine hK _ ?_; clear hK K
    refine awp_rows (σ.length + 2) (fun i => Sbj.enc (p.gs i)) (by simp [go_sem]; first | exact ⟨rfl, rfl, rfl⟩ | exact ⟨rfl, rfl⟩ | rfl) (by intro q hq; by_cases h : q = i <;> simp [h, Sbj.enc]) (by simp [go_sem]; rfl) ?_
    refine awp_reg_end fun K hK => ?_
    simp [go_sem, c0, d0]
    try simp (disch := omega) only [wrapI]
    repeat refine ⟨by omega, ?_⟩
    refine hK _ ?_; clear hK K
    refine ⟨i + 1, back_of' (by simp [go_sem, wrap_succ (i := i) (by have := hp.ns; omega), c0, d0]) (.refl _) (by (simp [go_sem, wrap_succ (i := i) (by have := hp.ns; omega), c0, d0] <;> omega)), by omega, by first | omega | (dsimp only; omega)⟩
  · have d0 := c0; try simp at d0
    refine awp_exit ?_
    refine awp_draw_seq 7 T.mixed (by kernel_rfl) fun K hK => ?_
    simp [go_sem, c0, d0]
    repeat refine ⟨by omega, ?_⟩
    refine CSg.mk (cloneRule_cs _ none p.nc p.gc (by have := hp.nc; omega)) ?_
    simp [go_sem, c0, d0]
    repeat refine ⟨by omega, ?_⟩
    refine CSg.mk (clonePrs_cs _ none p.np p.gp (by have := hp.np; omega)) ?_
    simp [go_sem, c0, d0]
    repeat refine ⟨by omega, ?_⟩
    refine hK _ ?_; clear hK K
    apply awp_ownc_seq 7 2 55 (.ms (σ.length + 3) 6 0 p.na) (.arr 6 p.na (fun i => Agr.enc (p.ga i))) T.mixed (by kernel_rfl)
    · intro τ K hK
      simp [go_sem, c0, d0]
      repeat refine ⟨by omega, ?_⟩
      refine CSg.mk (clonePmt_cs _ none p.nm p.gm (by have := hp.nm; omega)) ?_
      simp [go_sem, c0, d0]
      repeat refine ⟨by omega, ?_⟩
      exact hK _ _
    · simp [go_sem, c0, d0]
      exact CS.mono (cloneAgrM_cs _ none p.na p.ga (by have := hp.na; omega)) (by rintro r σ' X ⟨rfl, rfl, rfl⟩; simp [Agr.enc])
    intro K hK
    simp [go_sem, c0, d0]
    repeat refine ⟨by omega, ?_⟩
    refine hK _ ?_; clear hK K
    refine awp_reg_seq fun K hK => ?_
    simp [go_sem, c0, d0]
    repeat refine ⟨by omega, ?_⟩
    refine hK _ ?_; clear hK K
    refine awp_freeze (σ.length + 2) (by simp [go_sem]; first | exact ⟨rfl, rfl, rfl⟩ | exact ⟨rfl, rfl⟩ | rfl) (by simp [go_sem]; rfl) (by simp [go_sem, hwf.frz, hwf.frz0]; rfl) ?_
    refine awp_ret ?_
    simp [go_sem, Tryz.results19]
theorem law35_cpM_cs (σ : List Blk) (p : Pol) (hp : PolOk p) : CS Tryz.prog 19 [.agg (p.enc.map .d)] σ (fun r σ' X => r = .agg [.d (SL none 5 Sbj.enc p.ns p.gs), .d (SL none 6 Rule.enc p.nc p.gc), .d (SL none 6 Prs.enc p.np p.gp), .d (I p.Years), .d (SL none 6 Agr.enc p.na p.ga), .ms (σ.length + 3) 6 0 p.nm] ∧ X = [σ.length + 2] ∧ ∃ x y, σ' = σ ++ [x, y, .dead, .arr 6 p.nm (fun i => Pmt.enc (p.gm i))]) := by
  refine CS.of_bodyW T.en19 Tryz.func19 rfl (by simp [Tryz.ntmps19]) fun hwf => ?_
  refine awp_reg_seq fun K hK => ?_
  simp [go_sem, Tryz.ntmps19]
  repeat refine ⟨by omega, ?_⟩
  refine hK _ ?_; clear hK K
  refine awp_reg_seq fun K hK => ?_
  simp [go_sem]
  repeat refine ⟨by omega, ?_⟩
  refine CSk.gen (cloneSbjM_cs _ none p.ns p.gs (by have := hp.ns; omega)) ?_; rintro r σ' X ⟨rfl, rfl, rfl⟩
  simp [go_sem]
  repeat refine ⟨by omega, ?_⟩
  refine hK _ ?_; clear hK K
  refine awp_seq ?_
  refine awp_reg_seq fun K hK => ?_
  simp [go_sem]
  repeat refine ⟨by omega, ?_⟩
  refine hK _ ?_; clear hK K
  refine awp_block ?_
  refine awp_forget [1, 2, 10, 11] (by simp [go_sem, restr]; rfl) ?_
  refine awp_loopU (α := Nat) (fun i => [(11, .d (I i))]) (fun i => σ ++ [.var [.ms (σ.length + 2) 5 0 p.ns, .d (SL none 6 Rule.enc p.nc p.gc), .d (SL none 6 Prs.enc p.np p.gp), .d (I p.Years), .d (SL none 6 Agr.enc p.na p.ga), .d (SL none 6 Pmt.enc p.nm p.gm)], .var [.d (.v (.slice none 0 0)), .d (.v (.slice none 0 0)), .d (.v (.slice none 0 0)), .d (I 0), .d (.v (.slice none 0 0)), .d (.v (.slice none 0 0))], .arr 5 p.ns (fun i => Sbj.enc (p.gs i))]) (fun i => i ≤ p.ns) (fun i => p.ns - i) 0 (by simp [go_sem]) (rfl) (by simp) ?_
  rintro i hi
  refine awp_reg_seq fun K hK => ?_
  simp [go_sem]
  repeat refine ⟨by omega, ?_⟩
  refine hK _ ?_; clear hK K
  refine awp_seq ?_
  refine awp_forget [1, 2, 10, 11, 12] (by simp only [restr, List.contains_cons, List.contains_nil, Nat.reduceBEq, Bool.or_false, Bool.or_true, Bool.true_or, Bool.false_or, if_true, if_false, Bool.false_eq_true]; rfl) ?_
  refine awp_cond rfl (fun c0 => ?_) (fun c0 => ?_)
  · have d0 := c0; try simp at d0
    refine awp_skip ?_
    refine awp_seq ?_
    refine awp_block ?_
    refine awp_reg_seq fun K hK => ?_
    simp [go_sem, c0, d0]
    repeat refine ⟨by omega, ?_⟩
    refine hK _ ?_; clear hK K
    apply awp_late_end 13 12 T.mixed (by kernel_rfl)
    · intro K hK
      simp [go_sem, c0, d0]
      repeat refine ⟨by omega, ?_⟩
      refine CSg.mk (cloneInt_cs _ none (p.gs i).np (p.gs i).ps (by have := hp.ps i (by omega); omega)) ?_
      simp [go_sem, c0, d0]
      repeat refine ⟨by omega, ?_⟩
      exact hK _ _
    · simp [go_sem, c0, d0]; rfl
    · intro K hK
      simp [go_sem, c0, d0]
      repeat refine ⟨by omega, ?_⟩
      refine CSg.mk (cloneInt_cs _ none (p.gs i).np (p.gs i).ps (by have := hp.ps i (by omega); omega)) ?_
      simp [go_sem, c0, d0]
      repeat refine ⟨by omega, ?_⟩
      exact hK _ _
    intro K hK
    simp [go_sem, c0, d0]
    repeat refine ⟨by omega, ?_⟩
    refine hK _ ?_; clear hK K
    refine awp_rows (σ.length + 2) (fun i => Sbj.enc (p.gs i)) (by simp [go_sem]; first | exact ⟨rfl, rfl, rfl⟩ | exact ⟨rfl, rfl⟩ | rfl) (by intro q hq; by_cases h : q = i <;> simp [h, Sbj.enc]) (by simp [go_sem]; rfl) ?_
    refine awp_reg_end fun K hK => ?_
    simp [go_sem, c0, d0]
    try simp (disch := omega) only [wrapI]
    repeat refine ⟨by omega, ?_⟩
    refine hK _ ?_; clear hK K
    refine ⟨i + 1, back_of' (by simp [go_sem, wrap_succ (i := i) (by have := hp.ns; omega), c0, d0]) (.refl _) (by (simp [go_sem, wrap_succ (i := i) (by have := hp.ns; omega), c0, d0] <;> omega)), by omega, by first | omega | (dsimp only; omega)⟩
  · have d0 := c0; try simp at d0
    refine awp_exit ?_
    refine awp_draw_seq 7 T.mixed (by kernel_rfl) fun K hK => ?_
    simp [go_sem, c0, d0]
    repeat refine ⟨by omega, ?_⟩
    refine CSg.mk (cloneRule_cs _ none p.nc p.gc (by have := hp.nc; omega)) ?_
    simp [go_sem, c0, d0]
    repeat refine ⟨by omega, ?_⟩
    refine CSg.mk (clonePrs_cs _ none p.np p.gp (by have := hp.np; omega)) ?_
    simp [go_sem, c0, d0]
    repeat refine ⟨by omega, ?_⟩
    refine hK _ ?_; clear hK K
    apply awp_ownc_seq 7 5 56 (.ms (σ.length + 3) 6 0 p.nm) (.arr 6 p.nm (fun i => Pmt.enc (p.gm i))) T.mixed (by kernel_rfl)
    · intro τ K hK
      simp [go_sem, c0, d0]
      repeat refine ⟨by omega, ?_⟩
      refine CSg.mk (cloneAgr_cs _ none p.na p.ga (by have := hp.na; omega)) ?_
      simp [go_sem, c0, d0]
      repeat refine ⟨by omega, ?_⟩
      exact hK _ _
    · simp [go_sem, c0, d0]
      exact CS.mono (clonePmtM_cs _ none p.nm p.gm (by have := hp.nm; omega)) (by rintro r σ' X ⟨rfl, rfl, rfl⟩; simp [Pmt.enc])
    intro K hK
    simp [go_sem, c0, d0]
    repeat refine ⟨by omega, ?_⟩
    refine hK _ ?_; clear hK K
    refine awp_reg_seq fun K hK => ?_
    simp [go_sem, c0, d0]
    repeat refine ⟨by omega, ?_⟩
    refine hK _ ?_; clear hK K
    refine awp_freeze (σ.length + 2) (by simp [go_sem]; first | exact ⟨rfl, rfl, rfl⟩ | exact ⟨rfl, rfl⟩ | rfl) (by simp [go_sem]; rfl) (by simp [go_sem, hwf.frz, hwf.frz0]; rfl) ?_
    refine awp_ret ?_
    simp [go_sem, Tryz.results19]
theorem split_at {α : Type} {l : List α} {b : Nat} {x : α} (h : l[b]? = some x) : l = l.take b ++ x :: l.drop (b + 1) ∧ (l.take b).length = b := by
  obtain ⟨h1, h2⟩ := List.getElem?_eq_some_iff.1 h
  refine ⟨?_, by simp; omega⟩
  rw [← h2, ← List.drop_eq_getElem_cons h1, List.take_append_drop]
theorem deleteAgr_at (σ : List Blk) (b n : Nat) (g : Nat → Agr) (i : Nat) (hb : σ[b]? = some (.arr 6 n fun i => Agr.enc (g i))) (hi : i < n) (hn : n < 1000000000) : CS Tryz.prog 30 [.ms b 6 0 n, .d (I i), .d (I (i + 1))] σ fun r σ' X => r = .ms b 6 0 (n - 1) ∧ σ' = σ.set b (.arr 6 (n - 1) fun q => Agr.enc (without g i q)) ∧ X = [] := by
  obtain ⟨h1, h2⟩ := split_at hb
  have h := deleteAgr_cs (σ.take b) (σ.drop (b + 1)) n g i hi hn
  rw [← h1, h2] at h
  refine h.mono fun r σ' X ⟨h3, h4, h5⟩ => ⟨h4, ?_, h3⟩
  rw [h5]
  apply List.ext_getElem?
  intro k
  rw [List.getElem?_set, List.getElem?_append, h2]
  rcases Nat.lt_trichotomy k b with h | h | h
  · rw [if_pos h, if_neg (by omega), List.getElem?_take, if_pos h]
  · subst h
    rw [if_neg (by omega), if_pos rfl, if_pos (List.getElem?_eq_some_iff.1 hb).1]; simp
  · rw [if_neg (by omega), if_neg (by omega)]
    obtain ⟨q, rfl⟩ : ∃ q, k = b + 1 + q := ⟨k - (b + 1), by omega⟩
    rw [show b + 1 + q - b = q + 1 by omega]; simp
theorem deletePmt_at (σ : List Blk) (b n : Nat) (g : Nat → Pmt) (i : Nat) (hb : σ[b]? = some (.arr 6 n fun i => Pmt.enc (g i))) (hi : i < n) (hn : n < 1000000000) : CS Tryz.prog 31 [.ms b 6 0 n, .d (I i), .d (I (i + 1))] σ fun r σ' X => r = .ms b 6 0 (n - 1) ∧ σ' = σ.set b (.arr 6 (n - 1) fun q => Pmt.enc (without g i q)) ∧ X = [] := by
  obtain ⟨h1, h2⟩ := split_at hb
  have h := deletePmt_cs (σ.take b) (σ.drop (b + 1)) n g i hi hn
  rw [← h1, h2] at h
  refine h.mono fun r σ' X ⟨h3, h4, h5⟩ => ⟨h4, ?_, h3⟩
  rw [h5]
  apply List.ext_getElem?
  intro k
  rw [List.getElem?_set, List.getElem?_append, h2]
  rcases Nat.lt_trichotomy k b with h | h | h
  · rw [if_pos h, if_neg (by omega), List.getElem?_take, if_pos h]
  · subst h
    rw [if_neg (by omega), if_pos rfl, if_pos (List.getElem?_eq_some_iff.1 hb).1]; simp
  · rw [if_neg (by omega), if_neg (by omega)]
    obtain ⟨q, rfl⟩ : ∃ q, k = b + 1 + q := ⟨k - (b + 1), by omega⟩
    rw [show b + 1 + q - b = q + 1 by omega]; simp
end Go.Proofs.YtkochmppmpmddaaGreat

/-! Dv -/
namespace Go.Proofs.YtkochmppmpmddaaGreat
open Go.Abs Go.Arch
set_option linter.unusedVariables false
set_option linter.unusedSimpArgs false
set_option maxRecDepth 100000
set_option maxHeartbeats 2000000
attribute [go_sem] Pol.woA Pol.woM
theorem decide_ok2 {n : Nat} {g : Nat → Row} {p : Pol} {r u d : Int} (h : (decideR n g p r u d).2 = 0) : askR n g p r u d = 0 ∧ decideR n g p r u d = (decW n g p r u d, 0) := by
  unfold decideR at h ⊢
  split
  · rename_i hn; rw [if_pos hn] at h; exact absurd h hn
  · rename_i hn; exact ⟨Decidable.not_not.1 hn, rfl⟩
theorem decide_ok_at {n : Nat} {g : Nat → Row} {p : Pol} {r u d : Int} (h : askR n g p r u d = 0) : decideR n g p r u d = (decW n g p r u d, 0) := by
  unfold decideR; rw [if_neg (by simp [h])]
theorem law35_PolicyFurther_cs (σ : List Blk) (n : Nat) (g : Nat → Row) (p : Pol) (x0 x1 x2 : Int) (hs : p.ns ≤ 9223372036854775807) (hq : p.np ≤ 9223372036854775807) (hσ : σ[0]? = some (.loc 0)) : CSF Tryz.prog 8 [.d (SL none 3 Row.enc n g), .agg (p.enc.map .d), .agg [.d (I x0), .d (I x1), .d (I x2)]] σ (.d (B true)) := by
  refine CSF.of_body T.en8 Tryz.func8 rfl (by simp [Tryz.ntmps8]) (by simp [go_sem]) fun hwf => ?_
  refine awp_reg_seq fun K hK => ?_
  simp [go_sem, Tryz.ntmps8]
  repeat refine ⟨by omega, ?_⟩
  refine hK _ ?_; clear hK K
  refine awp_seq ?_
  refine awp_reg_seq fun K hK => ?_
  simp [go_sem]
  repeat refine ⟨by omega, ?_⟩
  refine CSk.mk (law35_awake_cs _ (loc_app hσ)) ?_
  simp [go_sem]
  repeat refine ⟨by omega, ?_⟩
  refine hK _ ?_; clear hK K
  refine awp_forget [0, 4, 5, 18] (by simp only [restr, List.contains_cons, List.contains_nil, Nat.reduceBEq, Bool.or_false, Bool.or_true, Bool.true_or, Bool.false_or, if_true, if_false, Bool.false_eq_true]; rfl) ?_
  refine awp_cond rfl (fun c0 => ?_) (fun c0 => ?_)
  · have d0 := c0; try simp at d0
  · have d0 := c0; try simp at d0
    refine awp_skip ?_
    refine awp_seq ?_
    refine awp_reg_seq fun K hK => ?_
    simp [go_sem, c0, d0]
    repeat refine ⟨by omega, ?_⟩
    refine CSk.mk (ref35_Few_cs _ none n g p hs hq) ?_
    simp [go_sem, c0, d0]
    repeat refine ⟨by omega, ?_⟩
    refine hK _ ?_; clear hK K
    refine awp_forget [0, 4, 5, 22] (by simp only [restr, List.contains_cons, List.contains_nil, Nat.reduceBEq, Bool.or_false, Bool.or_true, Bool.true_or, Bool.false_or, if_true, if_false, Bool.false_eq_true]; rfl) ?_
    refine awp_cond rfl (fun c1 => ?_) (fun c1 => ?_)
    · have d1 := c1; try simp at d1
      refine awp_reg_seq fun K hK => ?_
      simp [go_sem, c0, d0, c1, d1]
      repeat refine ⟨by omega, ?_⟩
      refine hK _ ?_; clear hK K
      refine awp_ret ?_
      simp [go_sem, Tryz.results8, c0, d0, c1, d1] <;> omega
    · have d1 := c1; try simp at d1
      obtain ⟨hp, hn⟩ := few_ok d1
      refine awp_skip ?_
      apply awp_own_seq 16 14 15 T.mixed (by kernel_rfl)
      · intro τ K hK
        simp [go_sem, c0, d0, c1, d1]
        repeat refine ⟨by omega, ?_⟩
        refine CSg.mk (cloneRow_cs _ none n g (by omega)) ?_
        simp [go_sem, c0, d0, c1, d1]
        repeat refine ⟨by omega, ?_⟩
        refine CSg.mk (law35_cp_cs _ p hp) ?_
        simp [go_sem, c0, d0, c1, d1]
        repeat refine ⟨by omega, ?_⟩
        refine CSg.mk (policy_Decide_cs _ none n g p x0 x1 x2 (by omega) hp (loc_app hσ)) ?_
        simp [go_sem, c0, d0, c1, d1]
        repeat refine ⟨by omega, ?_⟩
        exact hK _ _
      intro K hK
      simp [go_sem, c0, d0, c1, d1]
      repeat refine ⟨by omega, ?_⟩
      refine hK _ ?_; clear hK K
      refine awp_seq ?_
      refine awp_reg_seq fun K hK => ?_
      simp [go_sem, c0, d0, c1, d1]
      repeat refine ⟨by omega, ?_⟩
      refine hK _ ?_; clear hK K
      refine awp_forget [0, 4, 5, 7, 38] (by simp only [restr, List.contains_cons, List.contains_nil, Nat.reduceBEq, Bool.or_false, Bool.or_true, Bool.true_or, Bool.false_or, if_true, if_false, Bool.false_eq_true]; rfl) ?_
      refine awp_cond rfl (fun c2 => ?_) (fun c2 => ?_)
      · have d2 := c2; try simp at d2
        refine awp_reg_seq fun K hK => ?_
        simp [go_sem, c0, d0, c1, d1, c2, d2]
        repeat refine ⟨by omega, ?_⟩
        refine hK _ ?_; clear hK K
        refine awp_ret ?_
        simp [go_sem, Tryz.results8, c0, d0, c1, d1, c2, d2] <;> omega
      · have d2 := c2; try simp at d2
        obtain ⟨hak, hz⟩ := decide_ok2 d2
        refine awp_skip ?_
        refine awp_seq ?_
        refine awp_reg_seq fun K hK => ?_
        simp [go_sem, c0, d0, c1, d1, c2, d2, hz]
        repeat refine ⟨by omega, ?_⟩
        refine hK _ ?_; clear hK K
        refine awp_block ?_
        refine awp_forget [0, 4, 5, 7, 41, 42] (by simp [go_sem, restr]; rfl) ?_
        refine awp_mv [σ.length + 6, σ.length + 5] (by simp) ?_
        refine awp_loopU (α := Nat) (fun i => [(42, .d (I i))]) (fun i => _) (fun i => i ≤ p.na) (fun i => p.na - i) 0 (by simp [go_sem]) (rfl) (by simp) ?_
        rintro i hi
        refine awp_reg_seq fun K hK => ?_
        simp [go_sem, c0, d0, c1, d1, c2, d2, hz, wrap_succ (i := i) (by have := hp.na; omega)]
        repeat refine ⟨by omega, ?_⟩
        refine hK _ ?_; clear hK K
        refine awp_seq ?_
        refine awp_forget [0, 4, 5, 7, 41, 42, 43] (by simp only [restr, List.contains_cons, List.contains_nil, Nat.reduceBEq, Bool.or_false, Bool.or_true, Bool.true_or, Bool.false_or, if_true, if_false, Bool.false_eq_true]; rfl) ?_
        refine awp_cond rfl (fun c3 => ?_) (fun c3 => ?_)
        · have d3 := c3; try simp at d3
          obtain ⟨ha2, hgr⟩ := less_agr d3 hak
          have hz2 := decide_ok_at ha2
          have hp2 := polOk_woA hp i
          simp only [Pol.woA] at hz2 hgr
          refine awp_skip ?_
          refine awp_seq ?_
          refine awp_block ?_
          refine awp_reg_seq fun K hK => ?_
          simp [go_sem, c0, d0, c1, d1, c2, d2, hz, wrap_succ (i := i) (by have := hp.na; omega), c3, d3, hz2]
          repeat refine ⟨by omega, ?_⟩
          refine hK _ ?_; clear hK K
          refine awp_reg_seq fun K hK => ?_
          simp [go_sem, c0, d0, c1, d1, c2, d2, hz, wrap_succ (i := i) (by have := hp.na; omega), c3, d3, hz2]
          repeat refine ⟨by omega, ?_⟩
          refine CSk.gen (law35_cpA_cs _ p hp) ?_; rintro r σ' X ⟨rfl, rfl, xb, yb, rfl⟩
          simp only [List.length_append, List.length_cons, List.length_nil, Nat.zero_add, Nat.reduceAdd, Nat.add_assoc]
          simp [go_sem, c0, d0, c1, d1, c2, d2, hz, wrap_succ (i := i) (by have := hp.na; omega), c3, d3, hz2]
          repeat refine ⟨by omega, ?_⟩
          refine hK _ ?_; clear hK K
          refine awp_reg_seq fun K hK => ?_
          simp [go_sem, c0, d0, c1, d1, c2, d2, hz, wrap_succ (i := i) (by have := hp.na; omega), c3, d3, hz2]
          try simp (disch := omega) only [wrapI]
          repeat refine ⟨by omega, ?_⟩
          refine CSk.gen (deleteAgr_at _ (σ.length + 6) p.na p.ga i (by simp [Agr.enc]) d3 (by have := hp.na; omega)) ?_; rintro r σ' X ⟨rfl, rfl, rfl⟩
          simp [go_sem, c0, d0, c1, d1, c2, d2, hz, wrap_succ (i := i) (by have := hp.na; omega), c3, d3, hz2]
          try simp (disch := omega) only [wrapI]
          repeat refine ⟨by omega, ?_⟩
          refine hK _ ?_; clear hK K
          refine awp_freeze (σ.length + 6) (by simp [go_sem]; first | exact ⟨rfl, rfl, rfl⟩ | exact ⟨rfl, rfl⟩ | rfl) (by simp [go_sem]; rfl) (by simp [go_sem, frzS, hwf.frz, hwf.frz0]; rfl) ?_
          apply awp_own_seq 15 13 14 T.mixed (by kernel_rfl)
          · intro τ K hK
            simp [go_sem, c0, d0, c1, d1, c2, d2, hz, wrap_succ (i := i) (by have := hp.na; omega), c3, d3, hz2]
            repeat refine ⟨by omega, ?_⟩
            refine CSg.mk (cloneRow_cs _ none n g (by omega)) ?_
            simp [go_sem, c0, d0, c1, d1, c2, d2, hz, wrap_succ (i := i) (by have := hp.na; omega), c3, d3, hz2]
            repeat refine ⟨by omega, ?_⟩
            refine CSg.mk (policy_Decide_cs _ none n g (p.woA i) x0 x1 x2 (by omega) hp2 (loc_app hσ)) ?_
            simp [go_sem, c0, d0, c1, d1, c2, d2, hz, wrap_succ (i := i) (by have := hp.na; omega), c3, d3, hz2]
            repeat refine ⟨by omega, ?_⟩
            exact hK _ _
          intro K hK
          simp [go_sem, c0, d0, c1, d1, c2, d2, hz, wrap_succ (i := i) (by have := hp.na; omega), c3, d3, hz2]
          repeat refine ⟨by omega, ?_⟩
          refine hK _ ?_; clear hK K
          refine awp_reg_seq fun K hK => ?_
          simp [go_sem, c0, d0, c1, d1, c2, d2, hz, wrap_succ (i := i) (by have := hp.na; omega), c3, d3, hz2]
          repeat refine ⟨by omega, ?_⟩
          refine hK _ ?_; clear hK K
          refine awp_forget [0, 4, 5, 7, 41, 42, 77] (by simp only [restr, List.contains_cons, List.contains_nil, Nat.reduceBEq, Bool.or_false, Bool.or_true, Bool.true_or, Bool.false_or, if_true, if_false, Bool.false_eq_true]; rfl) ?_
          refine awp_cond rfl (fun c4 => ?_) (fun c4 => ?_)
          · have d4 := c4; try simp at d4
            have h9 := hgr d4.1
            rw [h9] at d4
            exact absurd d4.2 (by simp)
          · have d4 := c4; try simp at d4
            refine awp_skip ?_
            refine awp_reg_end fun K hK => ?_
            simp [go_sem, c0, d0, c1, d1, c2, d2, hz, wrap_succ (i := i) (by have := hp.na; omega), c3, d3, hz2, c4, d4]
            try simp (disch := omega) only [wrapI]
            repeat refine ⟨by omega, ?_⟩
            refine hK _ ?_; clear hK K
            refine ⟨i + 1, back_of' (by simp) ((leaves_app (by simp [go_sem]))) (by (simp [go_sem, wrap_succ (i := i) (by have := hp.na; omega), c0, d0, c1, d1, c2, d2, hz, wrap_succ (i := i) (by have := hp.na; omega), c3, d3, hz2, c4, d4] <;> omega)), by omega, by first | omega | (dsimp only; omega)⟩
        · have d3 := c3; try simp at d3
          refine awp_exit ?_
          refine awp_seq ?_
          refine awp_reg_seq fun K hK => ?_
          simp [go_sem, c0, d0, c1, d1, c2, d2, hz, wrap_succ (i := i) (by have := hp.na; omega), c3, d3]
          repeat refine ⟨by omega, ?_⟩
          refine hK _ ?_; clear hK K
          refine awp_block ?_
          refine awp_forget [0, 4, 5, 7, 81, 82] (by simp [go_sem, restr]; rfl) ?_
          refine awp_mv [σ.length + 6, σ.length + 5] (by simp) ?_
          refine awp_loopU (α := Nat) (fun q => [(82, .d (I q))]) (fun q => _) (fun q => q ≤ p.nm) (fun q => p.nm - q) 0 (by simp [go_sem]) (rfl) (by simp) ?_
          rintro q hi2
          refine awp_reg_seq fun K hK => ?_
          simp [go_sem, c0, d0, c1, d1, c2, d2, hz, wrap_succ (i := i) (by have := hp.na; omega), c3, d3, wrap_succ (i := q) (by have := hp.nm; omega)]
          repeat refine ⟨by omega, ?_⟩
          refine hK _ ?_; clear hK K
          refine awp_seq ?_
          refine awp_forget [0, 4, 5, 7, 81, 82, 83] (by simp only [restr, List.contains_cons, List.contains_nil, Nat.reduceBEq, Bool.or_false, Bool.or_true, Bool.true_or, Bool.false_or, if_true, if_false, Bool.false_eq_true]; rfl) ?_
          refine awp_cond rfl (fun c5 => ?_) (fun c5 => ?_)
          · have d5 := c5; try simp at d5
            obtain ⟨ha2, hgr⟩ := less_pmt d5 hak
            have hz2 := decide_ok_at ha2
            have hp2 := polOk_woM hp q
            simp only [Pol.woM] at hz2 hgr
            refine awp_skip ?_
            refine awp_seq ?_
            refine awp_block ?_
            refine awp_reg_seq fun K hK => ?_
            simp [go_sem, c0, d0, c1, d1, c2, d2, hz, wrap_succ (i := i) (by have := hp.na; omega), c3, d3, wrap_succ (i := q) (by have := hp.nm; omega), c5, d5, hz2]
            repeat refine ⟨by omega, ?_⟩
            refine hK _ ?_; clear hK K
            refine awp_reg_seq fun K hK => ?_
            simp [go_sem, c0, d0, c1, d1, c2, d2, hz, wrap_succ (i := i) (by have := hp.na; omega), c3, d3, wrap_succ (i := q) (by have := hp.nm; omega), c5, d5, hz2]
            repeat refine ⟨by omega, ?_⟩
            refine CSk.gen (law35_cpM_cs _ p hp) ?_; rintro r σ' X ⟨rfl, rfl, xb, yb, rfl⟩
            simp only [List.length_append, List.length_cons, List.length_nil, Nat.zero_add, Nat.reduceAdd, Nat.add_assoc]
            simp [go_sem, c0, d0, c1, d1, c2, d2, hz, wrap_succ (i := i) (by have := hp.na; omega), c3, d3, wrap_succ (i := q) (by have := hp.nm; omega), c5, d5, hz2]
            repeat refine ⟨by omega, ?_⟩
            refine hK _ ?_; clear hK K
            refine awp_reg_seq fun K hK => ?_
            simp [go_sem, c0, d0, c1, d1, c2, d2, hz, wrap_succ (i := i) (by have := hp.na; omega), c3, d3, wrap_succ (i := q) (by have := hp.nm; omega), c5, d5, hz2]
            try simp (disch := omega) only [wrapI]
            repeat refine ⟨by omega, ?_⟩
            refine CSk.gen (deletePmt_at _ (σ.length + 6) p.nm p.gm q (by simp [Pmt.enc]) d5 (by have := hp.nm; omega)) ?_; rintro r σ' X ⟨rfl, rfl, rfl⟩
            simp [go_sem, c0, d0, c1, d1, c2, d2, hz, wrap_succ (i := i) (by have := hp.na; omega), c3, d3, wrap_succ (i := q) (by have := hp.nm; omega), c5, d5, hz2]
            try simp (disch := omega) only [wrapI]
            repeat refine ⟨by omega, ?_⟩
            refine hK _ ?_; clear hK K
            refine awp_freeze (σ.length + 6) (by simp [go_sem]; first | exact ⟨rfl, rfl, rfl⟩ | exact ⟨rfl, rfl⟩ | rfl) (by simp [go_sem]; rfl) (by simp [go_sem, frzS, hwf.frz, hwf.frz0]; rfl) ?_
            apply awp_own_seq 15 13 14 T.mixed (by kernel_rfl)
            · intro τ K hK
              simp [go_sem, c0, d0, c1, d1, c2, d2, hz, wrap_succ (i := i) (by have := hp.na; omega), c3, d3, wrap_succ (i := q) (by have := hp.nm; omega), c5, d5, hz2]
              repeat refine ⟨by omega, ?_⟩
              refine CSg.mk (cloneRow_cs _ none n g (by omega)) ?_
              simp [go_sem, c0, d0, c1, d1, c2, d2, hz, wrap_succ (i := i) (by have := hp.na; omega), c3, d3, wrap_succ (i := q) (by have := hp.nm; omega), c5, d5, hz2]
              repeat refine ⟨by omega, ?_⟩
              refine CSg.mk (policy_Decide_cs _ none n g (p.woM q) x0 x1 x2 (by omega) hp2 (loc_app hσ)) ?_
              simp [go_sem, c0, d0, c1, d1, c2, d2, hz, wrap_succ (i := i) (by have := hp.na; omega), c3, d3, wrap_succ (i := q) (by have := hp.nm; omega), c5, d5, hz2]
              repeat refine ⟨by omega, ?_⟩
              exact hK _ _
            intro K hK
            simp [go_sem, c0, d0, c1, d1, c2, d2, hz, wrap_succ (i := i) (by have := hp.na; omega), c3, d3, wrap_succ (i := q) (by have := hp.nm; omega), c5, d5, hz2]
            repeat refine ⟨by omega, ?_⟩
            refine hK _ ?_; clear hK K
            refine awp_reg_seq fun K hK => ?_
            simp [go_sem, c0, d0, c1, d1, c2, d2, hz, wrap_succ (i := i) (by have := hp.na; omega), c3, d3, wrap_succ (i := q) (by have := hp.nm; omega), c5, d5, hz2]
            repeat refine ⟨by omega, ?_⟩
            refine hK _ ?_; clear hK K
            refine awp_forget [0, 4, 5, 7, 81, 82, 117] (by simp only [restr, List.contains_cons, List.contains_nil, Nat.reduceBEq, Bool.or_false, Bool.or_true, Bool.true_or, Bool.false_or, if_true, if_false, Bool.false_eq_true]; rfl) ?_
            refine awp_cond rfl (fun c6 => ?_) (fun c6 => ?_)
            · have d6 := c6; try simp at d6
              have h9 := hgr d6.1
              rw [h9] at d6
              exact absurd d6.2 (by simp)
            · have d6 := c6; try simp at d6
              refine awp_skip ?_
              refine awp_reg_end fun K hK => ?_
              simp [go_sem, c0, d0, c1, d1, c2, d2, hz, wrap_succ (i := i) (by have := hp.na; omega), c3, d3, wrap_succ (i := q) (by have := hp.nm; omega), c5, d5, hz2, c6, d6]
              try simp (disch := omega) only [wrapI]
              repeat refine ⟨by omega, ?_⟩
              refine hK _ ?_; clear hK K
              refine ⟨q + 1, back_of' (by simp) ((leaves_app (by simp [go_sem]))) (by (simp [go_sem, wrap_succ (i := q) (by have := hp.nm; omega), c0, d0, c1, d1, c2, d2, hz, wrap_succ (i := i) (by have := hp.na; omega), c3, d3, wrap_succ (i := q) (by have := hp.nm; omega), c5, d5, hz2, c6, d6] <;> omega)), by omega, by first | omega | (dsimp only; omega)⟩
          · have d5 := c5; try simp at d5
            refine awp_exit ?_
            refine awp_reg_seq fun K hK => ?_
            simp [go_sem, c0, d0, c1, d1, c2, d2, hz, wrap_succ (i := i) (by have := hp.na; omega), c3, d3, wrap_succ (i := q) (by have := hp.nm; omega), c5, d5]
            repeat refine ⟨by omega, ?_⟩
            refine hK _ ?_; clear hK K
            refine awp_ret ?_
            simp [go_sem, Tryz.results8, c0, d0, c1, d1, c2, d2, hz, wrap_succ (i := i) (by have := hp.na; omega), c3, d3, wrap_succ (i := q) (by have := hp.nm; omega), c5, d5] <;> omega
end Go.Proofs.YtkochmppmpmddaaGreat
