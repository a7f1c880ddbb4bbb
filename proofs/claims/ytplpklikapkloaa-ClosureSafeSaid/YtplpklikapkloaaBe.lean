/- Contracts of the closure rules, written by a program along closure1.spec. -/
import Derived.Test.YtplpklikapkloaaBd
namespace Go.Proofs.Ytplpklikapkloaa
open Go.Abs Go.Arch
set_option linter.unusedVariables false
set_option linter.unusedSimpArgs false
set_option maxRecDepth 100000
set_option maxHeartbeats 400000

structure Dating where
  First : Int
  Last : Int
def Dating.enc (m : Dating) : List D := [I m.First, I m.Last]
structure Ground where
  Kind : Int
  Source : Int
  Unit : Int
  Until : Int
def Ground.enc (m : Ground) : List D := [I m.Kind, I m.Source, I m.Unit, I m.Until]
def Ground.zero : Ground := ⟨0, 0, 0, 0⟩
def Rule.zero : Rule := ⟨0, 0, 0, false, ⟨0, 0⟩⟩
attribute [go_sem] Dating.enc Ground.enc
def datOk (m : Dating) : Bool := decide (0 ≤ m.First) && decide (m.First ≤ m.Last) && decide (m.Last ≤ 1048575)
def datChk (m : Dating) : Int := if datOk m = true then 0 else 1
theorem datChk_no {m : Dating} (h : (m.First < 0 ∨ m.Last < m.First) ∨ 1048575 < m.Last) : datChk m = 1 := by
  unfold datChk datOk; rw [if_neg]; simp; omega
theorem datChk_ok {m : Dating} (h : (0 ≤ m.First ∧ m.First ≤ m.Last) ∧ m.Last ≤ 1048575) : datChk m = 0 := by
  unfold datChk datOk; rw [if_pos]; simpa using h
theorem datChk_0 {m : Dating} : datChk m = 0 ↔ datOk m = true := by unfold datChk; split <;> simp_all
theorem datOk_day {m : Dating} (h : datOk m = true) : isDay m.Last := by
  unfold datOk at h; simp at h; unfold isDay; omega
theorem ofD_nn {y m k : Int} (h1 : 1600 ≤ y) (h2 : y ≤ 4700) (h3 : 1 ≤ m) (h4 : m ≤ 12) (h5 : 1 ≤ k) : 0 ≤ ofD y m k := by
  have := beg_bd h1 h2
  have := cum_bd y h3 (by omega)
  unfold ofD; omega
theorem yearsF_bd {d n : Int} (h : isDay d) (h0 : 0 ≤ n) : isDay (yearsF d n) := by
  have hs := date_spec h.1 h.2
  have hr := yearOf_range h.1 h.2
  unfold yearsF isDay
  dsimp only
  split
  · omega
  · have hp := lenM_pos (yearOf d + n) (monD d)
    have := ofD_nn (y := yearOf d + n) (m := monD d) (k := min (dayD d) (lenM (yearOf d + n) (monD d))) (by omega) (by omega) hs.1 hs.2.1 (by omega)
    split <;> omega
theorem yearsR_bd (d n : Int) : isDay (yearsR d n).1 := by
  unfold yearsR
  split
  · rename_i h; exact yearsF_bd h.1 h.2.1
  · unfold isDay; simp
theorem yearEndF_bd {d : Int} (h : isDay d) : isDay (yearEndF d) := by
  have hr := yearOf_range h.1 h.2
  have hb := beg_bd (y := yearOf d) (by omega) (by omega)
  have hs := beg_strict (a := yearOf d) (b := yearOf d + 1) (by omega)
  unfold yearEndF isDay; omega
theorem yearEndR_bd (d : Int) : isDay (yearEndR d).1 := by
  unfold yearEndR
  split
  · rename_i h; exact yearEndF_bd h
  · unfold isDay; simp
def lastF (r : Rule) (m : Dating) : Int := if r.YearEnd = true then (yearEndR (yearsR m.Last r.Years).1).1 else (yearsR m.Last r.Years).1
theorem lastF_bd (r : Rule) (m : Dating) : isDay (lastF r m) := by
  unfold lastF
  split
  · exact yearEndR_bd _
  · exact yearsR_bd _ _


theorem dating_Check_cs (σ : List Blk) (m : Dating) : CSF Try.prog 37 [.agg (m.enc.map .d)] σ (.d (I (datChk m))) := by
  refine CSF.of_body T.en37 Try.func37 rfl (by simp [Try.ntmps37]) (by simp [go_sem]) fun hwf => ?_
  refine awp_reg_seq fun K hK => ?_
  simp [go_sem, Try.ntmps37]
  repeat refine ⟨by omega, ?_⟩
  refine hK _ ?_; clear hK K
  refine awp_seq ?_
  refine awp_reg_seq fun K hK => ?_
  simp [go_sem]
  repeat refine ⟨by omega, ?_⟩
  refine hK _ ?_; clear hK K
  refine awp_forget [17] (by simp only [restr, List.contains_cons, List.contains_nil, Nat.reduceBEq, Bool.or_false, Bool.or_true, Bool.true_or, Bool.false_or, if_true, if_false, Bool.false_eq_true]; rfl) ?_
  refine awp_cond rfl (fun c0 => ?_) (fun c0 => ?_)
  · have d0 := c0; try simp at d0
    refine awp_reg_seq fun K hK => ?_
    simp [go_sem, c0, d0]
    repeat refine ⟨by omega, ?_⟩
    refine hK _ ?_; clear hK K
    refine awp_ret ?_
    rw [datChk_no d0]; simp [go_sem, Try.results37]
  · have d0 := c0; try simp at d0
    refine awp_skip ?_
    refine awp_reg_seq fun K hK => ?_
    simp [go_sem, c0, d0]
    repeat refine ⟨by omega, ?_⟩
    refine hK _ ?_; clear hK K
    refine awp_ret ?_
    rw [datChk_ok d0]; simp [go_sem, Try.results37]

theorem ref03_Good_cs (σ : List Blk) (m : Dating) : CSF Try.prog 50 [.agg (m.enc.map .d)] σ (.d (B (datOk m))) := by
  refine CSF.of_body T.en50 Try.func50 rfl (by simp [Try.ntmps50]) (by simp [go_sem]) fun hwf => ?_
  refine awp_reg_seq fun K hK => ?_
  simp [go_sem, Try.ntmps50]
  repeat refine ⟨by omega, ?_⟩
  refine hK _ ?_; clear hK K
  refine awp_reg_seq fun K hK => ?_
  simp [go_sem]
  repeat refine ⟨by omega, ?_⟩
  refine hK _ ?_; clear hK K
  refine awp_ret ?_
  simp [go_sem, Try.results50, datOk] <;> omega

theorem ref03_Check_cs (σ : List Blk) (m : Dating) : CSF Try.prog 39 [.agg (m.enc.map .d)] σ (.d (I (datChk m))) := by
  refine CSF.of_body T.en39 Try.func39 rfl (by simp [Try.ntmps39]) (by simp [go_sem]) fun hwf => ?_
  refine awp_reg_seq fun K hK => ?_
  simp [go_sem, Try.ntmps39]
  repeat refine ⟨by omega, ?_⟩
  refine hK _ ?_; clear hK K
  refine awp_seq ?_
  refine awp_reg_seq fun K hK => ?_
  simp [go_sem]
  repeat refine ⟨by omega, ?_⟩
  refine CSk.mk (ref03_Good_cs _ _) ?_
  simp [go_sem]
  repeat refine ⟨by omega, ?_⟩
  refine hK _ ?_; clear hK K
  refine awp_cond rfl (fun c0 => ?_) (fun c0 => ?_)
  · have d0 := c0; try simp at d0
    refine awp_reg_seq fun K hK => ?_
    simp [go_sem, c0, d0]
    repeat refine ⟨by omega, ?_⟩
    refine hK _ ?_; clear hK K
    refine awp_ret ?_
    simp [go_sem, Try.results39, datChk, c0, d0] <;> omega
  · have d0 := c0; try simp at d0
    refine awp_skip ?_
    refine awp_reg_seq fun K hK => ?_
    simp [go_sem, c0, d0]
    repeat refine ⟨by omega, ?_⟩
    refine hK _ ?_; clear hK K
    refine awp_ret ?_
    simp [go_sem, Try.results39, datChk, c0, d0] <;> omega

theorem closure_until_cs (σ : List Blk) (r : Rule) (m : Dating) : CSF Try.prog 38 [.agg (r.enc.map .d), .agg (m.enc.map .d)] σ (.d (I (lastF r m + 1))) := by
  refine CSF.of_body T.en38 Try.func38 rfl (by simp [Try.ntmps38]) (by simp [go_sem]) fun hwf => ?_
  refine awp_reg_seq fun K hK => ?_
  simp [go_sem, Try.ntmps38]
  repeat refine ⟨by omega, ?_⟩
  refine hK _ ?_; clear hK K
  refine awp_reg_seq fun K hK => ?_
  simp [go_sem]
  repeat refine ⟨by omega, ?_⟩
  refine CSk.mk (day_Years_cs _ m.Last r.Years) ?_
  simp [go_sem]
  repeat refine ⟨by omega, ?_⟩
  refine hK _ ?_; clear hK K
  refine awp_seq ?_
  refine awp_reg_seq fun K hK => ?_
  simp [go_sem]
  repeat refine ⟨by omega, ?_⟩
  refine hK _ ?_; clear hK K
  refine awp_forget [5, 16] (by simp only [restr, List.contains_cons, List.contains_nil, Nat.reduceBEq, Bool.or_false, Bool.or_true, Bool.true_or, Bool.false_or, if_true, if_false, Bool.false_eq_true]; rfl) ?_
  refine awp_cond rfl (fun c0 => ?_) (fun c0 => ?_)
  · have d0 := c0; try simp at d0
    have hl : lastF r m = (yearEndR (yearsR m.Last r.Years).1).1 := by unfold lastF; rw [if_pos c0]
    have hb := lastF_bd r m
    rw [hl] at hb ⊢
    unfold isDay at hb
    refine awp_reg_end fun K hK => ?_
    simp [go_sem, c0, d0]
    repeat refine ⟨by omega, ?_⟩
    refine CSk.mk (day_YearEnd_cs _ (yearsR m.Last r.Years).1) ?_
    simp [go_sem, c0, d0]
    repeat refine ⟨by omega, ?_⟩
    refine hK _ ?_; clear hK K
    refine awp_reg_seq fun K hK => ?_
    simp [go_sem, c0, d0]
    try simp (disch := omega) only [wrapI]
    repeat refine ⟨by omega, ?_⟩
    refine hK _ ?_; clear hK K
    refine awp_ret ?_
    simp [go_sem, Try.results38, c0, d0] <;> omega
  · have d0 := c0; try simp at d0
    have hl : lastF r m = (yearsR m.Last r.Years).1 := by unfold lastF; rw [if_neg (by simp [c0])]
    have hb := lastF_bd r m
    rw [hl] at hb ⊢
    unfold isDay at hb
    refine awp_skip ?_
    refine awp_reg_seq fun K hK => ?_
    simp [go_sem, c0, d0]
    try simp (disch := omega) only [wrapI]
    repeat refine ⟨by omega, ?_⟩
    refine hK _ ?_; clear hK K
    refine awp_ret ?_
    simp [go_sem, Try.results38, c0, d0] <;> omega

def untilR (r : Rule) (m : Dating) : Int × Int := if formed r = false then (0, 2) else if datChk m ≠ 0 then (0, 1) else (lastF r m + 1, 0)
theorem closure_Until_cs (σ : List Blk) (r : Rule) (m : Dating) : CSF Try.prog 18 [.agg (r.enc.map .d), .agg (m.enc.map .d)] σ (.tup [.d (I (untilR r m).1), .d (I (untilR r m).2)]) := by
  refine CSF.of_body T.en18 Try.func18 rfl (by simp [Try.ntmps18]) (by simp [go_sem]) fun hwf => ?_
  refine awp_reg_seq fun K hK => ?_
  simp [go_sem, Try.ntmps18]
  repeat refine ⟨by omega, ?_⟩
  refine hK _ ?_; clear hK K
  refine awp_seq ?_
  refine awp_block ?_
  refine awp_reg_seq fun K hK => ?_
  simp [go_sem]
  repeat refine ⟨by omega, ?_⟩
  refine CSk.mk (closure_formed_cs _ r) ?_
  simp [go_sem]
  repeat refine ⟨by omega, ?_⟩
  refine hK _ ?_; clear hK K
  refine awp_forget [2, 3, 6] (by simp only [restr, List.contains_cons, List.contains_nil, Nat.reduceBEq, Bool.or_false, Bool.or_true, Bool.true_or, Bool.false_or, if_true, if_false, Bool.false_eq_true]; rfl) ?_
  refine awp_cond rfl (fun c0 => ?_) (fun c0 => ?_)
  · have d0 := c0; try simp at d0
    refine awp_reg_seq fun K hK => ?_
    simp [go_sem, c0, d0]
    repeat refine ⟨by omega, ?_⟩
    refine hK _ ?_; clear hK K
    refine awp_ret ?_
    simp [go_sem, Try.results18, untilR, c0, d0] <;> omega
  · have d0 := c0; try simp at d0
    refine awp_reg_seq fun K hK => ?_
    simp [go_sem, c0, d0]
    repeat refine ⟨by omega, ?_⟩
    refine CSk.mk (dating_Check_cs _ m) ?_
    simp [go_sem, c0, d0]
    repeat refine ⟨by omega, ?_⟩
    refine hK _ ?_; clear hK K
    refine awp_forget [2, 3, 10] (by simp only [restr, List.contains_cons, List.contains_nil, Nat.reduceBEq, Bool.or_false, Bool.or_true, Bool.true_or, Bool.false_or, if_true, if_false, Bool.false_eq_true]; rfl) ?_
    refine awp_cond rfl (fun c1 => ?_) (fun c1 => ?_)
    · have d1 := c1; try simp at d1
      refine awp_reg_seq fun K hK => ?_
      simp [go_sem, c0, d0, c1, d1]
      repeat refine ⟨by omega, ?_⟩
      refine hK _ ?_; clear hK K
      refine awp_ret ?_
      simp [go_sem, Try.results18, untilR, c0, d0, c1, d1] <;> omega
    · have d1 := c1; try simp at d1
      refine awp_skip ?_
      refine awp_reg_seq fun K hK => ?_
      simp [go_sem, c0, d0, c1, d1]
      repeat refine ⟨by omega, ?_⟩
      refine CSk.mk (closure_until_cs _ r m) ?_
      simp [go_sem, c0, d0, c1, d1]
      repeat refine ⟨by omega, ?_⟩
      refine hK _ ?_; clear hK K
      refine awp_ret ?_
      simp [go_sem, Try.results18, untilR, c0, d0, c1, d1] <;> omega

def inB (k d : Int) (r : Rule) : Bool := (r.Class == k) && decide (r.In.From ≤ d) && decide (d < r.In.Until)
theorem closure_InForce_1_cs (σ : List Blk) (τ : List Blk) (r : Rule) (k d : Int) : CSF Try.prog 31 [.agg (r.enc.map .d), .ptr σ.length 0, .ptr (σ.length + 1) 0] (σ ++ .var [.d (I k)] :: .var [.d (I d)] :: τ) (.d (B (inB k d r))) := by
  refine CSF.of_body T.en31 Try.func31 rfl (by simp [Try.ntmps31]) (by simp [go_sem]) fun hwf => ?_
  refine awp_reg_seq fun K hK => ?_
  simp [go_sem, Try.ntmps31]
  repeat refine ⟨by omega, ?_⟩
  refine hK _ ?_; clear hK K
  refine awp_reg_seq fun K hK => ?_
  simp [go_sem]
  repeat refine ⟨by omega, ?_⟩
  refine hK _ ?_; clear hK K
  refine awp_ret ?_
  simp [go_sem, Try.results31, inB] <;> omega

def inForceI (n : Nat) (g : Nat → Rule) (k d : Int) : Int := idxFrom (inB k d) (lst n g) 0
theorem inForceI_lt (n : Nat) (g : Nat → Rule) (k d : Int) : inForceI n g k d < n := by
  rcases idx_spec (inB k d) (lst n g) 0 with ⟨h, _⟩ | ⟨q, h1, h2, _⟩
  · unfold inForceI; omega
  · unfold inForceI; rw [lst_length] at h1; omega
def inForceR (n : Nat) (g : Nat → Rule) (k d : Int) : Rule × Bool := if inForceI n g k d < 0 ∨ check n g ≠ 0 then (Rule.zero, false) else (g (inForceI n g k d).toNat, true)
theorem closure_InForce_cs (σ : List Blk) (c : Option Nat) (n : Nat) (g : Nat → Rule) (k d : Int) (hn : n < 1000000000) : CSF Try.prog 13 [.d (SL c 6 Rule.enc n g), .d (I k), .d (I d)] σ (.tup [.agg ((inForceR n g k d).1.enc.map .d), .d (B (inForceR n g k d).2)]) := by
  have hlt := inForceI_lt n g k d
  refine CSF.of_body T.en13 Try.func13 rfl (by simp [Try.ntmps13]) (by simp [go_sem]) fun hwf => ?_
  refine awp_reg_seq fun K hK => ?_
  simp [go_sem, Try.ntmps13]
  repeat refine ⟨by omega, ?_⟩
  refine hK _ ?_; clear hK K
  refine awp_reg_seq fun K hK => ?_
  simp [go_sem]
  repeat refine ⟨by omega, ?_⟩
  refine CSk.mk ((show CSF Try.prog 30 _ _ (.d (I (inForceI n g k d))) from indexRule_cs _ c n g _ _ (inB k d) hn (fun i hi => closure_InForce_1_cs σ _ (g i) k d))) ?_
  simp [go_sem]
  repeat refine ⟨by omega, ?_⟩
  refine hK _ ?_; clear hK K
  refine awp_seq ?_
  refine awp_reg_seq fun K hK => ?_
  simp [go_sem]
  repeat refine ⟨by omega, ?_⟩
  refine CSm.mk (closure_Check_cs _ c n g hn) ?_
  simp [go_sem]
  repeat refine ⟨by omega, ?_⟩
  refine hK _ ?_; clear hK K
  refine awp_forget [0, 6, 8, 18] (by simp only [restr, List.contains_cons, List.contains_nil, Nat.reduceBEq, Bool.or_false, Bool.or_true, Bool.true_or, Bool.false_or, if_true, if_false, Bool.false_eq_true]; rfl) ?_
  refine awp_cond rfl (fun c0 => ?_) (fun c0 => ?_)
  · have d0 := c0; try simp at d0
    refine awp_reg_seq fun K hK => ?_
    simp [go_sem, c0, d0]
    repeat refine ⟨by omega, ?_⟩
    refine hK _ ?_; clear hK K
    refine awp_ret ?_
    have hz : inForceR n g k d = (Rule.zero, false) := by unfold inForceR; rw [if_pos d0]
    rw [hz]; simp [go_sem, Try.results13, Rule.zero]
  · have d0 := c0; try simp at d0
    refine awp_skip ?_
    refine awp_reg_seq fun K hK => ?_
    simp [go_sem, c0, d0]
    repeat refine ⟨by omega, ?_⟩
    refine hK _ ?_; clear hK K
    refine awp_ret ?_
    have hz : inForceR n g k d = (g (inForceI n g k d).toNat, true) := by unfold inForceR; rw [if_neg (by omega)]
    rw [hz]; simp [go_sem, Try.results13]

def closedR (n : Nat) (g : Nat → Rule) (k : Int) (m : Dating) (d : Int) : Ground × Bool :=
  if (inForceR n g k d).2 = false ∨ datChk m ≠ 0 ∨ lastF (inForceR n g k d).1 m + 1 ≤ d then (Ground.zero, false) else (⟨1, (inForceR n g k d).1.ID, 0, lastF (inForceR n g k d).1 m + 1⟩, true)
theorem closure_Closed_cs (σ : List Blk) (c : Option Nat) (n : Nat) (g : Nat → Rule) (k : Int) (m : Dating) (d : Int) (hn : n < 1000000000) : CSF Try.prog 20 [.d (SL c 6 Rule.enc n g), .d (I k), .agg (m.enc.map .d), .d (I d)] σ (.tup [.agg ((closedR n g k m d).1.enc.map .d), .d (B (closedR n g k m d).2)]) := by
  refine CSF.of_body T.en20 Try.func20 rfl (by simp [Try.ntmps20]) (by simp [go_sem]) fun hwf => ?_
  refine awp_reg_seq fun K hK => ?_
  simp [go_sem, Try.ntmps20]
  repeat refine ⟨by omega, ?_⟩
  refine hK _ ?_; clear hK K
  refine awp_reg_seq fun K hK => ?_
  simp [go_sem]
  repeat refine ⟨by omega, ?_⟩
  refine CSk.mk (closure_InForce_cs _ c n g k d hn) ?_
  simp [go_sem]
  repeat refine ⟨by omega, ?_⟩
  refine hK _ ?_; clear hK K
  refine awp_seq ?_
  refine awp_reg_seq fun K hK => ?_
  simp [go_sem]
  repeat refine ⟨by omega, ?_⟩
  refine CSm.mk (dating_Check_cs _ m) ?_
  simp [go_sem]
  repeat refine ⟨by omega, ?_⟩
  refine CSm.mk (closure_until_cs _ (inForceR n g k d).1 m) ?_
  simp [go_sem]
  repeat refine ⟨by omega, ?_⟩
  refine hK _ ?_; clear hK K
  refine awp_forget [6, 8, 10, 32] (by simp only [restr, List.contains_cons, List.contains_nil, Nat.reduceBEq, Bool.or_false, Bool.or_true, Bool.true_or, Bool.false_or, if_true, if_false, Bool.false_eq_true]; rfl) ?_
  refine awp_cond rfl (fun c0 => ?_) (fun c0 => ?_)
  · have d0 := c0; try simp at d0
    have hz : closedR n g k m d = (Ground.zero, false) := by unfold closedR; rw [if_pos (by rcases d0 with (h | h) | h <;> simp [h])]
    refine awp_reg_seq fun K hK => ?_
    simp [go_sem, c0, d0]
    repeat refine ⟨by omega, ?_⟩
    refine hK _ ?_; clear hK K
    refine awp_ret ?_
    rw [hz]; simp [go_sem, Try.results20, Ground.zero]
  · have d0 := c0; try simp at d0
    have hz : closedR n g k m d = (⟨1, (inForceR n g k d).1.ID, 0, lastF (inForceR n g k d).1 m + 1⟩, true) := by unfold closedR; rw [if_neg (by simp [d0])]
    refine awp_skip ?_
    refine awp_draw_seq 6 T.mixed (by kernel_rfl) fun K hK => ?_
    simp [go_sem, c0, d0]
    repeat refine ⟨by omega, ?_⟩
    refine CSg.mk (closure_until_cs _ (inForceR n g k d).1 m) ?_
    simp [go_sem, c0, d0]
    repeat refine ⟨by omega, ?_⟩
    refine hK _ ?_; clear hK K
    refine awp_ret ?_
    rw [hz]; simp [go_sem, Try.results20]

theorem closure_End_1_cs (σ : List Blk) (τ : List Blk) (r : Rule) (k : Int) : CSF Try.prog 42 [.agg (r.enc.map .d), .ptr σ.length 0] (σ ++ .var [.d (I k)] :: τ) (.d (B (r.ID == k))) := by
  refine CSF.of_body T.en42 Try.func42 rfl (by simp [Try.ntmps42]) (by simp [go_sem]) fun hwf => ?_
  refine awp_reg_seq fun K hK => ?_
  simp [go_sem, Try.ntmps42]
  repeat refine ⟨by omega, ?_⟩
  refine hK _ ?_; clear hK K
  refine awp_reg_seq fun K hK => ?_
  simp [go_sem]
  repeat refine ⟨by omega, ?_⟩
  refine hK _ ?_; clear hK K
  refine awp_ret ?_
  simp [go_sem, Try.results42] <;> omega

theorem cloneRule_cs (σ : List Blk) (c : Option Nat) (n : Nat) (g : Nat → Rule) (hn : n < 1000000000) : CSF Try.prog 14 [.d (SL c 6 Rule.enc n g)] σ (.d (SL none 6 Rule.enc n g)) := by
  refine CSF.of_body T.en14 Try.func14 rfl (by simp [Try.ntmps14]) (by simp [go_sem]) fun hwf => ?_
  refine awp_reg_seq fun K hK => ?_
  simp [go_sem, Try.ntmps14]
  repeat refine ⟨by omega, ?_⟩
  refine hK _ ?_; clear hK K
  refine awp_seq ?_
  refine awp_reg_seq fun K hK => ?_
  simp [go_sem, -Bool.forall_bool]
  intro b1 hb1
  repeat refine ⟨by omega, ?_⟩
  refine hK _ ?_; clear hK K
  refine awp_cond rfl (fun c0 => ?_) (fun c0 => ?_)
  · have d0 := c0; try simp at d0
    refine awp_reg_seq fun K hK => ?_
    simp [go_sem, c0, d0]
    repeat refine ⟨by omega, ?_⟩
    refine hK _ ?_; clear hK K
    refine awp_ret ?_
    have := hb1 c0
    simp [go_sem, Try.results14, this]
  · have d0 := c0; try simp at d0
    refine awp_skip ?_
    refine awp_reg_seq fun K hK => ?_
    simp [go_sem, c0, d0]
    repeat refine ⟨by omega, ?_⟩
    refine hK _ ?_; clear hK K
    refine awp_freeze (σ.length) (by simp [go_sem]; exact ⟨rfl, rfl, rfl⟩) (by simp [go_sem]; rfl) (by simp [go_sem, hwf.frz, hwf.frz0]; rfl) ?_
    refine awp_ret ?_
    simp [go_sem, Try.results14, c0, d0] <;> omega

theorem cloneRuleM_cs (σ : List Blk) (c : Option Nat) (n : Nat) (g : Nat → Rule) (hn : n < 1000000000) : CS Try.prog 14 [.d (SL c 6 Rule.enc n g)] σ (fun r σ' X => r = .ms σ.length 6 0 n ∧ σ' = σ ++ [.arr 6 n fun i => Rule.enc (g i)] ∧ X = []) := by
  refine CS.of_bodyW T.en14 Try.func14 rfl (by simp [Try.ntmps14]) fun hwf => ?_
  refine awp_reg_seq fun K hK => ?_
  simp [go_sem, Try.ntmps14]
  repeat refine ⟨by omega, ?_⟩
  refine hK _ ?_; clear hK K
  refine awp_seq ?_
  refine awp_reg_seq fun K hK => ?_
  simp [go_sem, -Bool.forall_bool]
  intro b1 hb1
  repeat refine ⟨by omega, ?_⟩
  refine hK _ ?_; clear hK K
  refine awp_cond rfl (fun c0 => ?_) (fun c0 => ?_)
  · have d0 := c0; try simp at d0
    refine awp_reg_seq fun K hK => ?_
    simp [go_sem, c0, d0]
    repeat refine ⟨by omega, ?_⟩
    refine hK _ ?_; clear hK K
    refine awp_thawT 2 6 (fun i => Rule.enc (g i)) (by simp [go_sem]) (by simp [go_sem]; rfl) ?_
    refine awp_ret ?_
    obtain rfl := hb1 c0
    simp [go_sem, Try.results14]
  · have d0 := c0; try simp at d0
    refine awp_skip ?_
    refine awp_reg_seq fun K hK => ?_
    simp [go_sem, c0, d0]
    repeat refine ⟨by omega, ?_⟩
    refine hK _ ?_; clear hK K
    refine awp_ret ?_
    simp [go_sem, Try.results14, c0, d0] <;> omega

def endR (n : Nat) (g : Nat → Rule) (id d : Int) : (Nat × (Nat → Rule)) × Int :=
  if check n g ≠ 0 then ((0, g), 1) else if idxFrom (fun r => r.ID == id) (lst n g) 0 < 0 then ((0, g), 7)
  else if d ≤ (g (idxFrom (fun r => r.ID == id) (lst n g) 0).toNat).In.From ∨ (g (idxFrom (fun r => r.ID == id) (lst n g) 0).toNat).In.Until < d then ((0, g), 2)
  else ((n, fun q => if q = (idxFrom (fun r => r.ID == id) (lst n g) 0).toNat then { g q with In := ⟨(g q).In.From, d⟩ } else g q), 0)
theorem idx_lt' {α : Type} (p : α → Bool) (n : Nat) (g : Nat → α) : idxFrom p (lst n g) 0 < n := by
  rcases idx_spec p (lst n g) 0 with ⟨h, _⟩ | ⟨q, h1, h2, _⟩
  · omega
  · rw [lst_length] at h1; omega
theorem closure_End_cs (σ : List Blk) (c : Option Nat) (n : Nat) (g : Nat → Rule) (id d : Int) (hn : n < 1000000000) : CSF Try.prog 22 [.d (SL c 6 Rule.enc n g), .d (I id), .d (I d)] σ (.tup [.d (SL none 6 Rule.enc (endR n g id d).1.1 (endR n g id d).1.2), .d (I (endR n g id d).2)]) := by
  have hlt := idx_lt' (fun r : Rule => r.ID == id) n g
  refine CSF.of_body T.en22 Try.func22 rfl (by simp [Try.ntmps22]) (by simp [go_sem]) fun hwf => ?_
  refine awp_reg_seq fun K hK => ?_
  simp [go_sem, Try.ntmps22]
  repeat refine ⟨by omega, ?_⟩
  refine hK _ ?_; clear hK K
  refine awp_seq ?_
  refine awp_reg_seq fun K hK => ?_
  simp [go_sem]
  repeat refine ⟨by omega, ?_⟩
  refine CSk.mk (closure_Check_cs _ c n g hn) ?_
  simp [go_sem]
  repeat refine ⟨by omega, ?_⟩
  refine hK _ ?_; clear hK K
  refine awp_forget [0, 2, 4, 12] (by simp only [restr, List.contains_cons, List.contains_nil, Nat.reduceBEq, Bool.or_false, Bool.or_true, Bool.true_or, Bool.false_or, if_true, if_false, Bool.false_eq_true]; rfl) ?_
  refine awp_cond rfl (fun c0 => ?_) (fun c0 => ?_)
  · have d0 := c0; try simp at d0
    have hz : endR n g id d = ((0, g), 1) := by unfold endR; rw [if_pos d0]
    refine awp_reg_seq fun K hK => ?_
    simp [go_sem, c0, d0]
    repeat refine ⟨by omega, ?_⟩
    refine hK _ ?_; clear hK K
    refine awp_ret ?_
    rw [hz]; simp [go_sem, Try.results22]
  · have d0 := c0; try simp at d0
    refine awp_skip ?_
    refine awp_reg_seq fun K hK => ?_
    simp [go_sem, c0, d0]
    repeat refine ⟨by omega, ?_⟩
    refine CSk.mk (indexRule_cs _ c n g _ _ (fun r => r.ID == id) hn (fun i hi => closure_End_1_cs σ _ (g i) id)) ?_
    simp [go_sem, c0, d0]
    repeat refine ⟨by omega, ?_⟩
    refine hK _ ?_; clear hK K
    refine awp_seq ?_
    refine awp_block ?_
    refine awp_reg_seq fun K hK => ?_
    simp [go_sem, c0, d0]
    repeat refine ⟨by omega, ?_⟩
    refine hK _ ?_; clear hK K
    refine awp_forget [0, 2, 8, 16] (by simp only [restr, List.contains_cons, List.contains_nil, Nat.reduceBEq, Bool.or_false, Bool.or_true, Bool.true_or, Bool.false_or, if_true, if_false, Bool.false_eq_true]; rfl) ?_
    refine awp_cond rfl (fun c1 => ?_) (fun c1 => ?_)
    · have d1 := c1; try simp at d1
      have hz : endR n g id d = ((0, g), 7) := by unfold endR; rw [if_neg (by simp [d0]), if_pos d1]
      refine awp_reg_seq fun K hK => ?_
      simp [go_sem, c0, d0, c1, d1]
      repeat refine ⟨by omega, ?_⟩
      refine hK _ ?_; clear hK K
      refine awp_ret ?_
      rw [hz]; simp [go_sem, Try.results22]
    · have d1 := c1; try simp at d1
      refine awp_reg_seq fun K hK => ?_
      simp [go_sem, c0, d0, c1, d1]
      repeat refine ⟨by omega, ?_⟩
      refine hK _ ?_; clear hK K
      refine awp_forget [0, 2, 8, 19] (by simp only [restr, List.contains_cons, List.contains_nil, Nat.reduceBEq, Bool.or_false, Bool.or_true, Bool.true_or, Bool.false_or, if_true, if_false, Bool.false_eq_true]; rfl) ?_
      refine awp_cond rfl (fun c2 => ?_) (fun c2 => ?_)
      · have d2 := c2; try simp at d2
        have hz : endR n g id d = ((0, g), 2) := by unfold endR; rw [if_neg (by simp [d0]), if_neg (by omega), if_pos d2]
        refine awp_reg_seq fun K hK => ?_
        simp [go_sem, c0, d0, c1, d1, c2, d2]
        repeat refine ⟨by omega, ?_⟩
        refine hK _ ?_; clear hK K
        refine awp_ret ?_
        rw [hz]; simp [go_sem, Try.results22]
      · have d2 := c2; try simp at d2
        have hz : endR n g id d = ((n, fun q => if q = (idxFrom (fun r => r.ID == id) (lst n g) 0).toNat then { g q with In := ⟨(g q).In.From, d⟩ } else g q), 0) := by unfold endR; rw [if_neg (by simp [d0]), if_neg (by omega), if_neg (by omega)]
        refine awp_skip ?_
        refine awp_reg_seq fun K hK => ?_
        simp [go_sem, c0, d0, c1, d1, c2, d2]
        repeat refine ⟨by omega, ?_⟩
        refine CSk.gen (cloneRuleM_cs _ c n g hn) ?_; rintro r σ' X ⟨rfl, rfl, rfl⟩
        simp [go_sem, c0, d0, c1, d1, c2, d2]
        repeat refine ⟨by omega, ?_⟩
        refine hK _ ?_; clear hK K
        refine awp_reg_seq fun K hK => ?_
        simp [go_sem, c0, d0, c1, d1, c2, d2]
        repeat refine ⟨by omega, ?_⟩
        refine hK _ ?_; clear hK K
        refine awp_reg_seq fun K hK => ?_
        simp [go_sem, c0, d0, c1, d1, c2, d2]
        repeat refine ⟨by omega, ?_⟩
        refine hK _ ?_; clear hK K
        refine awp_freeze (σ.length + 1) (by simp [go_sem]; exact ⟨rfl, rfl, rfl⟩) (by simp [go_sem]; rfl) (by simp [go_sem, hwf.frz, hwf.frz0]; rfl) ?_
        refine awp_ret ?_
        rw [hz]; simp [go_sem, Try.results22]
        intro i hi; split <;> simp_all

def askedR (n : Nat) (g : Nat → Rule) (k : Int) (m : Dating) (d : Int) : Int := if check n g ≠ 0 ∨ datChk m ≠ 0 then 1 else if k < 1 ∨ 999 < k ∨ d < 0 ∨ 1048575 < d then 2 else 0
theorem closure_asked_cs (σ : List Blk) (c : Option Nat) (n : Nat) (g : Nat → Rule) (k : Int) (m : Dating) (d : Int) (hn : n < 1000000000) : CSF Try.prog 43 [.d (SL c 6 Rule.enc n g), .d (I k), .agg (m.enc.map .d), .d (I d)] σ (.d (I (askedR n g k m d))) := by
  refine CSF.of_body T.en43 Try.func43 rfl (by simp [Try.ntmps43]) (by simp [go_sem]) fun hwf => ?_
  refine awp_reg_seq fun K hK => ?_
  simp [go_sem, Try.ntmps43]
  repeat refine ⟨by omega, ?_⟩
  refine hK _ ?_; clear hK K
  refine awp_seq ?_
  refine awp_block ?_
  refine awp_reg_seq fun K hK => ?_
  simp [go_sem]
  repeat refine ⟨by omega, ?_⟩
  refine CSk.mk (closure_Check_cs _ c n g hn) ?_
  simp [go_sem]
  repeat refine ⟨by omega, ?_⟩
  refine CSm.mk (dating_Check_cs _ m) ?_
  simp [go_sem]
  repeat refine ⟨by omega, ?_⟩
  refine hK _ ?_; clear hK K
  refine awp_forget [1, 3, 9] (by simp only [restr, List.contains_cons, List.contains_nil, Nat.reduceBEq, Bool.or_false, Bool.or_true, Bool.true_or, Bool.false_or, if_true, if_false, Bool.false_eq_true]; rfl) ?_
  refine awp_cond rfl (fun c0 => ?_) (fun c0 => ?_)
  · have d0 := c0; try simp at d0
    refine awp_reg_seq fun K hK => ?_
    simp [go_sem, c0, d0]
    repeat refine ⟨by omega, ?_⟩
    refine hK _ ?_; clear hK K
    refine awp_ret ?_
    have hz : askedR n g k m d = 1 := by unfold askedR; rw [if_pos (by omega)]
    rw [hz]; simp [go_sem, Try.results43]
  · have d0 := c0; try simp at d0
    refine awp_reg_seq fun K hK => ?_
    simp [go_sem, c0, d0]
    repeat refine ⟨by omega, ?_⟩
    refine hK _ ?_; clear hK K
    refine awp_forget [18] (by simp only [restr, List.contains_cons, List.contains_nil, Nat.reduceBEq, Bool.or_false, Bool.or_true, Bool.true_or, Bool.false_or, if_true, if_false, Bool.false_eq_true]; rfl) ?_
    refine awp_cond rfl (fun c1 => ?_) (fun c1 => ?_)
    · have d1 := c1; try simp at d1
      refine awp_reg_seq fun K hK => ?_
      simp [go_sem, c0, d0, c1, d1]
      repeat refine ⟨by omega, ?_⟩
      refine hK _ ?_; clear hK K
      refine awp_ret ?_
      have hz : askedR n g k m d = 2 := by unfold askedR; rw [if_neg (by omega), if_pos (by omega)]
      rw [hz]; simp [go_sem, Try.results43]
    · have d1 := c1; try simp at d1
      refine awp_skip ?_
      refine awp_reg_seq fun K hK => ?_
      simp [go_sem, c0, d0, c1, d1]
      repeat refine ⟨by omega, ?_⟩
      refine hK _ ?_; clear hK K
      refine awp_ret ?_
      have hz : askedR n g k m d = 0 := by unfold askedR; rw [if_neg (by omega), if_neg (by omega)]
      rw [hz]; simp [go_sem, Try.results43]

end Go.Proofs.Ytplpklikapkloaa
