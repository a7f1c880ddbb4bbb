/- Contracts and lemmas (Da, Db, Dc, Dd, Df, De, Dg, Oc, Dh), joined out of smaller texts by a program; no conditions. -/
import Derived.Test.YtkochmppmpmddaaGreatKB4
import Derived.Test.YtkochmppmpmddaaGreatKB3
/-! Da -/
namespace Go.Proofs.YtkochmppmpmddaaGreat
open Go.Abs Go.Arch
set_option linter.unusedVariables false
set_option linter.unusedSimpArgs false
set_option maxRecDepth 100000
set_option maxHeartbeats 400000
structure Prs where
  ID : Int
  Name : ByteArray
  Birth : Dating
  Death : Dating
instance : Inhabited Prs := ⟨⟨0, ByteArray.empty, ⟨0, 0⟩, ⟨0, 0⟩⟩⟩
def Prs.enc (p : Prs) : List D := [I p.ID, Sb p.Name, I p.Birth.First, I p.Birth.Last, I p.Death.First, I p.Death.Last]
attribute [go_sem] Prs.enc
def prsE0 (p : Prs) : Int := if p.ID < 1 ∨ 1073741824 < p.ID then 2 else if namedB p.Name = false then 4 else if datChk p.Birth ≠ 0 ∨ datChk p.Death ≠ 0 then 1 else if p.Death.Last < p.Birth.First then 10 else 0
def prsE (g : Nat → Prs) (i : Nat) : Int := if prsE0 (g i) ≠ 0 then prsE0 (g i) else if 0 < i ∧ (g i).ID ≤ (g (i - 1)).ID then 5 else 0
def prsChk (n : Nat) (g : Nat → Prs) : Int := if 64 < n then 8 else firstE (prsE g) 0 n
def findP (n : Nat) (g : Nat → Prs) (u : Int) : Int := idxFrom (fun r => r.ID == u) (lst n g) 0
def prsFew (n : Nat) (g : Nat → Prs) : Bool := ((lst n g).all fun p => decide (p.Name.size ≤ 200)) && decide (n ≤ 20)
theorem prsFew_iff (n : Nat) (g : Nat → Prs) : prsFew n g = true ↔ (∀ i, i < n → (g i).Name.size ≤ 200) ∧ n ≤ 20 := by
  unfold prsFew; simp [lst]
theorem prsFew_no {n : Nat} {g : Nat → Prs} {i : Nat} (hi : i < n) (h : 200 < (g i).Name.size) : prsFew n g = false := by
  cases hb : prsFew n g with
  | false => rfl
  | true => have := ((prsFew_iff n g).1 hb).1 i hi; omega
theorem prsFew_yes {n : Nat} {g : Nat → Prs} (h : ∀ i, i < n → (g i).Name.size ≤ 200) : prsFew n g = decide ((n : Int) ≤ 20) := by
  rw [Bool.eq_iff_iff, prsFew_iff]; simp only [decide_eq_true_eq]; exact ⟨fun h => by have := h.2; omega, fun h' => ⟨h, by omega⟩⟩
theorem named_prog' (s : ByteArray) : namedB s = (decide ((1 : Int) ≤ s.size) && decide ((s.size : Int) ≤ 64) && ((s[0]?.getD 0).toNat : Int) != 32 && ((s[s.size - 1]?.getD 0).toNat : Int) != 32 && !Lib.contains s.data.toList [32, 32] && !decide (0 ≤ Lib.idxFunc outB true s)) := by
  have e1 : decide ((1 : Int) ≤ s.size) = decide (1 ≤ s.size) := by rw [Bool.eq_iff_iff]; simp; omega
  have e2 : decide ((s.size : Int) ≤ 64) = decide (s.size ≤ 64) := by rw [Bool.eq_iff_iff]; simp; omega
  have e3 : ∀ n : Nat, ((n : Int) != 32) = !decide (n = 32) := fun n => by rw [Bool.eq_iff_iff]; simp; omega
  rw [named_prog, e1, e2, e3, e3]; rfl
theorem nameAt_iff (s : ByteArray) (i : Nat) : nameAt s i = true ↔ 32 ≤ bt s i ∧ bt s i ≤ 126 ∧ ¬(0 < i ∧ bt s i = 32 ∧ bt s (i - 1) = 32) := by
  unfold nameAt; rw [Bool.and_eq_true, Bool.and_eq_true, Bool.not_eq_true', ← Bool.not_eq_true]; simp only [Bool.and_eq_true, decide_eq_true_eq, and_assoc]
theorem named_no {s : ByteArray} {i : Nat} (hi : i < s.size) (h : nameAt s i = false) : namedB s = false := by
  cases hb : namedB s with
  | false => rfl
  | true => have := ((named_iff s).1 hb).2.2.2.2 i hi; rw [h] at this; cases this
theorem person_isName_cs (σ : List Blk) (s : ByteArray) (hs : s.size < 4294967281) (hσ : σ[0]? = some (.loc 0)) : CSF Tryz.prog 118 [.d (Sb s)] σ (.d (B (namedB s))) := by
  refine CSF.of_body T.en118 Tryz.func118 rfl (by simp [Tryz.ntmps118]) (by simp [go_sem]) fun hwf => ?_
  refine awp_reg_seq fun K hK => ?_
  simp [go_sem, Tryz.ntmps118]
  repeat refine ⟨by omega, ?_⟩
  refine hK _ ?_; clear hK K
  refine awp_reg_seq fun K hK => ?_
  simp [go_sem]
  repeat refine ⟨by omega, ?_⟩
  refine hK _ ?_; clear hK K
  refine awp_reg_seq fun K hK => ?_
  simp [go_sem]
  try simp (disch := omega) only [wrapI]
  repeat refine ⟨by omega, ?_⟩
  refine CSm.mk (strContains_cs _ hσ s _ hs) ?_
  simp [go_sem]
  try simp (disch := omega) only [wrapI]
  repeat refine ⟨by omega, ?_⟩
  refine CSm.mk (containsOut_cs _ s) ?_
  simp [go_sem]
  try simp (disch := omega) only [wrapI]
  repeat refine ⟨by omega, ?_⟩
  refine hK _ ?_; clear hK K
  refine awp_ret ?_
  rw [named_prog']; simp [go_sem, Tryz.results118]
theorem person_fault_cs (σ : List Blk) (p : Prs) (hs : p.Name.size < 4294967281) (hσ : σ[0]? = some (.loc 0)) : CSF Tryz.prog 81 [.agg (p.enc.map .d)] σ (.d (I (prsE0 p))) := by
  refine CSF.of_body T.en81 Tryz.func81 rfl (by simp [Tryz.ntmps81]) (by simp [go_sem]) fun hwf => ?_
  refine awp_reg_seq fun K hK => ?_
  simp [go_sem, Tryz.ntmps81]
  repeat refine ⟨by omega, ?_⟩
  refine hK _ ?_; clear hK K
  refine awp_seq ?_
  refine awp_block ?_
  refine awp_reg_seq fun K hK => ?_
  simp [go_sem]
  repeat refine ⟨by omega, ?_⟩
  refine hK _ ?_; clear hK K
  refine awp_forget [1, 3] (by simp only [restr, List.contains_cons, List.contains_nil, Nat.reduceBEq, Bool.or_false, Bool.or_true, Bool.true_or, Bool.false_or, if_true, if_false, Bool.false_eq_true]; rfl) ?_
  refine awp_cond rfl (fun c0 => ?_) (fun c0 => ?_)
  · have d0 := c0; try simp at d0
    refine awp_reg_seq fun K hK => ?_
    simp [go_sem, c0, d0]
    repeat refine ⟨by omega, ?_⟩
    refine hK _ ?_; clear hK K
    refine awp_ret ?_
    simp [go_sem, Tryz.results81, prsE0, c0, d0] <;> omega
  · have d0 := c0; try simp at d0
    refine awp_reg_seq fun K hK => ?_
    simp [go_sem, c0, d0]
    repeat refine ⟨by omega, ?_⟩
    refine CSk.mk (person_isName_cs _ _ (by first | assumption | exact loc_app (by assumption) | omega | simp_all) (by first | assumption | exact loc_app (by assumption) | omega | simp_all)) ?_
    simp [go_sem, c0, d0]
    repeat refine ⟨by omega, ?_⟩
    refine hK _ ?_; clear hK K
    refine awp_forget [1, 12] (by simp only [restr, List.contains_cons, List.contains_nil, Nat.reduceBEq, Bool.or_false, Bool.or_true, Bool.true_or, Bool.false_or, if_true, if_false, Bool.false_eq_true]; rfl) ?_
    refine awp_cond rfl (fun c1 => ?_) (fun c1 => ?_)
    · have d1 := c1; try simp at d1
      refine awp_reg_seq fun K hK => ?_
      simp [go_sem, c0, d0, c1, d1]
      repeat refine ⟨by omega, ?_⟩
      refine hK _ ?_; clear hK K
      refine awp_ret ?_
      simp [go_sem, Tryz.results81, prsE0, c0, d0, c1, d1] <;> omega
    · have d1 := c1; try simp at d1
      refine awp_reg_seq fun K hK => ?_
      simp [go_sem, c0, d0, c1, d1]
      repeat refine ⟨by omega, ?_⟩
      refine CSk.mk (dating_Check_cs _ p.Birth) ?_
      simp [go_sem, c0, d0, c1, d1]
      repeat refine ⟨by omega, ?_⟩
      refine CSm.mk (dating_Check_cs _ p.Death) ?_
      simp [go_sem, c0, d0, c1, d1]
      repeat refine ⟨by omega, ?_⟩
      refine hK _ ?_; clear hK K
      refine awp_forget [1, 17] (by simp only [restr, List.contains_cons, List.contains_nil, Nat.reduceBEq, Bool.or_false, Bool.or_true, Bool.true_or, Bool.false_or, if_true, if_false, Bool.false_eq_true]; rfl) ?_
      refine awp_cond rfl (fun c2 => ?_) (fun c2 => ?_)
      · have d2 := c2; try simp at d2
        refine awp_reg_seq fun K hK => ?_
        simp [go_sem, c0, d0, c1, d1, c2, d2]
        repeat refine ⟨by omega, ?_⟩
        refine hK _ ?_; clear hK K
        refine awp_ret ?_
        simp [go_sem, Tryz.results81, prsE0, c0, d0, c1, d1, c2, d2] <;> omega
      · have d2 := c2; try simp at d2
        refine awp_reg_seq fun K hK => ?_
        simp [go_sem, c0, d0, c1, d1, c2, d2]
        repeat refine ⟨by omega, ?_⟩
        refine hK _ ?_; clear hK K
        refine awp_forget [28] (by simp only [restr, List.contains_cons, List.contains_nil, Nat.reduceBEq, Bool.or_false, Bool.or_true, Bool.true_or, Bool.false_or, if_true, if_false, Bool.false_eq_true]; rfl) ?_
        refine awp_cond rfl (fun c3 => ?_) (fun c3 => ?_)
        · have d3 := c3; try simp at d3
          refine awp_reg_seq fun K hK => ?_
          simp [go_sem, c0, d0, c1, d1, c2, d2, c3, d3]
          repeat refine ⟨by omega, ?_⟩
          refine hK _ ?_; clear hK K
          refine awp_ret ?_
          simp [go_sem, Tryz.results81, prsE0, c0, d0, c1, d1, c2, d2, c3, d3] <;> omega
        · have d3 := c3; try simp at d3
          refine awp_skip ?_
          refine awp_reg_seq fun K hK => ?_
          simp [go_sem, c0, d0, c1, d1, c2, d2, c3, d3]
          repeat refine ⟨by omega, ?_⟩
          refine hK _ ?_; clear hK K
          refine awp_ret ?_
          simp [go_sem, Tryz.results81, prsE0, c0, d0, c1, d1, c2, d2, c3, d3] <;> omega
theorem indexPrs_cs (σ : List Blk) (c : Option Nat) (n : Nat) (g : Nat → Prs) (f : FuncId) (cap : List AV) (p : Prs → Bool) (hn : n < 1000000000) (hf : ∀ i, i < n → CSF Tryz.prog f (.agg ((g i).enc.map .d) :: cap) σ (.d (B (p (g i))))) : CSF Tryz.prog 113 [.d (SL c 6 Prs.enc n g), .clo (.func f) [] cap] σ (.d (I (idxFrom p (lst n g) 0))) := by
  refine CSF.of_body T.en113 Tryz.func113 rfl (by simp [Tryz.ntmps113]) (by simp [go_sem]) fun hwf => ?_
  refine awp_reg_seq fun K hK => ?_
  simp [go_sem, Tryz.ntmps113]
  repeat refine ⟨by omega, ?_⟩
  refine hK _ ?_; clear hK K
  refine awp_seq ?_
  refine awp_reg_seq fun K hK => ?_
  simp [go_sem]
  repeat refine ⟨by omega, ?_⟩
  refine hK _ ?_; clear hK K
  refine awp_block ?_
  refine awp_forget [0, 1, 7, 8] (by simp [go_sem, restr]; rfl) ?_
  refine awp_loopU (α := Nat) (fun i => [(8, .d (I i))]) (fun i => _) (fun i => i ≤ n ∧ idxFrom p (lst n g) 0 = idxFrom p ((lst n g).drop i) i) (fun i => n - i) 0 (by simp [go_sem]) rfl (by simp) ?_
  rintro i ⟨hi, hx⟩
  refine awp_reg_seq fun K hK => ?_
  simp [go_sem]
  repeat refine ⟨by omega, ?_⟩
  refine hK _ ?_; clear hK K
  refine awp_seq ?_
  refine awp_forget [0, 1, 7, 8, 9] (by simp only [restr, List.contains_cons, List.contains_nil, Nat.reduceBEq, Bool.or_false, Bool.or_true, Bool.true_or, Bool.false_or, if_true, if_false, Bool.false_eq_true]; rfl) ?_
  refine awp_cond rfl (fun c0 => ?_) (fun c0 => ?_)
  · have d0 := c0; try simp at d0
    rw [drop_lst d0, idxFrom] at hx
    refine awp_skip ?_
    refine awp_seq ?_
    refine awp_block ?_
    refine awp_reg_seq fun K hK => ?_
    simp [go_sem, c0, d0]
    repeat refine ⟨by omega, ?_⟩
    refine hK _ ?_; clear hK K
    refine awp_reg_seq fun K hK => ?_
    simp [go_sem, c0, d0]
    repeat refine ⟨by omega, ?_⟩
    refine CSk.mk (hf i d0) ?_
    simp [go_sem, c0, d0]
    repeat refine ⟨by omega, ?_⟩
    refine hK _ ?_; clear hK K
    refine awp_forget [0, 1, 5, 7, 8, 16] (by simp only [restr, List.contains_cons, List.contains_nil, Nat.reduceBEq, Bool.or_false, Bool.or_true, Bool.true_or, Bool.false_or, if_true, if_false, Bool.false_eq_true]; rfl) ?_
    refine awp_cond rfl (fun c1 => ?_) (fun c1 => ?_)
    · have d1 := c1; try simp at d1
      refine awp_reg_seq fun K hK => ?_
      simp [go_sem, c0, d0, c1, d1]
      repeat refine ⟨by omega, ?_⟩
      refine hK _ ?_; clear hK K
      refine awp_ret ?_
      simp [go_sem, Tryz.results113, hx, c0, d0, c1, d1] <;> omega
    · have d1 := c1; try simp at d1
      refine awp_skip ?_
      refine awp_reg_end fun K hK => ?_
      simp [go_sem, c0, d0, c1, d1]
      try simp (disch := omega) only [wrapI]
      repeat refine ⟨by omega, ?_⟩
      refine hK _ ?_; clear hK K
      refine ⟨i + 1, back_of' (by simp) (.refl _) (by (simp [go_sem, wrap_succ (i := i) (by omega), c0, d0, c1, d1] <;> omega)), ⟨by omega, by rw [hx, c1]; simp⟩, by first | omega | (dsimp only; omega)⟩
  · have d0 := c0; try simp at d0
    rw [drop_all d0, idxFrom] at hx
    refine awp_exit ?_
    refine awp_reg_seq fun K hK => ?_
    simp [go_sem, c0, d0]
    repeat refine ⟨by omega, ?_⟩
    refine hK _ ?_; clear hK K
    refine awp_ret ?_
    simp [go_sem, Tryz.results113, hx, c0, d0] <;> omega
theorem containsPrs_cs (σ : List Blk) (c : Option Nat) (n : Nat) (g : Nat → Prs) (f : FuncId) (cap : List AV) (p : Prs → Bool) (hn : n < 1000000000) (hf : ∀ i, i < n → CSF Tryz.prog f (.agg ((g i).enc.map .d) :: cap) σ (.d (B (p (g i))))) : CSF Tryz.prog 85 [.d (SL c 6 Prs.enc n g), .clo (.func f) [] cap] σ (.d (B ((lst n g).any p))) := by
  refine CSF.of_body T.en85 Tryz.func85 rfl (by simp [Tryz.ntmps85]) (by simp [go_sem]) fun hwf => ?_
  refine awp_reg_seq fun K hK => ?_
  simp [go_sem, Tryz.ntmps85]
  repeat refine ⟨by omega, ?_⟩
  refine hK _ ?_; clear hK K
  refine awp_reg_seq fun K hK => ?_
  simp [go_sem]
  repeat refine ⟨by omega, ?_⟩
  refine CSk.mk (indexPrs_cs _ c n g f cap p hn hf) ?_
  simp [go_sem]
  repeat refine ⟨by omega, ?_⟩
  refine hK _ ?_; clear hK K
  refine awp_ret ?_
  simp [go_sem, Tryz.results85, idx_any] <;> omega
theorem clonePrs_cs (σ : List Blk) (c : Option Nat) (n : Nat) (g : Nat → Prs) (hn : n < 1000000000) : CSF Tryz.prog 36 [.d (SL c 6 Prs.enc n g)] σ (.d (SL none 6 Prs.enc n g)) := by
  refine CSF.of_body T.en36 Tryz.func36 rfl (by simp [Tryz.ntmps36]) (by simp [go_sem]) fun hwf => ?_
  refine awp_reg_seq fun K hK => ?_
  simp [go_sem, Tryz.ntmps36]
  repeat refine ⟨by omega, ?_⟩
  refine hK _ ?_; clear hK K
  refine awp_seq ?_
  refine awp_reg_seq fun K hK => ?_
  simp [go_sem, -Bool.forall_bool]
  intro b1 hb1
  repeat refine ⟨by omega, ?_⟩
  refine hK _ ?_; clear hK K
  refine awp_cond rfl (fun c0 => ?_) (fun c0 => ?_)
  · have d0 := c0; try simp at d0
    refine awp_reg_seq fun K hK => ?_
    simp [go_sem, c0, d0]
    repeat refine ⟨by omega, ?_⟩
    refine hK _ ?_; clear hK K
    refine awp_ret ?_
    have := hb1 c0
    simp [go_sem, Tryz.results36, this]
  · have d0 := c0; try simp at d0
    refine awp_skip ?_
    refine awp_reg_seq fun K hK => ?_
    simp [go_sem, c0, d0, hwf.one, hwf.zero]
    repeat refine ⟨by omega, ?_⟩
    refine hK _ ?_; clear hK K
    refine awp_freeze (σ.length) (by simp [go_sem]; first | exact ⟨rfl, rfl, rfl⟩ | exact ⟨rfl, rfl⟩ | rfl) (by simp [go_sem]; rfl) (by simp [go_sem, hwf.frz, hwf.frz0]; rfl) ?_
    refine awp_ret ?_
    simp [go_sem, Tryz.results36, c0, d0] <;> omega
theorem clonePrsM_cs (σ : List Blk) (c : Option Nat) (n : Nat) (g : Nat → Prs) (hn : n < 1000000000) : CS Tryz.prog 36 [.d (SL c 6 Prs.enc n g)] σ (fun r σ' X => r = .ms σ.length 6 0 n ∧ σ' = σ ++ [.arr 6 n fun i => Prs.enc (g i)] ∧ X = []) := by
  refine CS.of_bodyW T.en36 Tryz.func36 rfl (by simp [Tryz.ntmps36]) fun hwf => ?_
  refine awp_reg_seq fun K hK => ?_
  simp [go_sem, Tryz.ntmps36]
  repeat refine ⟨by omega, ?_⟩
  refine hK _ ?_; clear hK K
  refine awp_seq ?_
  refine awp_reg_seq fun K hK => ?_
  simp [go_sem, -Bool.forall_bool]
  intro b1 hb1
  repeat refine ⟨by omega, ?_⟩
  refine hK _ ?_; clear hK K
  refine awp_cond rfl (fun c0 => ?_) (fun c0 => ?_)
  · have d0 := c0; try simp at d0
    refine awp_reg_seq fun K hK => ?_
    simp [go_sem, c0, d0]
    repeat refine ⟨by omega, ?_⟩
    refine hK _ ?_; clear hK K
    refine awp_thawT 2 6 (fun i => Prs.enc (g i)) (by simp [go_sem]) (by simp [go_sem]; rfl) ?_
    refine awp_ret ?_
    obtain rfl := hb1 c0
    simp [go_sem, Tryz.results36]
  · have d0 := c0; try simp at d0
    refine awp_skip ?_
    refine awp_reg_seq fun K hK => ?_
    simp [go_sem, c0, d0, hwf.one, hwf.zero]
    repeat refine ⟨by omega, ?_⟩
    refine hK _ ?_; clear hK K
    refine awp_ret ?_
    simp [go_sem, Tryz.results36, c0, d0] <;> omega
theorem person_index_1_cs (σ : List Blk) (τ : List Blk) (r : Prs) (u : Int) : CSF Tryz.prog 114 [.agg (r.enc.map .d), .ptr σ.length 0] (σ ++ .var [.d (I u)] :: τ) (.d (B (r.ID == u))) := by
  refine CSF.of_body T.en114 Tryz.func114 rfl (by simp [Tryz.ntmps114]) (by simp [go_sem]) fun hwf => ?_
  refine awp_reg_seq fun K hK => ?_
  simp [go_sem, Tryz.ntmps114]
  repeat refine ⟨by omega, ?_⟩
  refine hK _ ?_; clear hK K
  refine awp_reg_seq fun K hK => ?_
  simp [go_sem]
  repeat refine ⟨by omega, ?_⟩
  refine hK _ ?_; clear hK K
  refine awp_ret ?_
  simp [go_sem, Tryz.results114] <;> omega
theorem person_index_cs (σ : List Blk) (c : Option Nat) (n : Nat) (g : Nat → Prs) (u : Int) (hn : n < 1000000000) : CSF Tryz.prog 73 [.d (SL c 6 Prs.enc n g), .d (I u)] σ (.d (I (findP n g u))) := by
  refine CSF.of_body T.en73 Tryz.func73 rfl (by simp [Tryz.ntmps73]) (by simp [go_sem]) fun hwf => ?_
  refine awp_reg_seq fun K hK => ?_
  simp [go_sem, Tryz.ntmps73]
  repeat refine ⟨by omega, ?_⟩
  refine hK _ ?_; clear hK K
  refine awp_reg_seq fun K hK => ?_
  simp [go_sem]
  repeat refine ⟨by omega, ?_⟩
  refine CSk.mk (indexPrs_cs _ c n g _ _ (fun r => r.ID == u) hn (fun i hi => person_index_1_cs σ [] (g i) u)) ?_
  simp [go_sem]
  repeat refine ⟨by omega, ?_⟩
  refine hK _ ?_; clear hK K
  refine awp_ret ?_
  simp [go_sem, Tryz.results73, findP] <;> omega
theorem person_Check_cs (σ : List Blk) (c : Option Nat) (n : Nat) (g : Nat → Prs) (hn : n < 1000000000) (hN : ∀ i, i < n → (g i).Name.size < 4294967281) (hσ : σ[0]? = some (.loc 0)) : CSF Tryz.prog 48 [.d (SL c 6 Prs.enc n g)] σ (.d (I (prsChk n g))) := by
  refine CSF.of_body T.en48 Tryz.func48 rfl (by simp [Tryz.ntmps48]) (by simp [go_sem]) fun hwf => ?_
  refine awp_reg_seq fun K hK => ?_
  simp [go_sem, Tryz.ntmps48]
  repeat refine ⟨by omega, ?_⟩
  refine hK _ ?_; clear hK K
  refine awp_seq ?_
  refine awp_reg_seq fun K hK => ?_
  simp [go_sem]
  repeat refine ⟨by omega, ?_⟩
  refine hK _ ?_; clear hK K
  refine awp_forget [0, 8] (by simp only [restr, List.contains_cons, List.contains_nil, Nat.reduceBEq, Bool.or_false, Bool.or_true, Bool.true_or, Bool.false_or, if_true, if_false, Bool.false_eq_true]; rfl) ?_
  refine awp_cond rfl (fun c0 => ?_) (fun c0 => ?_)
  · have d0 := c0; try simp at d0
    refine awp_reg_seq fun K hK => ?_
    simp [go_sem, c0, d0]
    repeat refine ⟨by omega, ?_⟩
    refine hK _ ?_; clear hK K
    refine awp_ret ?_
    simp [go_sem, Tryz.results48, prsChk, c0, d0] <;> omega
  · have d0 := c0; try simp at d0
    refine awp_skip ?_
    refine awp_seq ?_
    refine awp_reg_seq fun K hK => ?_
    simp [go_sem, c0, d0]
    repeat refine ⟨by omega, ?_⟩
    refine hK _ ?_; clear hK K
    refine awp_block ?_
    refine awp_forget [0, 9, 10, 11] (by simp [go_sem, restr]; rfl) ?_
    refine awp_loopU (α := Nat) (fun i => [(11, .d (I i))]) (fun i => _) (fun i => i ≤ n ∧ firstE (prsE g) 0 n = firstE (prsE g) i (n - i)) (fun i => n - i) 0 (by simp [go_sem]) rfl (by simp) ?_
    rintro i ⟨hi, hx⟩
    refine awp_reg_seq fun K hK => ?_
    simp [go_sem, c0, d0, hi, wrap_pred (i := i) (by omega)]
    repeat refine ⟨by omega, ?_⟩
    refine hK _ ?_; clear hK K
    refine awp_seq ?_
    refine awp_forget [0, 9, 10, 11, 12] (by simp only [restr, List.contains_cons, List.contains_nil, Nat.reduceBEq, Bool.or_false, Bool.or_true, Bool.true_or, Bool.false_or, if_true, if_false, Bool.false_eq_true]; rfl) ?_
    refine awp_cond rfl (fun c1 => ?_) (fun c1 => ?_)
    · have d1 := c1; try simp at d1
      obtain ⟨k, hk⟩ : ∃ k, n - i = k + 1 := ⟨n - i - 1, by omega⟩
      have hk' : n - (i + 1) = k := by omega
      rw [hk, firstE] at hx
      refine awp_skip ?_
      refine awp_seq ?_
      refine awp_block ?_
      refine awp_reg_seq fun K hK => ?_
      simp [go_sem, c0, d0, hi, wrap_pred (i := i) (by omega), c1, d1]
      repeat refine ⟨by omega, ?_⟩
      refine hK _ ?_; clear hK K
      refine awp_seq ?_
      refine awp_reg_seq fun K hK => ?_
      simp [go_sem, c0, d0, hi, wrap_pred (i := i) (by omega), c1, d1]
      repeat refine ⟨by omega, ?_⟩
      refine CSk.mk (person_fault_cs _ (g i) (hN i d1) (loc_app hσ)) ?_
      simp [go_sem, c0, d0, hi, wrap_pred (i := i) (by omega), c1, d1]
      repeat refine ⟨by omega, ?_⟩
      refine hK _ ?_; clear hK K
      refine awp_reg_seq fun K hK => ?_
      simp [go_sem, c0, d0, hi, wrap_pred (i := i) (by omega), c1, d1]
      repeat refine ⟨by omega, ?_⟩
      refine hK _ ?_; clear hK K
      refine awp_forget [0, 3, 4, 5, 9, 10, 11, 19] (by simp only [restr, List.contains_cons, List.contains_nil, Nat.reduceBEq, Bool.or_false, Bool.or_true, Bool.true_or, Bool.false_or, if_true, if_false, Bool.false_eq_true]; rfl) ?_
      refine awp_cond rfl (fun c2 => ?_) (fun c2 => ?_)
      · have d2 := c2; try simp at d2
        have he : prsE g i = prsE0 (g i) := by unfold prsE; rw [if_pos d2]
        rw [he, if_pos d2] at hx
        refine awp_reg_seq fun K hK => ?_
        simp [go_sem, c0, d0, hi, wrap_pred (i := i) (by omega), c1, d1, c2, d2]
        repeat refine ⟨by omega, ?_⟩
        refine hK _ ?_; clear hK K
        refine awp_ret ?_
        simp [go_sem, Tryz.results48, prsChk, hx, c0, d0, hi, wrap_pred (i := i) (by omega), c1, d1, c2, d2] <;> omega
      · have d2 := c2; try simp at d2
        refine awp_skip ?_
        refine awp_draw_seq 13 T.mixed (by kernel_rfl) fun K hK => ?_
        simp [go_sem, c0, d0, hi, wrap_pred (i := i) (by omega), c1, d1, c2, d2]
        try simp (disch := omega) only [wrapI]
        repeat refine ⟨by omega, ?_⟩
        refine hK _ ?_; clear hK K
        refine awp_forget [0, 9, 10, 11, 33] (by simp only [restr, List.contains_cons, List.contains_nil, Nat.reduceBEq, Bool.or_false, Bool.or_true, Bool.true_or, Bool.false_or, if_true, if_false, Bool.false_eq_true]; rfl) ?_
        refine awp_cond rfl (fun c3 => ?_) (fun c3 => ?_)
        · have d3 := c3; try simp at d3
          have he : prsE g i = 5 := by unfold prsE; rw [if_neg (by simp [d2]), if_pos d3]
          rw [he] at hx; simp at hx
          refine awp_reg_seq fun K hK => ?_
          simp [go_sem, c0, d0, hi, wrap_pred (i := i) (by omega), c1, d1, c2, d2, c3, d3]
          repeat refine ⟨by omega, ?_⟩
          refine hK _ ?_; clear hK K
          refine awp_ret ?_
          simp [go_sem, Tryz.results48, prsChk, hx, c0, d0, hi, wrap_pred (i := i) (by omega), c1, d1, c2, d2, c3, d3] <;> omega
        · have d3 := c3; try simp at d3
          have he : prsE g i = 0 := by unfold prsE; rw [if_neg (by simp [d2]), if_neg (by omega)]
          rw [he] at hx; simp at hx
          refine awp_skip ?_
          refine awp_reg_end fun K hK => ?_
          simp [go_sem, c0, d0, hi, wrap_pred (i := i) (by omega), c1, d1, c2, d2, c3, d3]
          try simp (disch := omega) only [wrapI]
          repeat refine ⟨by omega, ?_⟩
          refine hK _ ?_; clear hK K
          refine ⟨i + 1, back_of' (by simp) (.refl _) (by (simp [go_sem, wrap_succ (i := i) (by omega), c0, d0, hi, wrap_pred (i := i) (by omega), c1, d1, c2, d2, c3, d3] <;> omega)), ⟨by omega, by rw [hx, hk']⟩, by first | omega | (dsimp only; omega)⟩
    · have d1 := c1; try simp at d1
      obtain rfl : i = n := by omega
      rw [Nat.sub_self, firstE] at hx
      refine awp_exit ?_
      refine awp_reg_seq fun K hK => ?_
      simp [go_sem, c0, d0, hi, wrap_pred (i := i) (by omega), c1, d1]
      repeat refine ⟨by omega, ?_⟩
      refine hK _ ?_; clear hK K
      refine awp_ret ?_
      simp [go_sem, Tryz.results48, prsChk, hx, c0, d0, hi, wrap_pred (i := i) (by omega), c1, d1] <;> omega
theorem ref32_Few_cs (σ : List Blk) (c : Option Nat) (n : Nat) (g : Nat → Prs) (hn : n < 1000000000) : CSF Tryz.prog 39 [.d (SL c 6 Prs.enc n g)] σ (.d (B (prsFew n g))) := by
  refine CSF.of_body T.en39 Tryz.func39 rfl (by simp [Tryz.ntmps39]) (by simp [go_sem]) fun hwf => ?_
  refine awp_reg_seq fun K hK => ?_
  simp [go_sem, Tryz.ntmps39]
  repeat refine ⟨by omega, ?_⟩
  refine hK _ ?_; clear hK K
  refine awp_seq ?_
  refine awp_reg_seq fun K hK => ?_
  simp [go_sem]
  repeat refine ⟨by omega, ?_⟩
  refine hK _ ?_; clear hK K
  refine awp_block ?_
  refine awp_forget [0, 5, 6, 7] (by simp [go_sem, restr]; rfl) ?_
  refine awp_loopU (α := Nat) (fun i => [(7, .d (I i))]) (fun i => _) (fun i => i ≤ n ∧ ∀ q, q < i → (g q).Name.size ≤ 200) (fun i => n - i) 0 (by simp [go_sem]) rfl (by simp) ?_
  rintro i ⟨hi, hx⟩
  refine awp_reg_seq fun K hK => ?_
  simp [go_sem]
  repeat refine ⟨by omega, ?_⟩
  refine hK _ ?_; clear hK K
  refine awp_seq ?_
  refine awp_forget [0, 5, 6, 7, 8] (by simp only [restr, List.contains_cons, List.contains_nil, Nat.reduceBEq, Bool.or_false, Bool.or_true, Bool.true_or, Bool.false_or, if_true, if_false, Bool.false_eq_true]; rfl) ?_
  refine awp_cond rfl (fun c0 => ?_) (fun c0 => ?_)
  · have d0 := c0; try simp at d0
    refine awp_skip ?_
    refine awp_seq ?_
    refine awp_block ?_
    refine awp_reg_seq fun K hK => ?_
    simp [go_sem, c0, d0]
    repeat refine ⟨by omega, ?_⟩
    refine hK _ ?_; clear hK K
    refine awp_reg_seq fun K hK => ?_
    simp [go_sem, c0, d0]
    repeat refine ⟨by omega, ?_⟩
    refine hK _ ?_; clear hK K
    refine awp_forget [0, 5, 6, 7, 14] (by simp only [restr, List.contains_cons, List.contains_nil, Nat.reduceBEq, Bool.or_false, Bool.or_true, Bool.true_or, Bool.false_or, if_true, if_false, Bool.false_eq_true]; rfl) ?_
    refine awp_cond rfl (fun c1 => ?_) (fun c1 => ?_)
    · have d1 := c1; try simp at d1
      refine awp_reg_seq fun K hK => ?_
      simp [go_sem, c0, d0, c1, d1]
      repeat refine ⟨by omega, ?_⟩
      refine hK _ ?_; clear hK K
      refine awp_ret ?_
      rw [prsFew_no d0 (by omega)]; simp [go_sem, Tryz.results39]
    · have d1 := c1; try simp at d1
      refine awp_skip ?_
      refine awp_reg_end fun K hK => ?_
      simp [go_sem, c0, d0, c1, d1]
      try simp (disch := omega) only [wrapI]
      repeat refine ⟨by omega, ?_⟩
      refine hK _ ?_; clear hK K
      refine ⟨i + 1, back_of' (by simp) (.refl _) (by (simp [go_sem, wrap_succ (i := i) (by omega), c0, d0, c1, d1] <;> omega)), ⟨by omega, fun q hq => by rcases Nat.lt_or_eq_of_le (Nat.le_of_lt_succ hq) with h | h; exact hx q h; rw [h]; omega⟩, by first | omega | (dsimp only; omega)⟩
  · have d0 := c0; try simp at d0
    obtain rfl : i = n := by omega
    refine awp_exit ?_
    refine awp_reg_seq fun K hK => ?_
    simp [go_sem, c0, d0]
    repeat refine ⟨by omega, ?_⟩
    refine hK _ ?_; clear hK K
    refine awp_ret ?_
    rw [prsFew_yes hx]; simp [go_sem, Tryz.results39]
theorem ref32_Named_cs (σ : List Blk) (s : ByteArray) (hs : s.size < 4294967281) : CSF Tryz.prog 121 [.d (Sb s)] σ (.d (B (namedB s))) := by
  refine CSF.of_body T.en121 Tryz.func121 rfl (by simp [Tryz.ntmps121]) (by simp [go_sem]) fun hwf => ?_
  refine awp_reg_seq fun K hK => ?_
  simp [go_sem, Tryz.ntmps121]
  repeat refine ⟨by omega, ?_⟩
  refine hK _ ?_; clear hK K
  refine awp_seq ?_
  refine awp_reg_seq fun K hK => ?_
  simp [go_sem]
  try simp (disch := omega) only [wrapI]
  repeat refine ⟨by omega, ?_⟩
  refine hK _ ?_; clear hK K
  refine awp_forget [0, 24] (by simp only [restr, List.contains_cons, List.contains_nil, Nat.reduceBEq, Bool.or_false, Bool.or_true, Bool.true_or, Bool.false_or, if_true, if_false, Bool.false_eq_true]; rfl) ?_
  refine awp_cond rfl (fun c0 => ?_) (fun c0 => ?_)
  · have d0 := c0; try simp at d0
    have hz : namedB s = false := by
      cases hb : namedB s with
      | false => rfl
      | true => have h := (named_iff s).1 hb; unfold bt at h; omega
    refine awp_reg_seq fun K hK => ?_
    simp [go_sem, c0, d0]
    repeat refine ⟨by omega, ?_⟩
    refine hK _ ?_; clear hK K
    refine awp_ret ?_
    rw [hz]; simp [go_sem, Tryz.results121]
  · have d0 := c0; try simp at d0
    refine awp_skip ?_
    refine awp_seq ?_
    refine awp_reg_seq fun K hK => ?_
    simp [go_sem, c0, d0]
    repeat refine ⟨by omega, ?_⟩
    refine hK _ ?_; clear hK K
    refine awp_block ?_
    refine awp_forget [0, 3] (by simp [go_sem, restr]; rfl) ?_
    refine awp_loopU (α := Nat) (fun i => [(3, .d (I i))]) (fun i => _) (fun i => i ≤ s.size ∧ ∀ q, q < i → nameAt s q = true) (fun i => s.size - i) 0 (by simp [go_sem]) rfl (by simp) ?_
    rintro i ⟨hi, hx⟩
    refine awp_seq ?_
    refine awp_reg_seq fun K hK => ?_
    simp [go_sem, c0, d0, wrap_pred (i := i) (by omega)]
    repeat refine ⟨by omega, ?_⟩
    refine hK _ ?_; clear hK K
    refine awp_forget [0, 3, 28] (by simp only [restr, List.contains_cons, List.contains_nil, Nat.reduceBEq, Bool.or_false, Bool.or_true, Bool.true_or, Bool.false_or, if_true, if_false, Bool.false_eq_true]; rfl) ?_
    refine awp_cond rfl (fun c1 => ?_) (fun c1 => ?_)
    · have d1 := c1; try simp at d1
      refine awp_skip ?_
      refine awp_seq ?_
      refine awp_block ?_
      refine awp_reg_seq fun K hK => ?_
      simp [go_sem, c0, d0, wrap_pred (i := i) (by omega), c1, d1]
      try simp (disch := omega) only [wrapI]
      repeat refine ⟨by omega, ?_⟩
      refine hK _ ?_; clear hK K
      refine awp_forget [0, 3, 57] (by simp only [restr, List.contains_cons, List.contains_nil, Nat.reduceBEq, Bool.or_false, Bool.or_true, Bool.true_or, Bool.false_or, if_true, if_false, Bool.false_eq_true]; rfl) ?_
      refine awp_cond rfl (fun c2 => ?_) (fun c2 => ?_)
      · have d2 := c2; try simp at d2
        have hz : namedB s = false := named_no d1 (by
          rw [← Bool.not_eq_true, nameAt_iff, bt_lt d1]; unfold bt; omega)
        refine awp_reg_seq fun K hK => ?_
        simp [go_sem, c0, d0, wrap_pred (i := i) (by omega), c1, d1, c2, d2]
        repeat refine ⟨by omega, ?_⟩
        refine hK _ ?_; clear hK K
        refine awp_ret ?_
        rw [hz]; simp [go_sem, Tryz.results121]
      · have d2 := c2; try simp at d2
        have hnx : nameAt s i = true := by
          rw [nameAt_iff, bt_lt d1]; unfold bt; omega
        refine awp_skip ?_
        refine awp_reg_end fun K hK => ?_
        simp [go_sem, c0, d0, wrap_pred (i := i) (by omega), c1, d1, c2, d2]
        try simp (disch := omega) only [wrapI]
        repeat refine ⟨by omega, ?_⟩
        refine hK _ ?_; clear hK K
        refine ⟨i + 1, back_of' (by simp) (.refl _) (by (simp [go_sem, wrap_succ (i := i) (by omega), c0, d0, wrap_pred (i := i) (by omega), c1, d1, c2, d2] <;> omega)), ⟨by omega, fun q hq => by rcases Nat.lt_or_eq_of_le (Nat.le_of_lt_succ hq) with h | h; exact hx q h; rw [h]; exact hnx⟩, by first | omega | (dsimp only; omega)⟩
    · have d1 := c1; try simp at d1
      have hin : i = s.size := by omega
      rw [hin] at hx
      have hz : namedB s = true := (named_iff s).2 ⟨by omega, by omega, by unfold bt; omega, by unfold bt; omega, hx⟩
      refine awp_exit ?_
      refine awp_reg_seq fun K hK => ?_
      simp [go_sem, c0, d0, wrap_pred (i := i) (by omega), c1, d1]
      repeat refine ⟨by omega, ?_⟩
      refine hK _ ?_; clear hK K
      refine awp_ret ?_
      rw [hz]; simp [go_sem, Tryz.results121]
theorem ref32_form_cs (σ : List Blk) (p : Prs) (hs : p.Name.size < 4294967281) : CSF Tryz.prog 89 [.agg (p.enc.map .d)] σ (.d (I (prsE0 p))) := by
  refine CSF.of_body T.en89 Tryz.func89 rfl (by simp [Tryz.ntmps89]) (by simp [go_sem]) fun hwf => ?_
  refine awp_reg_seq fun K hK => ?_
  simp [go_sem, Tryz.ntmps89]
  repeat refine ⟨by omega, ?_⟩
  refine hK _ ?_; clear hK K
  refine awp_seq ?_
  refine awp_reg_seq fun K hK => ?_
  simp [go_sem]
  repeat refine ⟨by omega, ?_⟩
  refine hK _ ?_; clear hK K
  refine awp_forget [1, 10] (by simp only [restr, List.contains_cons, List.contains_nil, Nat.reduceBEq, Bool.or_false, Bool.or_true, Bool.true_or, Bool.false_or, if_true, if_false, Bool.false_eq_true]; rfl) ?_
  refine awp_cond rfl (fun c0 => ?_) (fun c0 => ?_)
  · have d0 := c0; try simp at d0
    refine awp_reg_seq fun K hK => ?_
    simp [go_sem, c0, d0]
    repeat refine ⟨by omega, ?_⟩
    refine hK _ ?_; clear hK K
    refine awp_ret ?_
    simp [go_sem, Tryz.results89, prsE0, c0, d0] <;> omega
  · have d0 := c0; try simp at d0
    refine awp_skip ?_
    refine awp_seq ?_
    refine awp_reg_seq fun K hK => ?_
    simp [go_sem, c0, d0]
    repeat refine ⟨by omega, ?_⟩
    refine CSk.mk (ref32_Named_cs _ _ (by first | assumption | exact loc_app (by assumption) | omega | simp_all)) ?_
    simp [go_sem, c0, d0]
    repeat refine ⟨by omega, ?_⟩
    refine hK _ ?_; clear hK K
    refine awp_forget [1, 14] (by simp only [restr, List.contains_cons, List.contains_nil, Nat.reduceBEq, Bool.or_false, Bool.or_true, Bool.true_or, Bool.false_or, if_true, if_false, Bool.false_eq_true]; rfl) ?_
    refine awp_cond rfl (fun c1 => ?_) (fun c1 => ?_)
    · have d1 := c1; try simp at d1
      refine awp_reg_seq fun K hK => ?_
      simp [go_sem, c0, d0, c1, d1]
      repeat refine ⟨by omega, ?_⟩
      refine hK _ ?_; clear hK K
      refine awp_ret ?_
      simp [go_sem, Tryz.results89, prsE0, c0, d0, c1, d1] <;> omega
    · have d1 := c1; try simp at d1
      refine awp_skip ?_
      refine awp_seq ?_
      refine awp_reg_seq fun K hK => ?_
      simp [go_sem, c0, d0, c1, d1]
      repeat refine ⟨by omega, ?_⟩
      refine CSk.mk (ref03_Check_cs _ p.Birth) ?_
      simp [go_sem, c0, d0, c1, d1]
      repeat refine ⟨by omega, ?_⟩
      refine CSm.mk (ref03_Check_cs _ p.Death) ?_
      simp [go_sem, c0, d0, c1, d1]
      repeat refine ⟨by omega, ?_⟩
      refine hK _ ?_; clear hK K
      refine awp_forget [1, 24] (by simp only [restr, List.contains_cons, List.contains_nil, Nat.reduceBEq, Bool.or_false, Bool.or_true, Bool.true_or, Bool.false_or, if_true, if_false, Bool.false_eq_true]; rfl) ?_
      refine awp_cond rfl (fun c2 => ?_) (fun c2 => ?_)
      · have d2 := c2; try simp at d2
        refine awp_reg_seq fun K hK => ?_
        simp [go_sem, c0, d0, c1, d1, c2, d2]
        repeat refine ⟨by omega, ?_⟩
        refine hK _ ?_; clear hK K
        refine awp_ret ?_
        simp [go_sem, Tryz.results89, prsE0, c0, d0, c1, d1, c2, d2] <;> omega
      · have d2 := c2; try simp at d2
        refine awp_skip ?_
        refine awp_seq ?_
        refine awp_reg_seq fun K hK => ?_
        simp [go_sem, c0, d0, c1, d1, c2, d2]
        repeat refine ⟨by omega, ?_⟩
        refine hK _ ?_; clear hK K
        refine awp_forget [31] (by simp only [restr, List.contains_cons, List.contains_nil, Nat.reduceBEq, Bool.or_false, Bool.or_true, Bool.true_or, Bool.false_or, if_true, if_false, Bool.false_eq_true]; rfl) ?_
        refine awp_cond rfl (fun c3 => ?_) (fun c3 => ?_)
        · have d3 := c3; try simp at d3
          refine awp_reg_seq fun K hK => ?_
          simp [go_sem, c0, d0, c1, d1, c2, d2, c3, d3]
          repeat refine ⟨by omega, ?_⟩
          refine hK _ ?_; clear hK K
          refine awp_ret ?_
          simp [go_sem, Tryz.results89, prsE0, c0, d0, c1, d1, c2, d2, c3, d3] <;> omega
        · have d3 := c3; try simp at d3
          refine awp_skip ?_
          refine awp_reg_seq fun K hK => ?_
          simp [go_sem, c0, d0, c1, d1, c2, d2, c3, d3]
          repeat refine ⟨by omega, ?_⟩
          refine hK _ ?_; clear hK K
          refine awp_ret ?_
          simp [go_sem, Tryz.results89, prsE0, c0, d0, c1, d1, c2, d2, c3, d3] <;> omega
theorem ref32_Check_cs (σ : List Blk) (c : Option Nat) (n : Nat) (g : Nat → Prs) (hn : n < 1000000000) (hN : ∀ i, i < n → (g i).Name.size < 4294967281) : CSF Tryz.prog 58 [.d (SL c 6 Prs.enc n g)] σ (.d (I (prsChk n g))) := by
  refine CSF.of_body T.en58 Tryz.func58 rfl (by simp [Tryz.ntmps58]) (by simp [go_sem]) fun hwf => ?_
  refine awp_reg_seq fun K hK => ?_
  simp [go_sem, Tryz.ntmps58]
  repeat refine ⟨by omega, ?_⟩
  refine hK _ ?_; clear hK K
  refine awp_seq ?_
  refine awp_reg_seq fun K hK => ?_
  simp [go_sem]
  repeat refine ⟨by omega, ?_⟩
  refine hK _ ?_; clear hK K
  refine awp_forget [0, 8] (by simp only [restr, List.contains_cons, List.contains_nil, Nat.reduceBEq, Bool.or_false, Bool.or_true, Bool.true_or, Bool.false_or, if_true, if_false, Bool.false_eq_true]; rfl) ?_
  refine awp_cond rfl (fun c0 => ?_) (fun c0 => ?_)
  · have d0 := c0; try simp at d0
    refine awp_reg_seq fun K hK => ?_
    simp [go_sem, c0, d0]
    repeat refine ⟨by omega, ?_⟩
    refine hK _ ?_; clear hK K
    refine awp_ret ?_
    simp [go_sem, Tryz.results58, prsChk, c0, d0] <;> omega
  · have d0 := c0; try simp at d0
    refine awp_skip ?_
    refine awp_seq ?_
    refine awp_reg_seq fun K hK => ?_
    simp [go_sem, c0, d0]
    repeat refine ⟨by omega, ?_⟩
    refine hK _ ?_; clear hK K
    refine awp_block ?_
    refine awp_forget [0, 9, 10, 11] (by simp [go_sem, restr]; rfl) ?_
    refine awp_loopU (α := Nat) (fun i => [(11, .d (I i))]) (fun i => _) (fun i => i ≤ n ∧ firstE (prsE g) 0 n = firstE (prsE g) i (n - i)) (fun i => n - i) 0 (by simp [go_sem]) rfl (by simp) ?_
    rintro i ⟨hi, hx⟩
    refine awp_reg_seq fun K hK => ?_
    simp [go_sem, c0, d0, hi, wrap_pred (i := i) (by omega)]
    repeat refine ⟨by omega, ?_⟩
    refine hK _ ?_; clear hK K
    refine awp_seq ?_
    refine awp_forget [0, 9, 10, 11, 12] (by simp only [restr, List.contains_cons, List.contains_nil, Nat.reduceBEq, Bool.or_false, Bool.or_true, Bool.true_or, Bool.false_or, if_true, if_false, Bool.false_eq_true]; rfl) ?_
    refine awp_cond rfl (fun c1 => ?_) (fun c1 => ?_)
    · have d1 := c1; try simp at d1
      obtain ⟨k, hk⟩ : ∃ k, n - i = k + 1 := ⟨n - i - 1, by omega⟩
      have hk' : n - (i + 1) = k := by omega
      rw [hk, firstE] at hx
      refine awp_skip ?_
      refine awp_seq ?_
      refine awp_block ?_
      refine awp_reg_seq fun K hK => ?_
      simp [go_sem, c0, d0, hi, wrap_pred (i := i) (by omega), c1, d1]
      repeat refine ⟨by omega, ?_⟩
      refine hK _ ?_; clear hK K
      refine awp_seq ?_
      refine awp_reg_seq fun K hK => ?_
      simp [go_sem, c0, d0, hi, wrap_pred (i := i) (by omega), c1, d1]
      repeat refine ⟨by omega, ?_⟩
      refine CSk.mk (ref32_form_cs _ (g i) (hN i d1)) ?_
      simp [go_sem, c0, d0, hi, wrap_pred (i := i) (by omega), c1, d1]
      repeat refine ⟨by omega, ?_⟩
      refine hK _ ?_; clear hK K
      refine awp_reg_seq fun K hK => ?_
      simp [go_sem, c0, d0, hi, wrap_pred (i := i) (by omega), c1, d1]
      repeat refine ⟨by omega, ?_⟩
      refine hK _ ?_; clear hK K
      refine awp_forget [0, 3, 4, 5, 9, 10, 11, 19] (by simp only [restr, List.contains_cons, List.contains_nil, Nat.reduceBEq, Bool.or_false, Bool.or_true, Bool.true_or, Bool.false_or, if_true, if_false, Bool.false_eq_true]; rfl) ?_
      refine awp_cond rfl (fun c2 => ?_) (fun c2 => ?_)
      · have d2 := c2; try simp at d2
        have he : prsE g i = prsE0 (g i) := by unfold prsE; rw [if_pos d2]
        rw [he, if_pos d2] at hx
        refine awp_reg_seq fun K hK => ?_
        simp [go_sem, c0, d0, hi, wrap_pred (i := i) (by omega), c1, d1, c2, d2]
        repeat refine ⟨by omega, ?_⟩
        refine hK _ ?_; clear hK K
        refine awp_ret ?_
        simp [go_sem, Tryz.results58, prsChk, hx, c0, d0, hi, wrap_pred (i := i) (by omega), c1, d1, c2, d2] <;> omega
      · have d2 := c2; try simp at d2
        refine awp_skip ?_
        refine awp_draw_seq 13 T.mixed (by kernel_rfl) fun K hK => ?_
        simp [go_sem, c0, d0, hi, wrap_pred (i := i) (by omega), c1, d1, c2, d2]
        try simp (disch := omega) only [wrapI]
        repeat refine ⟨by omega, ?_⟩
        refine hK _ ?_; clear hK K
        refine awp_forget [0, 9, 10, 11, 33] (by simp only [restr, List.contains_cons, List.contains_nil, Nat.reduceBEq, Bool.or_false, Bool.or_true, Bool.true_or, Bool.false_or, if_true, if_false, Bool.false_eq_true]; rfl) ?_
        refine awp_cond rfl (fun c3 => ?_) (fun c3 => ?_)
        · have d3 := c3; try simp at d3
          have he : prsE g i = 5 := by unfold prsE; rw [if_neg (by simp [d2]), if_pos d3]
          rw [he] at hx; simp at hx
          refine awp_reg_seq fun K hK => ?_
          simp [go_sem, c0, d0, hi, wrap_pred (i := i) (by omega), c1, d1, c2, d2, c3, d3]
          repeat refine ⟨by omega, ?_⟩
          refine hK _ ?_; clear hK K
          refine awp_ret ?_
          simp [go_sem, Tryz.results58, prsChk, hx, c0, d0, hi, wrap_pred (i := i) (by omega), c1, d1, c2, d2, c3, d3] <;> omega
        · have d3 := c3; try simp at d3
          have he : prsE g i = 0 := by unfold prsE; rw [if_neg (by simp [d2]), if_neg (by omega)]
          rw [he] at hx; simp at hx
          refine awp_skip ?_
          refine awp_reg_end fun K hK => ?_
          simp [go_sem, c0, d0, hi, wrap_pred (i := i) (by omega), c1, d1, c2, d2, c3, d3]
          try simp (disch := omega) only [wrapI]
          repeat refine ⟨by omega, ?_⟩
          refine hK _ ?_; clear hK K
          refine ⟨i + 1, back_of' (by simp) (.refl _) (by (simp [go_sem, wrap_succ (i := i) (by omega), c0, d0, hi, wrap_pred (i := i) (by omega), c1, d1, c2, d2, c3, d3] <;> omega)), ⟨by omega, by rw [hx, hk']⟩, by first | omega | (dsimp only; omega)⟩
    · have d1 := c1; try simp at d1
      obtain rfl : i = n := by omega
      rw [Nat.sub_self, firstE] at hx
      refine awp_exit ?_
      refine awp_reg_seq fun K hK => ?_
      simp [go_sem, c0, d0, hi, wrap_pred (i := i) (by omega), c1, d1]
      repeat refine ⟨by omega, ?_⟩
      refine hK _ ?_; clear hK K
      refine awp_ret ?_
      simp [go_sem, Tryz.results58, prsChk, hx, c0, d0, hi, wrap_pred (i := i) (by omega), c1, d1] <;> omega
end Go.Proofs.YtkochmppmpmddaaGreat

/-! Db -/
namespace Go.Proofs.YtkochmppmpmddaaGreat
open Go.Abs Go.Arch
set_option linter.unusedVariables false
set_option linter.unusedSimpArgs false
set_option maxRecDepth 100000
set_option maxHeartbeats 400000
def Prs.zero : Prs := ⟨0, ⟨#[]⟩, ⟨0, 0⟩, ⟨0, 0⟩⟩
def findPR (n : Nat) (g : Nat → Prs) (u : Int) : Prs × Bool := if prsChk n g ≠ 0 ∨ findP n g u < 0 then (Prs.zero, false) else (g (findP n g u).toNat, true)
theorem findP_lt (n : Nat) (g : Nat → Prs) (u : Int) : findP n g u < n := idx_lt' _ n g
def laterF (d : Int) (g : Nat → Int) : Nat → Int
  | 0 => d
  | i + 1 => (yearsR (laterF d g i) (g i)).1
def untilP (p : Prs) (made : Dating) (y : Int) : Int := min (min (yearsR p.Death.Last y).1 (yearsR (yearsR p.Birth.Last 110).1 y).1) (yearsR (yearsR made.Last 110).1 y).1 + 1
def untilPR (p : Prs) (made : Dating) (y : Int) : Int × Int := if prsE0 p ≠ 0 ∨ datChk made ≠ 0 then (0, 1) else if y < 0 ∨ 200 < y then (0, 2) else (untilP p made y, 0)
def meetR (a b : Dating) : Dating × Bool := if datChk a ≠ 0 ∨ datChk b ≠ 0 ∨ min a.Last b.Last < max a.First b.First then (⟨0, 0⟩, false) else (⟨max a.First b.First, min a.Last b.Last⟩, true)
def learnR (p : Prs) (b d : Dating) : Prs × Bool := (⟨p.ID, p.Name, (meetR p.Birth b).1, (meetR p.Death d).1⟩, (meetR p.Birth b).2 && (meetR p.Death d).2 && decide (prsE0 ⟨p.ID, p.Name, (meetR p.Birth b).1, (meetR p.Death d).1⟩ = 0))
def learnL (n : Nat) (g : Nat → Prs) (k : Int) (b d : Dating) : (Nat × (Nat → Prs)) × Int :=
  if prsChk n g ≠ 0 ∨ datChk b ≠ 0 ∨ datChk d ≠ 0 then ((0, g), 1) else if findP n g k < 0 then ((0, g), 7)
  else if (learnR (g (findP n g k).toNat) b d).2 = false then ((0, g), 10) else ((n, fun q => if q = (findP n g k).toNat then (learnR (g (findP n g k).toNat) b d).1 else g q), 0)
def grE (n : Nat) (g : Nat → Prs) (ids : Nat → Int) (q : Nat) : Int := if findP n g (ids q) < 0 then 7 else 0
def prsGd (k u : Int) : Ground := ⟨2, k, 0, u⟩
def prsGf (n : Nat) (g : Nat → Prs) (ids : Nat → Int) (made : Dating) (y d : Int) (q : Nat) : List Ground :=
  if d < untilP (g (findP n g (ids q)).toNat) made y then [prsGd (ids q) (untilP (g (findP n g (ids q)).toNat) made y)] else []
theorem prsGf_len (n : Nat) (g : Nat → Prs) (ids : Nat → Int) (made : Dating) (y d : Int) (i : Nat) : (prsGf n g ids made y d i).length ≤ 1 := by unfold prsGf; split <;> simp
def prsGr (n : Nat) (g : Nat → Prs) (m : Nat) (ids : Nat → Int) (made : Dating) (y d : Int) : List Ground × Int :=
  if prsChk n g ≠ 0 ∨ datChk made ≠ 0 then ([], 1) else if y < 0 ∨ 200 < y ∨ d < 0 ∨ 1048575 < d then ([], 2) else if ascB ids m = false then ([], 5)
  else if firstE (grE n g ids) 0 m ≠ 0 then ([], 7) else (gather (prsGf n g ids made y d) m, 0)
theorem firstE_at {e : Nat → Int} : ∀ {k i q : Nat}, i ≤ q → q < i + k → e q ≠ 0 → firstE e i k ≠ 0
  | 0, i, q, h1, h2, _ => by omega
  | k + 1, i, q, h1, h2, h3 => by
    rw [firstE]
    by_cases he : e i = 0
    · rw [if_neg (by simp [he])]
      have : q ≠ i := fun h => h3 (h ▸ he)
      exact firstE_at (by omega) (by omega) h3
    · rw [if_pos he]; exact he
theorem findP_at {n : Nat} {g : Nat → Prs} {u : Int} (h : 0 ≤ findP n g u) : (findP n g u).toNat < n ∧ (g (findP n g u).toNat).ID = u ∧ findP n g u = ((findP n g u).toNat : Int) := by
  have h1 := findP_lt n g u
  refine ⟨by omega, ?_, by omega⟩
  rcases idx_spec (fun r : Prs => r.ID == u) (lst n g) 0 with ⟨h2, _⟩ | ⟨q, h2, h3, x, h4, h5, _⟩
  · unfold findP at h; omega
  · have e : (findP n g u).toNat = q := by unfold findP; rw [h3]; omega
    rw [lst_length] at h2
    rw [lst_get h2] at h4
    rw [e]; cases h4; simpa using h5
theorem prs_ok {n : Nat} {g : Nat → Prs} (h0 : prsChk n g = 0) : n ≤ 64 ∧ ∀ i, i < n → prsE0 (g i) = 0 := by
  unfold prsChk at h0
  split at h0
  · omega
  · refine ⟨by omega, fun i hi => ?_⟩
    have := firstE_zero h0 i (by omega) (by omega)
    unfold prsE at this
    split at this
    · exact absurd this (by assumption)
    · rename_i h; exact Decidable.not_not.1 h
theorem ref32_Find_cs (σ : List Blk) (c : Option Nat) (n : Nat) (g : Nat → Prs) (u : Int) (hn : n < 1000000000) (hN : ∀ i, i < n → (g i).Name.size < 4294967281) : CSF Tryz.prog 94 [.d (SL c 6 Prs.enc n g), .d (I u)] σ (.tup [.agg ((findPR n g u).1.enc.map .d), .d (B (findPR n g u).2)]) := by
  refine CSF.of_body T.en94 Tryz.func94 rfl (by simp [Tryz.ntmps94]) (by simp [go_sem]) fun hwf => ?_
  refine awp_reg_seq fun K hK => ?_
  simp [go_sem, Tryz.ntmps94]
  repeat refine ⟨by omega, ?_⟩
  refine hK _ ?_; clear hK K
  refine awp_seq ?_
  refine awp_reg_seq fun K hK => ?_
  simp [go_sem]
  repeat refine ⟨by omega, ?_⟩
  refine CSk.mk (ref32_Check_cs _ c n g hn hN) ?_
  simp [go_sem]
  repeat refine ⟨by omega, ?_⟩
  refine hK _ ?_; clear hK K
  refine awp_forget [0, 1, 4, 10] (by simp only [restr, List.contains_cons, List.contains_nil, Nat.reduceBEq, Bool.or_false, Bool.or_true, Bool.true_or, Bool.false_or, if_true, if_false, Bool.false_eq_true]; rfl) ?_
  refine awp_cond rfl (fun c0 => ?_) (fun c0 => ?_)
  · have d0 := c0; try simp at d0
    have hz : findPR n g u = (Prs.zero, false) := by unfold findPR; rw [if_pos (.inl d0)]
    refine awp_reg_seq fun K hK => ?_
    simp [go_sem, c0, d0]
    repeat refine ⟨by omega, ?_⟩
    refine hK _ ?_; clear hK K
    refine awp_ret ?_
    rw [hz]; simp [go_sem, Tryz.results94, Prs.zero]
  · have d0 := c0; try simp at d0
    refine awp_skip ?_
    refine awp_seq ?_
    refine awp_reg_seq fun K hK => ?_
    simp [go_sem, c0, d0]
    repeat refine ⟨by omega, ?_⟩
    refine hK _ ?_; clear hK K
    refine awp_block ?_
    refine awp_forget [1, 4, 12, 13, 14] (by simp [go_sem, restr]; rfl) ?_
    refine awp_loopU (α := Nat) (fun i => [(14, .d (I i))]) (fun i => _) (fun i => i ≤ n ∧ findP n g u = idxFrom (fun r => r.ID == u) ((lst n g).drop i) i) (fun i => n - i) 0 (by simp [go_sem]) rfl (⟨by omega, rfl⟩) ?_
    rintro i ⟨hi, hx⟩
    refine awp_reg_seq fun K hK => ?_
    simp [go_sem, c0, d0]
    repeat refine ⟨by omega, ?_⟩
    refine hK _ ?_; clear hK K
    refine awp_seq ?_
    refine awp_forget [1, 4, 12, 13, 14, 15] (by simp only [restr, List.contains_cons, List.contains_nil, Nat.reduceBEq, Bool.or_false, Bool.or_true, Bool.true_or, Bool.false_or, if_true, if_false, Bool.false_eq_true]; rfl) ?_
    refine awp_cond rfl (fun c1 => ?_) (fun c1 => ?_)
    · have d1 := c1; try simp at d1
      rw [drop_lst d1, idxFrom] at hx
      refine awp_skip ?_
      refine awp_seq ?_
      refine awp_block ?_
      refine awp_reg_seq fun K hK => ?_
      simp [go_sem, c0, d0, c1, d1]
      repeat refine ⟨by omega, ?_⟩
      refine hK _ ?_; clear hK K
      refine awp_reg_seq fun K hK => ?_
      simp [go_sem, c0, d0, c1, d1]
      repeat refine ⟨by omega, ?_⟩
      refine hK _ ?_; clear hK K
      refine awp_forget [1, 4, 7, 12, 13, 14, 21] (by simp only [restr, List.contains_cons, List.contains_nil, Nat.reduceBEq, Bool.or_false, Bool.or_true, Bool.true_or, Bool.false_or, if_true, if_false, Bool.false_eq_true]; rfl) ?_
      refine awp_cond rfl (fun c2 => ?_) (fun c2 => ?_)
      · have d2 := c2; try simp at d2
        refine awp_reg_seq fun K hK => ?_
        simp [go_sem, c0, d0, c1, d1, c2, d2]
        repeat refine ⟨by omega, ?_⟩
        refine hK _ ?_; clear hK K
        refine awp_ret ?_
        rw [if_pos (by simp [d2])] at hx
        have hz : findPR n g u = (g i, true) := by unfold findPR; rw [hx, if_neg (by omega)]; simp
        rw [hz]; simp [go_sem, Tryz.results94, d2]
      · have d2 := c2; try simp at d2
        refine awp_skip ?_
        refine awp_reg_end fun K hK => ?_
        simp [go_sem, c0, d0, c1, d1, c2, d2]
        try simp (disch := omega) only [wrapI]
        repeat refine ⟨by omega, ?_⟩
        refine hK _ ?_; clear hK K
        refine ⟨i + 1, back_of' (by simp) (.refl _) (by (simp [go_sem, wrap_succ (i := i) (by omega), c0, d0, c1, d1, c2, d2] <;> omega)), ⟨by omega, by rw [hx, if_neg (by simp [d2])]⟩, by first | omega | (dsimp only; omega)⟩
    · have d1 := c1; try simp at d1
      rw [drop_all d1, idxFrom] at hx
      refine awp_exit ?_
      refine awp_reg_seq fun K hK => ?_
      simp [go_sem, c0, d0, c1, d1]
      repeat refine ⟨by omega, ?_⟩
      refine hK _ ?_; clear hK K
      refine awp_ret ?_
      have hz : findPR n g u = (Prs.zero, false) := by unfold findPR; rw [hx, if_pos (by omega)]
      rw [hz]; simp [go_sem, Tryz.results94, Prs.zero]
theorem person_later_cs (σ : List Blk) (d : Int) (c : Option Nat) (n : Nat) (g : Nat → Int) (hn : n < 1000000000) : CSF Tryz.prog 158 [.d (I d), .d (SL c 1 encI n g)] σ (.d (I (laterF d g n))) := by
  refine CSF.of_body T.en158 Tryz.func158 rfl (by simp [Tryz.ntmps158]) (by simp [go_sem]) fun hwf => ?_
  refine awp_reg_seq fun K hK => ?_
  simp [go_sem, Tryz.ntmps158]
  repeat refine ⟨by omega, ?_⟩
  refine hK _ ?_; clear hK K
  refine awp_seq ?_
  refine awp_reg_seq fun K hK => ?_
  simp [go_sem]
  repeat refine ⟨by omega, ?_⟩
  refine hK _ ?_; clear hK K
  refine awp_block ?_
  refine awp_forget [0, 7, 8, 9] (by simp [go_sem, restr]; rfl) ?_
  refine awp_loopU (α := Nat) (fun i => [(0, .d (I (laterF d g i))), (9, .d (I i))]) (fun i => _) (fun i => i ≤ n) (fun i => n - i) 0 (by simp [go_sem, laterF]) rfl (by simp) ?_
  rintro i hi
  refine awp_reg_seq fun K hK => ?_
  simp [go_sem, laterF]
  repeat refine ⟨by omega, ?_⟩
  refine hK _ ?_; clear hK K
  refine awp_seq ?_
  refine awp_forget [0, 7, 8, 9, 10] (by simp only [restr, List.contains_cons, List.contains_nil, Nat.reduceBEq, Bool.or_false, Bool.or_true, Bool.true_or, Bool.false_or, if_true, if_false, Bool.false_eq_true]; rfl) ?_
  refine awp_cond rfl (fun c0 => ?_) (fun c0 => ?_)
  · have d0 := c0; try simp at d0
    refine awp_skip ?_
    refine awp_seq ?_
    refine awp_block ?_
    refine awp_reg_seq fun K hK => ?_
    simp [go_sem, laterF, c0, d0]
    repeat refine ⟨by omega, ?_⟩
    refine hK _ ?_; clear hK K
    refine awp_reg_end fun K hK => ?_
    simp [go_sem, laterF, c0, d0]
    repeat refine ⟨by omega, ?_⟩
    refine CSk.mk (day_Years_cs _ _ _) ?_
    simp [go_sem, laterF, c0, d0]
    repeat refine ⟨by omega, ?_⟩
    refine hK _ ?_; clear hK K
    refine awp_reg_end fun K hK => ?_
    simp [go_sem, laterF, c0, d0]
    try simp (disch := omega) only [wrapI]
    repeat refine ⟨by omega, ?_⟩
    refine hK _ ?_; clear hK K
    refine ⟨i + 1, back_of' (by simp) (.refl _) (by (simp [go_sem, wrap_succ (i := i) (by omega), laterF, c0, d0] <;> omega)), by omega, by first | omega | (dsimp only; omega)⟩
  · have d0 := c0; try simp at d0
    obtain rfl : i = n := by omega
    refine awp_exit ?_
    refine awp_reg_seq fun K hK => ?_
    simp [go_sem, laterF, c0, d0]
    repeat refine ⟨by omega, ?_⟩
    refine hK _ ?_; clear hK K
    refine awp_ret ?_
    simp [go_sem, Tryz.results158, laterF, c0, d0] <;> omega
theorem person_until_cs (σ : List Blk) (p : Prs) (made : Dating) (y : Int) : CSF Tryz.prog 139 [.agg (p.enc.map .d), .agg (made.enc.map .d), .d (I y)] σ (.d (I (untilP p made y))) := by
  have hb := yearsR_bd p.Death.Last y
  unfold isDay at hb
  have hb1 := yearsR_bd (yearsR p.Birth.Last 110).1 y
  unfold isDay at hb1
  have hb2 := yearsR_bd (yearsR made.Last 110).1 y
  unfold isDay at hb2
  refine CSF.of_body T.en139 Tryz.func139 rfl (by simp [Tryz.ntmps139]) (by simp [go_sem]) fun hwf => ?_
  refine awp_reg_seq fun K hK => ?_
  simp [go_sem, Tryz.ntmps139, laterF]
  repeat refine ⟨by omega, ?_⟩
  refine hK _ ?_; clear hK K
  refine awp_draw_seq 19 T.mixed (by kernel_rfl) fun K hK => ?_
  simp [go_sem, laterF]
  try simp (disch := omega) only [wrapI]
  repeat refine ⟨by omega, ?_⟩
  refine CSg.mk ((person_later_cs _ p.Death.Last none 1 (fun _ => y) (by omega)).sub (by simp [go_sem, sameL, sameL0, sameE, sameA, rowsOf])) ?_
  simp [go_sem, laterF]
  try simp (disch := omega) only [wrapI]
  repeat refine ⟨by omega, ?_⟩
  refine CSg.mk ((person_later_cs _ p.Birth.Last none 2 (fun i => if i = 0 then 110 else y) (by omega)).sub (by simp [go_sem, sameL, sameL0, sameE, sameA, rowsOf]; intro i hi; obtain rfl | rfl : i = 0 ∨ i = 1 := (by omega); all_goals rfl)) ?_
  simp [go_sem, laterF]
  try simp (disch := omega) only [wrapI]
  repeat refine ⟨by omega, ?_⟩
  refine CSg.mk ((person_later_cs _ made.Last none 2 (fun i => if i = 0 then 110 else y) (by omega)).sub (by simp [go_sem, sameL, sameL0, sameE, sameA, rowsOf]; intro i hi; obtain rfl | rfl : i = 0 ∨ i = 1 := (by omega); all_goals rfl)) ?_
  simp [go_sem, laterF]
  try simp (disch := omega) only [wrapI]
  repeat refine ⟨by omega, ?_⟩
  refine hK _ ?_; clear hK K
  refine awp_ret ?_
  simp [go_sem, Tryz.results139, untilP, laterF] <;> omega
theorem ref32_aged_cs (σ : List Blk) (d y : Int) : CSF Tryz.prog 153 [.d (I d), .d (I y)] σ (.d (I (yearsR (yearsR d 110).1 y).1)) := by
  refine CSF.of_body T.en153 Tryz.func153 rfl (by simp [Tryz.ntmps153]) (by simp [go_sem]) fun hwf => ?_
  refine awp_reg_seq fun K hK => ?_
  simp [go_sem, Tryz.ntmps153]
  repeat refine ⟨by omega, ?_⟩
  refine hK _ ?_; clear hK K
  refine awp_reg_seq fun K hK => ?_
  simp [go_sem]
  repeat refine ⟨by omega, ?_⟩
  refine CSk.mk (ref02_Years_cs _ _ _) ?_
  simp [go_sem]
  repeat refine ⟨by omega, ?_⟩
  refine hK _ ?_; clear hK K
  refine awp_reg_seq fun K hK => ?_
  simp [go_sem]
  repeat refine ⟨by omega, ?_⟩
  refine CSk.mk (ref02_Years_cs _ _ _) ?_
  simp [go_sem]
  repeat refine ⟨by omega, ?_⟩
  refine hK _ ?_; clear hK K
  refine awp_reg_seq fun K hK => ?_
  simp [go_sem]
  repeat refine ⟨by omega, ?_⟩
  refine hK _ ?_; clear hK K
  refine awp_ret ?_
  simp [go_sem, Tryz.results153] <;> omega
theorem ref32_Until_cs (σ : List Blk) (p : Prs) (made : Dating) (y : Int) (hs : p.Name.size < 4294967281) : CSF Tryz.prog 130 [.agg (p.enc.map .d), .agg (made.enc.map .d), .d (I y)] σ (.tup [.d (I (untilPR p made y).1), .d (I (untilPR p made y).2)]) := by
  have hb := yearsR_bd p.Death.Last y
  unfold isDay at hb
  have hb1 := yearsR_bd (yearsR p.Birth.Last 110).1 y
  unfold isDay at hb1
  have hb2 := yearsR_bd (yearsR made.Last 110).1 y
  unfold isDay at hb2
  refine CSF.of_body T.en130 Tryz.func130 rfl (by simp [Tryz.ntmps130]) (by simp [go_sem]) fun hwf => ?_
  refine awp_reg_seq fun K hK => ?_
  simp [go_sem, Tryz.ntmps130]
  repeat refine ⟨by omega, ?_⟩
  refine hK _ ?_; clear hK K
  refine awp_seq ?_
  refine awp_reg_seq fun K hK => ?_
  simp [go_sem]
  repeat refine ⟨by omega, ?_⟩
  refine CSk.mk (ref32_form_cs _ p hs) ?_
  simp [go_sem]
  repeat refine ⟨by omega, ?_⟩
  refine CSm.mk (ref03_Check_cs _ made) ?_
  simp [go_sem]
  repeat refine ⟨by omega, ?_⟩
  refine hK _ ?_; clear hK K
  refine awp_forget [2, 3, 4, 17] (by simp only [restr, List.contains_cons, List.contains_nil, Nat.reduceBEq, Bool.or_false, Bool.or_true, Bool.true_or, Bool.false_or, if_true, if_false, Bool.false_eq_true]; rfl) ?_
  refine awp_cond rfl (fun c0 => ?_) (fun c0 => ?_)
  · have d0 := c0; try simp at d0
    have hz : untilPR p made y = (0, 1) := by unfold untilPR; rw [if_pos (by simpa using d0)]
    refine awp_reg_seq fun K hK => ?_
    simp [go_sem, c0, d0]
    repeat refine ⟨by omega, ?_⟩
    refine hK _ ?_; clear hK K
    refine awp_ret ?_
    rw [hz]; simp [go_sem, Tryz.results130]
  · have d0 := c0; try simp at d0
    refine awp_skip ?_
    refine awp_seq ?_
    refine awp_reg_seq fun K hK => ?_
    simp [go_sem, c0, d0]
    repeat refine ⟨by omega, ?_⟩
    refine hK _ ?_; clear hK K
    refine awp_forget [2, 3, 4, 23] (by simp only [restr, List.contains_cons, List.contains_nil, Nat.reduceBEq, Bool.or_false, Bool.or_true, Bool.true_or, Bool.false_or, if_true, if_false, Bool.false_eq_true]; rfl) ?_
    refine awp_cond rfl (fun c1 => ?_) (fun c1 => ?_)
    · have d1 := c1; try simp at d1
      have hz : untilPR p made y = (0, 2) := by unfold untilPR; rw [if_neg (by simpa using d0), if_pos (by omega)]
      refine awp_reg_seq fun K hK => ?_
      simp [go_sem, c0, d0, c1, d1]
      repeat refine ⟨by omega, ?_⟩
      refine hK _ ?_; clear hK K
      refine awp_ret ?_
      rw [hz]; simp [go_sem, Tryz.results130]
    · have d1 := c1; try simp at d1
      have hz : untilPR p made y = (untilP p made y, 0) := by unfold untilPR; rw [if_neg (by simpa using d0), if_neg (by omega)]
      refine awp_skip ?_
      refine awp_reg_seq fun K hK => ?_
      simp [go_sem, c0, d0, c1, d1]
      repeat refine ⟨by omega, ?_⟩
      refine CSk.mk (ref02_Years_cs _ _ _) ?_
      simp [go_sem, c0, d0, c1, d1]
      repeat refine ⟨by omega, ?_⟩
      refine hK _ ?_; clear hK K
      refine awp_draw_seq 12 T.mixed (by kernel_rfl) fun K hK => ?_
      simp [go_sem, c0, d0, c1, d1]
      try simp (disch := omega) only [wrapI]
      repeat refine ⟨by omega, ?_⟩
      refine CSg.mk (ref32_aged_cs _ _ _) ?_
      simp [go_sem, c0, d0, c1, d1]
      try simp (disch := omega) only [wrapI]
      repeat refine ⟨by omega, ?_⟩
      refine CSg.mk (ref32_aged_cs _ _ _) ?_
      simp [go_sem, c0, d0, c1, d1]
      try simp (disch := omega) only [wrapI]
      repeat refine ⟨by omega, ?_⟩
      refine hK _ ?_; clear hK K
      refine awp_ret ?_
      rw [hz]; simp [go_sem, Tryz.results130, untilP]
theorem dating_both_cs (σ : List Blk) (a b : Dating) : CSF Tryz.prog 144 [.agg (a.enc.map .d), .agg (b.enc.map .d)] σ (.d (B (decide (datChk a = 0) && decide (datChk b = 0)))) := by
  refine CSF.of_body T.en144 Tryz.func144 rfl (by simp [Tryz.ntmps144]) (by simp [go_sem]) fun hwf => ?_
  refine awp_reg_seq fun K hK => ?_
  simp [go_sem, Tryz.ntmps144]
  repeat refine ⟨by omega, ?_⟩
  refine hK _ ?_; clear hK K
  refine awp_reg_seq fun K hK => ?_
  simp [go_sem]
  repeat refine ⟨by omega, ?_⟩
  refine CSk.mk (dating_Check_cs _ _) ?_
  simp [go_sem]
  repeat refine ⟨by omega, ?_⟩
  refine CSm.mk (dating_Check_cs _ _) ?_
  simp [go_sem]
  repeat refine ⟨by omega, ?_⟩
  refine hK _ ?_; clear hK K
  refine awp_ret ?_
  simp [go_sem, Tryz.results144]
  rfl
theorem dating_Meet_cs (σ : List Blk) (a b : Dating) : CSF Tryz.prog 115 [.agg (a.enc.map .d), .agg (b.enc.map .d)] σ (.tup [.agg ((meetR a b).1.enc.map .d), .d (B (meetR a b).2)]) := by
  refine CSF.of_body T.en115 Tryz.func115 rfl (by simp [Tryz.ntmps115]) (by simp [go_sem]) fun hwf => ?_
  refine awp_reg_seq fun K hK => ?_
  simp [go_sem, Tryz.ntmps115]
  repeat refine ⟨by omega, ?_⟩
  refine hK _ ?_; clear hK K
  refine awp_reg_seq fun K hK => ?_
  simp [go_sem]
  repeat refine ⟨by omega, ?_⟩
  refine hK _ ?_; clear hK K
  refine awp_seq ?_
  refine awp_reg_seq fun K hK => ?_
  simp [go_sem]
  repeat refine ⟨by omega, ?_⟩
  refine CSk.mk (dating_both_cs _ a b) ?_
  simp [go_sem]
  repeat refine ⟨by omega, ?_⟩
  refine hK _ ?_; clear hK K
  refine awp_forget [4, 6, 28] (by simp only [restr, List.contains_cons, List.contains_nil, Nat.reduceBEq, Bool.or_false, Bool.or_true, Bool.true_or, Bool.false_or, if_true, if_false, Bool.false_eq_true]; rfl) ?_
  refine awp_cond rfl (fun c0 => ?_) (fun c0 => ?_)
  · have d0 := c0; try simp at d0
    have hz : meetR a b = (⟨0, 0⟩, false) := by unfold meetR; rw [if_pos (by simpa [or_assoc] using d0)]
    refine awp_reg_seq fun K hK => ?_
    simp [go_sem, c0, d0]
    repeat refine ⟨by omega, ?_⟩
    refine hK _ ?_; clear hK K
    refine awp_ret ?_
    rw [hz]; simp [go_sem, Tryz.results115]
  · have d0 := c0; try simp at d0
    have hz : meetR a b = (⟨max a.First b.First, min a.Last b.Last⟩, true) := by unfold meetR; rw [if_neg (by rintro (h | h | h); exact h d0.1.1; exact h d0.1.2; omega)]
    refine awp_skip ?_
    refine awp_reg_seq fun K hK => ?_
    simp [go_sem, c0, d0]
    repeat refine ⟨by omega, ?_⟩
    refine hK _ ?_; clear hK K
    refine awp_ret ?_
    rw [hz]; simp [go_sem, Tryz.results115]
theorem person_learned_cs (σ : List Blk) (p : Prs) (b d : Dating) (hs : p.Name.size < 4294967281) (hσ : σ[0]? = some (.loc 0)) : CSF Tryz.prog 74 [.agg (p.enc.map .d), .agg (b.enc.map .d), .agg (d.enc.map .d)] σ (.tup [.agg ((learnR p b d).1.enc.map .d), .d (B (learnR p b d).2)]) := by
  refine CSF.of_body T.en74 Tryz.func74 rfl (by simp [Tryz.ntmps74]) (by simp [go_sem]) fun hwf => ?_
  refine awp_reg_seq fun K hK => ?_
  simp [go_sem, Tryz.ntmps74]
  repeat refine ⟨by omega, ?_⟩
  refine hK _ ?_; clear hK K
  refine awp_reg_seq fun K hK => ?_
  simp [go_sem]
  repeat refine ⟨by omega, ?_⟩
  refine hK _ ?_; clear hK K
  refine awp_reg_seq fun K hK => ?_
  simp [go_sem]
  repeat refine ⟨by omega, ?_⟩
  refine CSk.mk (dating_Meet_cs _ p.Birth b) ?_
  simp [go_sem]
  repeat refine ⟨by omega, ?_⟩
  refine hK _ ?_; clear hK K
  refine awp_reg_seq fun K hK => ?_
  simp [go_sem]
  repeat refine ⟨by omega, ?_⟩
  refine CSk.mk (dating_Meet_cs _ p.Death d) ?_
  simp [go_sem]
  repeat refine ⟨by omega, ?_⟩
  refine hK _ ?_; clear hK K
  apply awp_late_seq 11 10 T.mixed (by kernel_rfl)
  · intro K hK
    simp [go_sem]
    repeat refine ⟨by omega, ?_⟩
    refine CSg.mk (person_fault_cs _ ⟨p.ID, p.Name, (meetR p.Birth b).1, (meetR p.Death d).1⟩ hs (loc_app hσ)) ?_
    simp [go_sem]
    repeat refine ⟨by omega, ?_⟩
    exact hK _ _
  · simp [go_sem]; rfl
  · intro K hK
    simp [go_sem]
    repeat refine ⟨by omega, ?_⟩
    refine CSg.mk (person_fault_cs _ ⟨p.ID, p.Name, (meetR p.Birth b).1, (meetR p.Death d).1⟩ hs (loc_app hσ)) ?_
    simp [go_sem]
    repeat refine ⟨by omega, ?_⟩
    exact hK _ _
  intro K hK
  simp [go_sem]
  repeat refine ⟨by omega, ?_⟩
  refine hK _ ?_; clear hK K
  refine awp_ret ?_
  simp [go_sem, Tryz.results74, learnR]
  rfl
theorem person_Grounds_cs (σ : List Blk) (c : Option Nat) (n : Nat) (g : Nat → Prs) (c' : Option Nat) (m : Nat) (ids : Nat → Int) (made : Dating) (y d : Int) (hn : n < 1000000000) (hm : m < 1000000000) (hN : ∀ i, i < n → (g i).Name.size < 4294967281) (hσ : σ[0]? = some (.loc 0)) : CSF Tryz.prog 107 [.d (SL c 6 Prs.enc n g), .d (SL c' 1 encI m ids), .agg (made.enc.map .d), .d (I y), .d (I d)] σ (.tup [.d (SL none 4 Ground.enc (prsGr n g m ids made y d).1.length (nth (prsGr n g m ids made y d).1)), .d (I (prsGr n g m ids made y d).2)]) := by
  refine CSF.of_body T.en107 Tryz.func107 rfl (by simp [Tryz.ntmps107]) (by simp [go_sem]) fun hwf => ?_
  refine awp_reg_seq fun K hK => ?_
  simp [go_sem, Tryz.ntmps107]
  repeat refine ⟨by omega, ?_⟩
  refine hK _ ?_; clear hK K
  refine awp_seq ?_
  refine awp_block ?_
  refine awp_reg_seq fun K hK => ?_
  simp [go_sem]
  repeat refine ⟨by omega, ?_⟩
  refine CSk.mk (person_Check_cs _ c n g hn hN (loc_app hσ)) ?_
  simp [go_sem]
  repeat refine ⟨by omega, ?_⟩
  refine CSm.mk (dating_Check_cs _ made) ?_
  simp [go_sem]
  repeat refine ⟨by omega, ?_⟩
  refine hK _ ?_; clear hK K
  refine awp_forget [0, 1, 3, 4, 7, 18] (by simp only [restr, List.contains_cons, List.contains_nil, Nat.reduceBEq, Bool.or_false, Bool.or_true, Bool.true_or, Bool.false_or, if_true, if_false, Bool.false_eq_true]; rfl) ?_
  refine awp_cond rfl (fun c0 => ?_) (fun c0 => ?_)
  · have d0 := c0; try simp at d0
    have hz : prsGr n g m ids made y d = ([], 1) := by unfold prsGr; rw [if_pos (by simpa using d0)]
    refine awp_reg_seq fun K hK => ?_
    simp [go_sem, c0, d0]
    repeat refine ⟨by omega, ?_⟩
    refine hK _ ?_; clear hK K
    refine awp_ret ?_
    rw [hz]; simp [go_sem, Tryz.results107]
  · have d0 := c0; try simp at d0
    refine awp_reg_seq fun K hK => ?_
    simp [go_sem, c0, d0]
    repeat refine ⟨by omega, ?_⟩
    refine hK _ ?_; clear hK K
    refine awp_forget [0, 1, 3, 4, 7, 27] (by simp only [restr, List.contains_cons, List.contains_nil, Nat.reduceBEq, Bool.or_false, Bool.or_true, Bool.true_or, Bool.false_or, if_true, if_false, Bool.false_eq_true]; rfl) ?_
    refine awp_cond rfl (fun c1 => ?_) (fun c1 => ?_)
    · have d1 := c1; try simp at d1
      have hz : prsGr n g m ids made y d = ([], 2) := by unfold prsGr; rw [if_neg (by simpa using d0), if_pos (by omega)]
      refine awp_reg_seq fun K hK => ?_
      simp [go_sem, c0, d0, c1, d1]
      repeat refine ⟨by omega, ?_⟩
      refine hK _ ?_; clear hK K
      refine awp_ret ?_
      rw [hz]; simp [go_sem, Tryz.results107]
    · have d1 := c1; try simp at d1
      refine awp_skip ?_
      refine awp_seq ?_
      refine awp_reg_seq fun K hK => ?_
      simp [go_sem, c0, d0, c1, d1]
      repeat refine ⟨by omega, ?_⟩
      refine hK _ ?_; clear hK K
      refine awp_block ?_
      refine awp_forget [0, 1, 3, 4, 7, 43, 44] (by simp [go_sem, restr]; rfl) ?_
      refine awp_loopU (α := Nat) (fun i => [(44, .d (I i))]) (fun i => _) (fun i => i ≤ m ∧ ∀ q, 0 < q → q < i → ids (q - 1) < ids q) (fun i => m - i) 0 (by simp [go_sem]) rfl (by simp) ?_
      rintro i ⟨hi, hx⟩
      refine awp_reg_seq fun K hK => ?_
      simp [go_sem, c0, d0, c1, d1, wrap_pred (i := i) (by omega)]
      repeat refine ⟨by omega, ?_⟩
      refine hK _ ?_; clear hK K
      refine awp_seq ?_
      refine awp_forget [0, 1, 3, 4, 7, 43, 44, 45] (by simp only [restr, List.contains_cons, List.contains_nil, Nat.reduceBEq, Bool.or_false, Bool.or_true, Bool.true_or, Bool.false_or, if_true, if_false, Bool.false_eq_true]; rfl) ?_
      refine awp_cond rfl (fun c2 => ?_) (fun c2 => ?_)
      · have d2 := c2; try simp at d2
        refine awp_skip ?_
        refine awp_seq ?_
        refine awp_block ?_
        refine awp_reg_seq fun K hK => ?_
        simp [go_sem, c0, d0, c1, d1, wrap_pred (i := i) (by omega), c2, d2]
        repeat refine ⟨by omega, ?_⟩
        refine hK _ ?_; clear hK K
        refine awp_draw_seq 14 T.mixed (by kernel_rfl) fun K hK => ?_
        simp [go_sem, c0, d0, c1, d1, wrap_pred (i := i) (by omega), c2, d2]
        try simp (disch := omega) only [wrapI]
        repeat refine ⟨by omega, ?_⟩
        refine hK _ ?_; clear hK K
        refine awp_forget [0, 1, 3, 4, 7, 43, 44, 60] (by simp only [restr, List.contains_cons, List.contains_nil, Nat.reduceBEq, Bool.or_false, Bool.or_true, Bool.true_or, Bool.false_or, if_true, if_false, Bool.false_eq_true]; rfl) ?_
        refine awp_cond rfl (fun c3 => ?_) (fun c3 => ?_)
        · have d3 := c3; try simp at d3
          have hz : prsGr n g m ids made y d = ([], 5) := by unfold prsGr; rw [if_neg (by simpa using d0), if_neg (by omega), if_pos (asc_no d2 d3.1 d3.2)]
          refine awp_reg_seq fun K hK => ?_
          simp [go_sem, c0, d0, c1, d1, wrap_pred (i := i) (by omega), c2, d2, c3, d3]
          repeat refine ⟨by omega, ?_⟩
          refine hK _ ?_; clear hK K
          refine awp_ret ?_
          rw [hz]; simp [go_sem, Tryz.results107]
        · have d3 := c3; try simp at d3
          refine awp_skip ?_
          refine awp_reg_end fun K hK => ?_
          simp [go_sem, c0, d0, c1, d1, wrap_pred (i := i) (by omega), c2, d2, c3, d3]
          try simp (disch := omega) only [wrapI]
          repeat refine ⟨by omega, ?_⟩
          refine hK _ ?_; clear hK K
          refine ⟨i + 1, back_of' (by simp) (.refl _) (by (simp [go_sem, wrap_succ (i := i) (by omega), c0, d0, c1, d1, wrap_pred (i := i) (by omega), c2, d2, c3, d3] <;> omega)), ⟨by omega, asc_step hx d3⟩, by first | omega | (dsimp only; omega)⟩
      · have d2 := c2; try simp at d2
        have him : i = m := by omega
        rw [him] at hx
        have ha := asc_yes hx
        refine awp_exit ?_
        refine awp_reg_seq fun K hK => ?_
        simp [go_sem, c0, d0, c1, d1, wrap_pred (i := i) (by omega), c2, d2]
        repeat refine ⟨by omega, ?_⟩
        refine hK _ ?_; clear hK K
        refine awp_seq ?_
        refine awp_thawT 13 4 (fun i => Ground.enc (nth ([] : List Ground) i)) (by simp [go_sem]) (by simp [go_sem]; rfl) ?_
        refine awp_reg_seq fun K hK => ?_
        simp [go_sem, c0, d0, c1, d1, wrap_pred (i := i) (by omega), c2, d2]
        repeat refine ⟨by omega, ?_⟩
        refine hK _ ?_; clear hK K
        refine awp_block ?_
        refine awp_forget [0, 3, 4, 7, 13, 62, 63, 64] (by simp [go_sem, restr]; rfl) ?_
        refine awp_mv [σ.length + 1] (by simp) ?_
        refine awp_loopU (α := Nat) (fun q => [(13, .ms (σ.length + 1) 4 0 (gather (prsGf n g ids made y d) q).length), (64, .d (I q))]) (fun q => σ ++ [.var [.d (I made.First), .d (I made.Last)], .arr 4 (gather (prsGf n g ids made y d) q).length (fun k => Ground.enc (nth (gather (prsGf n g ids made y d) q) k))]) (fun q => q ≤ m ∧ ∀ k, k < q → 0 ≤ findP n g (ids k)) (fun q => m - q) 0 (by simp [go_sem, gather]) rfl (by simp) ?_
        rintro q ⟨hq, hf⟩
        refine awp_reg_seq fun K hK => ?_
        simp [go_sem, c0, d0, c1, d1, wrap_pred (i := i) (by omega), c2, d2]
        repeat refine ⟨by omega, ?_⟩
        refine hK _ ?_; clear hK K
        refine awp_seq ?_
        refine awp_forget [0, 3, 4, 7, 13, 62, 63, 64, 65] (by simp only [restr, List.contains_cons, List.contains_nil, Nat.reduceBEq, Bool.or_false, Bool.or_true, Bool.true_or, Bool.false_or, if_true, if_false, Bool.false_eq_true]; rfl) ?_
        refine awp_cond rfl (fun c4 => ?_) (fun c4 => ?_)
        · have d4 := c4; try simp at d4
          have hl := gather_len (prsGf_len n g ids made y d) q
          have hlt := findP_lt n g (ids q)
          refine awp_skip ?_
          refine awp_seq ?_
          refine awp_block ?_
          refine awp_reg_seq fun K hK => ?_
          simp [go_sem, c0, d0, c1, d1, wrap_pred (i := i) (by omega), c2, d2, c4, d4]
          repeat refine ⟨by omega, ?_⟩
          refine hK _ ?_; clear hK K
          refine awp_reg_seq fun K hK => ?_
          simp [go_sem, c0, d0, c1, d1, wrap_pred (i := i) (by omega), c2, d2, c4, d4]
          repeat refine ⟨by omega, ?_⟩
          refine CSk.mk (person_index_cs _ c n g (ids q) hn) ?_
          simp [go_sem, c0, d0, c1, d1, wrap_pred (i := i) (by omega), c2, d2, c4, d4]
          repeat refine ⟨by omega, ?_⟩
          refine hK _ ?_; clear hK K
          refine awp_seq ?_
          refine awp_reg_seq fun K hK => ?_
          simp [go_sem, c0, d0, c1, d1, wrap_pred (i := i) (by omega), c2, d2, c4, d4]
          repeat refine ⟨by omega, ?_⟩
          refine hK _ ?_; clear hK K
          refine awp_forget [0, 3, 4, 7, 13, 15, 16, 62, 63, 64, 72] (by simp only [restr, List.contains_cons, List.contains_nil, Nat.reduceBEq, Bool.or_false, Bool.or_true, Bool.true_or, Bool.false_or, if_true, if_false, Bool.false_eq_true]; rfl) ?_
          refine awp_cond rfl (fun c5 => ?_) (fun c5 => ?_)
          · have d5 := c5; try simp at d5
            have hz : prsGr n g m ids made y d = ([], 7) := by unfold prsGr; rw [if_neg (by simpa using d0), if_neg (by omega), if_neg (by simp [ha]), if_pos (firstE_at (q := q) (by omega) (by omega) (by unfold grE; rw [if_pos d5]; decide))]
            refine awp_reg_seq fun K hK => ?_
            simp [go_sem, c0, d0, c1, d1, wrap_pred (i := i) (by omega), c2, d2, c4, d4, c5, d5]
            repeat refine ⟨by omega, ?_⟩
            refine hK _ ?_; clear hK K
            refine awp_ret ?_
            rw [hz]; simp [go_sem, Tryz.results107]
          · have d5 := c5; try simp at d5
            refine awp_skip ?_
            refine awp_draw_seq 7 T.mixed (by kernel_rfl) fun K hK => ?_
            simp [go_sem, c0, d0, c1, d1, wrap_pred (i := i) (by omega), c2, d2, c4, d4, c5, d5]
            repeat refine ⟨by omega, ?_⟩
            refine CSg.mk (person_until_cs _ (g (findP n g (ids q)).toNat) made y) ?_
            simp [go_sem, c0, d0, c1, d1, wrap_pred (i := i) (by omega), c2, d2, c4, d4, c5, d5]
            repeat refine ⟨by omega, ?_⟩
            refine hK _ ?_; clear hK K
            refine awp_reg_seq fun K hK => ?_
            simp [go_sem, c0, d0, c1, d1, wrap_pred (i := i) (by omega), c2, d2, c4, d4, c5, d5]
            repeat refine ⟨by omega, ?_⟩
            refine hK _ ?_; clear hK K
            refine awp_forget [0, 3, 4, 7, 13, 15, 17, 62, 63, 64, 82] (by simp only [restr, List.contains_cons, List.contains_nil, Nat.reduceBEq, Bool.or_false, Bool.or_true, Bool.true_or, Bool.false_or, if_true, if_false, Bool.false_eq_true]; rfl) ?_
            refine awp_cond rfl (fun c6 => ?_) (fun c6 => ?_)
            · have d6 := c6; try simp at d6
              have hg : gather (prsGf n g ids made y d) (q + 1) = gather (prsGf n g ids made y d) q ++ [prsGd (ids q) (untilP (g (findP n g (ids q)).toNat) made y)] := by rw [gather, prsGf, if_pos d6]
              refine awp_reg_end fun K hK => ?_
              simp [go_sem, c0, d0, c1, d1, wrap_pred (i := i) (by omega), c2, d2, c4, d4, c5, d5, c6, d6, hg, hwf.one, hwf.zero]
              repeat refine ⟨by omega, ?_⟩
              refine hK _ ?_; clear hK K
              refine awp_rows (σ.length + 1) (fun k => Ground.enc (nth (gather (prsGf n g ids made y d) q ++ [prsGd (ids q) (untilP (g (findP n g (ids q)).toNat) made y)]) k)) (by simp [go_sem]; first | exact ⟨rfl, rfl, rfl⟩ | exact ⟨rfl, rfl⟩ | rfl) (by exact fun k hk => cat_nth (enc := Ground.enc) (x := prsGd (ids q) (untilP (g (findP n g (ids q)).toNat) made y)) rfl hk) (by simp [go_sem]; rfl) ?_
              refine awp_reg_end fun K hK => ?_
              simp [go_sem, c0, d0, c1, d1, wrap_pred (i := i) (by omega), c2, d2, c4, d4, c5, d5, c6, d6, hg]
              try simp (disch := omega) only [wrapI]
              repeat refine ⟨by omega, ?_⟩
              refine hK _ ?_; clear hK K
              refine ⟨q + 1, back_of' (by simp [go_sem, wrap_succ (i := q) (by omega), c0, d0, c1, d1, wrap_pred (i := i) (by omega), c2, d2, c4, d4, c5, d5, c6, d6, hg]) ((leaves_app (by simp [go_sem]))) (by (simp [go_sem, wrap_succ (i := q) (by omega), c0, d0, c1, d1, wrap_pred (i := i) (by omega), c2, d2, c4, d4, c5, d5, c6, d6, hg] <;> omega)), ⟨by omega, fun k hk => by rcases Nat.lt_or_eq_of_le (Nat.le_of_lt_succ hk) with h | h; exact hf k h; rw [h]; omega⟩, by first | omega | (dsimp only; omega)⟩
            · have d6 := c6; try simp at d6
              have hg : gather (prsGf n g ids made y d) (q + 1) = gather (prsGf n g ids made y d) q := by rw [gather, prsGf, if_neg (by omega)]; simp
              refine awp_skip ?_
              refine awp_reg_end fun K hK => ?_
              simp [go_sem, c0, d0, c1, d1, wrap_pred (i := i) (by omega), c2, d2, c4, d4, c5, d5, c6, d6, hg]
              try simp (disch := omega) only [wrapI]
              repeat refine ⟨by omega, ?_⟩
              refine hK _ ?_; clear hK K
              refine ⟨q + 1, back_of' (by simp [go_sem, wrap_succ (i := q) (by omega), c0, d0, c1, d1, wrap_pred (i := i) (by omega), c2, d2, c4, d4, c5, d5, c6, d6, hg]) ((leaves_app (by simp [go_sem]))) (by (simp [go_sem, wrap_succ (i := q) (by omega), c0, d0, c1, d1, wrap_pred (i := i) (by omega), c2, d2, c4, d4, c5, d5, c6, d6, hg] <;> omega)), ⟨by omega, fun k hk => by rcases Nat.lt_or_eq_of_le (Nat.le_of_lt_succ hk) with h | h; exact hf k h; rw [h]; omega⟩, by first | omega | (dsimp only; omega)⟩
        · have d4 := c4; try simp at d4
          obtain rfl : q = m := by omega
          have hz : prsGr n g q ids made y d = (gather (prsGf n g ids made y d) q, 0) := by unfold prsGr; rw [if_neg (by simpa using d0), if_neg (by omega), if_neg (by simp [ha]), if_neg (by simp only [ne_eq, Decidable.not_not]; exact firstE_of fun k h1 h2 => by unfold grE; rw [if_neg (by have := hf k (by omega); omega)])]
          refine awp_exit ?_
          refine awp_reg_seq fun K hK => ?_
          simp [go_sem, c0, d0, c1, d1, wrap_pred (i := i) (by omega), c2, d2, c4, d4]
          repeat refine ⟨by omega, ?_⟩
          refine hK _ ?_; clear hK K
          refine awp_freeze (σ.length + 1) (by simp [go_sem]; first | exact ⟨rfl, rfl, rfl⟩ | exact ⟨rfl, rfl⟩ | rfl) (by simp [go_sem]; rfl) (by simp [go_sem, hwf.frz, hwf.frz0]; rfl) ?_
          refine awp_ret ?_
          rw [hz]; simp [go_sem, Tryz.results107]
end Go.Proofs.YtkochmppmpmddaaGreat

/-! Dc -/
namespace Go.Proofs.YtkochmppmpmddaaGreat
open Go.Abs Go.Arch
set_option linter.unusedVariables false
set_option linter.unusedSimpArgs false
set_option maxRecDepth 100000
set_option maxHeartbeats 400000
open Classical in
noncomputable def eqL {α : Type} (l m : List α) : Bool := decide (l = m)
theorem eqL_iff {α : Type} {l m : List α} : eqL l m = true ↔ l = m := by unfold eqL; simp
theorem eqL_not {α : Type} {l m : List α} : eqL l m = false ↔ l ≠ m := by rw [← Bool.not_eq_true, eqL_iff]
theorem eqL_len {α : Type} {n m : Nat} {f g : Nat → α} (h : ¬ n = m) : eqL (lst n f) (lst m g) = false := by
  rw [eqL_not]; intro he; have := congrArg List.length he; rw [lst_length, lst_length] at this; exact h this
theorem eqL_at {α : Type} {n m : Nat} {f g : Nat → α} {i : Nat} (h1 : i < n) (h2 : i < m) (h : f i ≠ g i) : eqL (lst n f) (lst m g) = false := by
  rw [eqL_not]; intro he
  have e1 := lst_get (f := f) h1
  rw [he, lst_get h2] at e1
  exact h (Option.some.inj e1).symm
theorem lst_congr {α : Type} {n : Nat} {f g : Nat → α} (h : ∀ q, q < n → f q = g q) : lst n f = lst n g :=
  List.map_congr_left fun q hq => h q (by simpa using hq)
theorem eqL_yes {α : Type} {n m : Nat} {f g : Nat → α} (h : n = m) (hq : ∀ q, q < n → f q = g q) : eqL (lst n f) (lst m g) = true := by
  rw [eqL_iff, ← h]; exact lst_congr hq
structure Reason where
  Gd : Ground
  Pm : Int
instance : Inhabited Reason := ⟨⟨⟨0, 0, 0, 0⟩, 0⟩⟩
def Reason.enc (r : Reason) : List D := [I r.Gd.Kind, I r.Gd.Source, I r.Gd.Unit, I r.Gd.Until, I r.Pm]
attribute [go_sem] Reason.enc
structure Sbj where
  Unit : Int
  Made : Dating
  Class : Int
  np : Nat
  ps : Nat → Int
instance : Inhabited Sbj := ⟨⟨0, ⟨0, 0⟩, 0, 0, fun _ => 0⟩⟩
def Sbj.enc (s : Sbj) : List D := [I s.Unit, I s.Made.First, I s.Made.Last, I s.Class, SL none 1 encI s.np s.ps]
attribute [go_sem] Sbj.enc
theorem equalInt_cs (σ : List Blk) (c c' : Option Nat) (n m : Nat) (f g : Nat → Int) (hn : n < 1000000000) (hm : m < 1000000000) : CSF Tryz.prog 21 [.d (SL c 1 encI n f), .d (SL c' 1 encI m g)] σ (.d (B (eqL (lst n f) (lst m g)))) := by
  refine CSF.of_body T.en21 Tryz.func21 rfl (by simp [Tryz.ntmps21]) (by simp [go_sem]) fun hwf => ?_
  refine awp_reg_seq fun K hK => ?_
  simp [go_sem, Tryz.ntmps21]
  repeat refine ⟨by omega, ?_⟩
  refine hK _ ?_; clear hK K
  refine awp_seq ?_
  refine awp_reg_seq fun K hK => ?_
  simp [go_sem]
  repeat refine ⟨by omega, ?_⟩
  refine hK _ ?_; clear hK K
  refine awp_forget [0, 1, 10] (by simp only [restr, List.contains_cons, List.contains_nil, Nat.reduceBEq, Bool.or_false, Bool.or_true, Bool.true_or, Bool.false_or, if_true, if_false, Bool.false_eq_true]; rfl) ?_
  refine awp_cond rfl (fun c0 => ?_) (fun c0 => ?_)
  · have d0 := c0; try simp at d0
    have hz : eqL (lst n f) (lst m g) = false := eqL_len (by omega)
    refine awp_reg_seq fun K hK => ?_
    simp [go_sem, c0, d0]
    repeat refine ⟨by omega, ?_⟩
    refine hK _ ?_; clear hK K
    refine awp_ret ?_
    rw [hz]; simp [go_sem, Tryz.results21]
  · have d0 := c0; try simp at d0
    refine awp_skip ?_
    refine awp_seq ?_
    refine awp_reg_seq fun K hK => ?_
    simp [go_sem, c0, d0]
    repeat refine ⟨by omega, ?_⟩
    refine hK _ ?_; clear hK K
    refine awp_block ?_
    refine awp_forget [0, 1, 12, 13] (by simp [go_sem, restr]; rfl) ?_
    refine awp_loopU (α := Nat) (fun i => [(13, .d (I i))]) (fun i => _) (fun i => i ≤ n ∧ ∀ q, q < i → f q = g q) (fun i => n - i) 0 (by simp [go_sem]) rfl (by simp) ?_
    rintro i ⟨hi, hx⟩
    refine awp_reg_seq fun K hK => ?_
    simp [go_sem, c0, d0]
    repeat refine ⟨by omega, ?_⟩
    refine hK _ ?_; clear hK K
    refine awp_seq ?_
    refine awp_forget [0, 1, 12, 13, 14] (by simp only [restr, List.contains_cons, List.contains_nil, Nat.reduceBEq, Bool.or_false, Bool.or_true, Bool.true_or, Bool.false_or, if_true, if_false, Bool.false_eq_true]; rfl) ?_
    refine awp_cond rfl (fun c1 => ?_) (fun c1 => ?_)
    · have d1 := c1; try simp at d1
      refine awp_skip ?_
      refine awp_seq ?_
      refine awp_block ?_
      refine awp_reg_seq fun K hK => ?_
      simp [go_sem, c0, d0, c1, d1]
      repeat refine ⟨by omega, ?_⟩
      refine hK _ ?_; clear hK K
      refine awp_draw_seq 9 T.mixed (by kernel_rfl) fun K hK => ?_
      simp [go_sem, c0, d0, c1, d1]
      repeat refine ⟨by omega, ?_⟩
      refine hK _ ?_; clear hK K
      refine awp_forget [0, 1, 12, 13, 24] (by simp only [restr, List.contains_cons, List.contains_nil, Nat.reduceBEq, Bool.or_false, Bool.or_true, Bool.true_or, Bool.false_or, if_true, if_false, Bool.false_eq_true]; rfl) ?_
      refine awp_cond rfl (fun c2 => ?_) (fun c2 => ?_)
      · have d2 := c2; try simp at d2
        have hz : eqL (lst n f) (lst m g) = false := eqL_at (i := i) (by omega) (by omega) (fun h => by simp [h] at d2)
        refine awp_reg_seq fun K hK => ?_
        simp [go_sem, c0, d0, c1, d1, c2, d2]
        repeat refine ⟨by omega, ?_⟩
        refine hK _ ?_; clear hK K
        refine awp_ret ?_
        rw [hz]; simp [go_sem, Tryz.results21]
      · have d2 := c2; try simp at d2
        have heq : f i = g i := by
          revert c2; rcases f i with _; rcases g i with _; simp <;> (intros; simp_all)
        refine awp_skip ?_
        refine awp_reg_end fun K hK => ?_
        simp [go_sem, c0, d0, c1, d1, c2, d2]
        try simp (disch := omega) only [wrapI]
        repeat refine ⟨by omega, ?_⟩
        refine hK _ ?_; clear hK K
        refine ⟨i + 1, back_of' (by simp) (.refl _) (by (simp [go_sem, wrap_succ (i := i) (by omega), c0, d0, c1, d1, c2, d2] <;> omega)), ⟨by omega, fun q hq => by rcases Nat.lt_or_eq_of_le (Nat.le_of_lt_succ hq) with h | h; exact hx q h; rw [h]; exact heq⟩, by first | omega | (dsimp only; omega)⟩
    · have d1 := c1; try simp at d1
      have hz : eqL (lst n f) (lst m g) = true := eqL_yes (by omega) (fun q hq => hx q (by omega))
      refine awp_exit ?_
      refine awp_reg_seq fun K hK => ?_
      simp [go_sem, c0, d0, c1, d1]
      repeat refine ⟨by omega, ?_⟩
      refine hK _ ?_; clear hK K
      refine awp_ret ?_
      rw [hz]; simp [go_sem, Tryz.results21]
theorem equalReason_cs (σ : List Blk) (c c' : Option Nat) (n m : Nat) (f g : Nat → Reason) (hn : n < 1000000000) (hm : m < 1000000000) : CSF Tryz.prog 64 [.d (SL c 5 Reason.enc n f), .d (SL c' 5 Reason.enc m g)] σ (.d (B (eqL (lst n f) (lst m g)))) := by
  refine CSF.of_body T.en64 Tryz.func64 rfl (by simp [Tryz.ntmps64]) (by simp [go_sem]) fun hwf => ?_
  refine awp_reg_seq fun K hK => ?_
  simp [go_sem, Tryz.ntmps64]
  repeat refine ⟨by omega, ?_⟩
  refine hK _ ?_; clear hK K
  refine awp_seq ?_
  refine awp_reg_seq fun K hK => ?_
  simp [go_sem]
  repeat refine ⟨by omega, ?_⟩
  refine hK _ ?_; clear hK K
  refine awp_forget [0, 1, 10] (by simp only [restr, List.contains_cons, List.contains_nil, Nat.reduceBEq, Bool.or_false, Bool.or_true, Bool.true_or, Bool.false_or, if_true, if_false, Bool.false_eq_true]; rfl) ?_
  refine awp_cond rfl (fun c0 => ?_) (fun c0 => ?_)
  · have d0 := c0; try simp at d0
    have hz : eqL (lst n f) (lst m g) = false := eqL_len (by omega)
    refine awp_reg_seq fun K hK => ?_
    simp [go_sem, c0, d0]
    repeat refine ⟨by omega, ?_⟩
    refine hK _ ?_; clear hK K
    refine awp_ret ?_
    rw [hz]; simp [go_sem, Tryz.results64]
  · have d0 := c0; try simp at d0
    refine awp_skip ?_
    refine awp_seq ?_
    refine awp_reg_seq fun K hK => ?_
    simp [go_sem, c0, d0]
    repeat refine ⟨by omega, ?_⟩
    refine hK _ ?_; clear hK K
    refine awp_block ?_
    refine awp_forget [0, 1, 12, 13] (by simp [go_sem, restr]; rfl) ?_
    refine awp_loopU (α := Nat) (fun i => [(13, .d (I i))]) (fun i => _) (fun i => i ≤ n ∧ ∀ q, q < i → f q = g q) (fun i => n - i) 0 (by simp [go_sem]) rfl (by simp) ?_
    rintro i ⟨hi, hx⟩
    refine awp_reg_seq fun K hK => ?_
    simp [go_sem, c0, d0]
    repeat refine ⟨by omega, ?_⟩
    refine hK _ ?_; clear hK K
    refine awp_seq ?_
    refine awp_forget [0, 1, 12, 13, 14] (by simp only [restr, List.contains_cons, List.contains_nil, Nat.reduceBEq, Bool.or_false, Bool.or_true, Bool.true_or, Bool.false_or, if_true, if_false, Bool.false_eq_true]; rfl) ?_
    refine awp_cond rfl (fun c1 => ?_) (fun c1 => ?_)
    · have d1 := c1; try simp at d1
      refine awp_skip ?_
      refine awp_seq ?_
      refine awp_block ?_
      refine awp_reg_seq fun K hK => ?_
      simp [go_sem, c0, d0, c1, d1]
      repeat refine ⟨by omega, ?_⟩
      refine hK _ ?_; clear hK K
      refine awp_draw_seq 9 T.mixed (by kernel_rfl) fun K hK => ?_
      simp [go_sem, c0, d0, c1, d1]
      repeat refine ⟨by omega, ?_⟩
      refine hK _ ?_; clear hK K
      refine awp_forget [0, 1, 12, 13, 24] (by simp only [restr, List.contains_cons, List.contains_nil, Nat.reduceBEq, Bool.or_false, Bool.or_true, Bool.true_or, Bool.false_or, if_true, if_false, Bool.false_eq_true]; rfl) ?_
      refine awp_cond rfl (fun c2 => ?_) (fun c2 => ?_)
      · have d2 := c2; try simp at d2
        have hz : eqL (lst n f) (lst m g) = false := eqL_at (i := i) (by omega) (by omega) (fun h => by simp [h] at d2)
        refine awp_reg_seq fun K hK => ?_
        simp [go_sem, c0, d0, c1, d1, c2, d2]
        repeat refine ⟨by omega, ?_⟩
        refine hK _ ?_; clear hK K
        refine awp_ret ?_
        rw [hz]; simp [go_sem, Tryz.results64]
      · have d2 := c2; try simp at d2
        have heq : f i = g i := by
          revert c2; rcases f i with ⟨⟨_,_,_,_⟩,_⟩; rcases g i with ⟨⟨_,_,_,_⟩,_⟩; simp <;> (intros; simp_all)
        refine awp_skip ?_
        refine awp_reg_end fun K hK => ?_
        simp [go_sem, c0, d0, c1, d1, c2, d2]
        try simp (disch := omega) only [wrapI]
        repeat refine ⟨by omega, ?_⟩
        refine hK _ ?_; clear hK K
        refine ⟨i + 1, back_of' (by simp) (.refl _) (by (simp [go_sem, wrap_succ (i := i) (by omega), c0, d0, c1, d1, c2, d2] <;> omega)), ⟨by omega, fun q hq => by rcases Nat.lt_or_eq_of_le (Nat.le_of_lt_succ hq) with h | h; exact hx q h; rw [h]; exact heq⟩, by first | omega | (dsimp only; omega)⟩
    · have d1 := c1; try simp at d1
      have hz : eqL (lst n f) (lst m g) = true := eqL_yes (by omega) (fun q hq => hx q (by omega))
      refine awp_exit ?_
      refine awp_reg_seq fun K hK => ?_
      simp [go_sem, c0, d0, c1, d1]
      repeat refine ⟨by omega, ?_⟩
      refine hK _ ?_; clear hK K
      refine awp_ret ?_
      rw [hz]; simp [go_sem, Tryz.results64]
theorem equalGround_cs (σ : List Blk) (c c' : Option Nat) (n m : Nat) (f g : Nat → Ground) (hn : n < 1000000000) (hm : m < 1000000000) : CSF Tryz.prog 28 [.d (SL c 4 Ground.enc n f), .d (SL c' 4 Ground.enc m g)] σ (.d (B (eqL (lst n f) (lst m g)))) := by
  refine CSF.of_body T.en28 Tryz.func28 rfl (by simp [Tryz.ntmps28]) (by simp [go_sem]) fun hwf => ?_
  refine awp_reg_seq fun K hK => ?_
  simp [go_sem, Tryz.ntmps28]
  repeat refine ⟨by omega, ?_⟩
  refine hK _ ?_; clear hK K
  refine awp_seq ?_
  refine awp_reg_seq fun K hK => ?_
  simp [go_sem]
  repeat refine ⟨by omega, ?_⟩
  refine hK _ ?_; clear hK K
  refine awp_forget [0, 1, 10] (by simp only [restr, List.contains_cons, List.contains_nil, Nat.reduceBEq, Bool.or_false, Bool.or_true, Bool.true_or, Bool.false_or, if_true, if_false, Bool.false_eq_true]; rfl) ?_
  refine awp_cond rfl (fun c0 => ?_) (fun c0 => ?_)
  · have d0 := c0; try simp at d0
    have hz : eqL (lst n f) (lst m g) = false := eqL_len (by omega)
    refine awp_reg_seq fun K hK => ?_
    simp [go_sem, c0, d0]
    repeat refine ⟨by omega, ?_⟩
    refine hK _ ?_; clear hK K
    refine awp_ret ?_
    rw [hz]; simp [go_sem, Tryz.results28]
  · have d0 := c0; try simp at d0
    refine awp_skip ?_
    refine awp_seq ?_
    refine awp_reg_seq fun K hK => ?_
    simp [go_sem, c0, d0]
    repeat refine ⟨by omega, ?_⟩
    refine hK _ ?_; clear hK K
    refine awp_block ?_
    refine awp_forget [0, 1, 12, 13] (by simp [go_sem, restr]; rfl) ?_
    refine awp_loopU (α := Nat) (fun i => [(13, .d (I i))]) (fun i => _) (fun i => i ≤ n ∧ ∀ q, q < i → f q = g q) (fun i => n - i) 0 (by simp [go_sem]) rfl (by simp) ?_
    rintro i ⟨hi, hx⟩
    refine awp_reg_seq fun K hK => ?_
    simp [go_sem, c0, d0]
    repeat refine ⟨by omega, ?_⟩
    refine hK _ ?_; clear hK K
    refine awp_seq ?_
    refine awp_forget [0, 1, 12, 13, 14] (by simp only [restr, List.contains_cons, List.contains_nil, Nat.reduceBEq, Bool.or_false, Bool.or_true, Bool.true_or, Bool.false_or, if_true, if_false, Bool.false_eq_true]; rfl) ?_
    refine awp_cond rfl (fun c1 => ?_) (fun c1 => ?_)
    · have d1 := c1; try simp at d1
      refine awp_skip ?_
      refine awp_seq ?_
      refine awp_block ?_
      refine awp_reg_seq fun K hK => ?_
      simp [go_sem, c0, d0, c1, d1]
      repeat refine ⟨by omega, ?_⟩
      refine hK _ ?_; clear hK K
      refine awp_draw_seq 9 T.mixed (by kernel_rfl) fun K hK => ?_
      simp [go_sem, c0, d0, c1, d1]
      repeat refine ⟨by omega, ?_⟩
      refine hK _ ?_; clear hK K
      refine awp_forget [0, 1, 12, 13, 24] (by simp only [restr, List.contains_cons, List.contains_nil, Nat.reduceBEq, Bool.or_false, Bool.or_true, Bool.true_or, Bool.false_or, if_true, if_false, Bool.false_eq_true]; rfl) ?_
      refine awp_cond rfl (fun c2 => ?_) (fun c2 => ?_)
      · have d2 := c2; try simp at d2
        have hz : eqL (lst n f) (lst m g) = false := eqL_at (i := i) (by omega) (by omega) (fun h => by simp [h] at d2)
        refine awp_reg_seq fun K hK => ?_
        simp [go_sem, c0, d0, c1, d1, c2, d2]
        repeat refine ⟨by omega, ?_⟩
        refine hK _ ?_; clear hK K
        refine awp_ret ?_
        rw [hz]; simp [go_sem, Tryz.results28]
      · have d2 := c2; try simp at d2
        have heq : f i = g i := by
          revert c2; rcases f i with ⟨_,_,_,_⟩; rcases g i with ⟨_,_,_,_⟩; simp <;> (intros; simp_all)
        refine awp_skip ?_
        refine awp_reg_end fun K hK => ?_
        simp [go_sem, c0, d0, c1, d1, c2, d2]
        try simp (disch := omega) only [wrapI]
        repeat refine ⟨by omega, ?_⟩
        refine hK _ ?_; clear hK K
        refine ⟨i + 1, back_of' (by simp) (.refl _) (by (simp [go_sem, wrap_succ (i := i) (by omega), c0, d0, c1, d1, c2, d2] <;> omega)), ⟨by omega, fun q hq => by rcases Nat.lt_or_eq_of_le (Nat.le_of_lt_succ hq) with h | h; exact hx q h; rw [h]; exact heq⟩, by first | omega | (dsimp only; omega)⟩
    · have d1 := c1; try simp at d1
      have hz : eqL (lst n f) (lst m g) = true := eqL_yes (by omega) (fun q hq => hx q (by omega))
      refine awp_exit ?_
      refine awp_reg_seq fun K hK => ?_
      simp [go_sem, c0, d0, c1, d1]
      repeat refine ⟨by omega, ?_⟩
      refine hK _ ?_; clear hK K
      refine awp_ret ?_
      rw [hz]; simp [go_sem, Tryz.results28]
theorem cloneSbj_cs (σ : List Blk) (c : Option Nat) (n : Nat) (g : Nat → Sbj) (hn : n < 1000000000) : CSF Tryz.prog 52 [.d (SL c 5 Sbj.enc n g)] σ (.d (SL none 5 Sbj.enc n g)) := by
  refine CSF.of_body T.en52 Tryz.func52 rfl (by simp [Tryz.ntmps52]) (by simp [go_sem]) fun hwf => ?_
  refine awp_reg_seq fun K hK => ?_
  simp [go_sem, Tryz.ntmps52]
  repeat refine ⟨by omega, ?_⟩
  refine hK _ ?_; clear hK K
  refine awp_seq ?_
  refine awp_reg_seq fun K hK => ?_
  simp [go_sem, -Bool.forall_bool]
  intro b1 hb1
  repeat refine ⟨by omega, ?_⟩
  refine hK _ ?_; clear hK K
  refine awp_cond rfl (fun c0 => ?_) (fun c0 => ?_)
  · have d0 := c0; try simp at d0
    refine awp_reg_seq fun K hK => ?_
    simp [go_sem, c0, d0]
    repeat refine ⟨by omega, ?_⟩
    refine hK _ ?_; clear hK K
    refine awp_ret ?_
    have := hb1 c0
    simp [go_sem, Tryz.results52, this]
  · have d0 := c0; try simp at d0
    refine awp_skip ?_
    refine awp_reg_seq fun K hK => ?_
    simp [go_sem, c0, d0, hwf.one, hwf.zero]
    repeat refine ⟨by omega, ?_⟩
    refine hK _ ?_; clear hK K
    refine awp_freeze (σ.length) (by simp [go_sem]; first | exact ⟨rfl, rfl, rfl⟩ | exact ⟨rfl, rfl⟩ | rfl) (by simp [go_sem]; rfl) (by simp [go_sem, hwf.frz, hwf.frz0]; rfl) ?_
    refine awp_ret ?_
    simp [go_sem, Tryz.results52, c0, d0] <;> omega
theorem cloneSbjM_cs (σ : List Blk) (c : Option Nat) (n : Nat) (g : Nat → Sbj) (hn : n < 1000000000) : CS Tryz.prog 52 [.d (SL c 5 Sbj.enc n g)] σ (fun r σ' X => r = .ms σ.length 5 0 n ∧ σ' = σ ++ [.arr 5 n fun i => Sbj.enc (g i)] ∧ X = []) := by
  refine CS.of_bodyW T.en52 Tryz.func52 rfl (by simp [Tryz.ntmps52]) fun hwf => ?_
  refine awp_reg_seq fun K hK => ?_
  simp [go_sem, Tryz.ntmps52]
  repeat refine ⟨by omega, ?_⟩
  refine hK _ ?_; clear hK K
  refine awp_seq ?_
  refine awp_reg_seq fun K hK => ?_
  simp [go_sem, -Bool.forall_bool]
  intro b1 hb1
  repeat refine ⟨by omega, ?_⟩
  refine hK _ ?_; clear hK K
  refine awp_cond rfl (fun c0 => ?_) (fun c0 => ?_)
  · have d0 := c0; try simp at d0
    refine awp_reg_seq fun K hK => ?_
    simp [go_sem, c0, d0]
    repeat refine ⟨by omega, ?_⟩
    refine hK _ ?_; clear hK K
    refine awp_thawT 2 5 (fun i => Sbj.enc (g i)) (by simp [go_sem]) (by simp [go_sem]; rfl) ?_
    refine awp_ret ?_
    obtain rfl := hb1 c0
    simp [go_sem, Tryz.results52]
  · have d0 := c0; try simp at d0
    refine awp_skip ?_
    refine awp_reg_seq fun K hK => ?_
    simp [go_sem, c0, d0, hwf.one, hwf.zero]
    repeat refine ⟨by omega, ?_⟩
    refine hK _ ?_; clear hK K
    refine awp_ret ?_
    simp [go_sem, Tryz.results52, c0, d0] <;> omega
theorem indexSbj_cs (σ : List Blk) (c : Option Nat) (n : Nat) (g : Nat → Sbj) (f : FuncId) (cap : List AV) (p : Sbj → Bool) (hn : n < 1000000000) (hf : ∀ i, i < n → CSF Tryz.prog f (.agg ((g i).enc.map .d) :: cap) σ (.d (B (p (g i))))) : CSF Tryz.prog 133 [.d (SL c 5 Sbj.enc n g), .clo (.func f) [] cap] σ (.d (I (idxFrom p (lst n g) 0))) := by
  refine CSF.of_body T.en133 Tryz.func133 rfl (by simp [Tryz.ntmps133]) (by simp [go_sem]) fun hwf => ?_
  refine awp_reg_seq fun K hK => ?_
  simp [go_sem, Tryz.ntmps133]
  repeat refine ⟨by omega, ?_⟩
  refine hK _ ?_; clear hK K
  refine awp_seq ?_
  refine awp_reg_seq fun K hK => ?_
  simp [go_sem]
  repeat refine ⟨by omega, ?_⟩
  refine hK _ ?_; clear hK K
  refine awp_block ?_
  refine awp_forget [0, 1, 7, 8] (by simp [go_sem, restr]; rfl) ?_
  refine awp_loopU (α := Nat) (fun i => [(8, .d (I i))]) (fun i => _) (fun i => i ≤ n ∧ idxFrom p (lst n g) 0 = idxFrom p ((lst n g).drop i) i) (fun i => n - i) 0 (by simp [go_sem]) rfl (by simp) ?_
  rintro i ⟨hi, hx⟩
  refine awp_reg_seq fun K hK => ?_
  simp [go_sem]
  repeat refine ⟨by omega, ?_⟩
  refine hK _ ?_; clear hK K
  refine awp_seq ?_
  refine awp_forget [0, 1, 7, 8, 9] (by simp only [restr, List.contains_cons, List.contains_nil, Nat.reduceBEq, Bool.or_false, Bool.or_true, Bool.true_or, Bool.false_or, if_true, if_false, Bool.false_eq_true]; rfl) ?_
  refine awp_cond rfl (fun c0 => ?_) (fun c0 => ?_)
  · have d0 := c0; try simp at d0
    rw [drop_lst d0, idxFrom] at hx
    refine awp_skip ?_
    refine awp_seq ?_
    refine awp_block ?_
    refine awp_reg_seq fun K hK => ?_
    simp [go_sem, c0, d0]
    repeat refine ⟨by omega, ?_⟩
    refine hK _ ?_; clear hK K
    refine awp_reg_seq fun K hK => ?_
    simp [go_sem, c0, d0]
    repeat refine ⟨by omega, ?_⟩
    refine CSk.mk (hf i d0) ?_
    simp [go_sem, c0, d0]
    repeat refine ⟨by omega, ?_⟩
    refine hK _ ?_; clear hK K
    refine awp_forget [0, 1, 5, 7, 8, 16] (by simp only [restr, List.contains_cons, List.contains_nil, Nat.reduceBEq, Bool.or_false, Bool.or_true, Bool.true_or, Bool.false_or, if_true, if_false, Bool.false_eq_true]; rfl) ?_
    refine awp_cond rfl (fun c1 => ?_) (fun c1 => ?_)
    · have d1 := c1; try simp at d1
      refine awp_reg_seq fun K hK => ?_
      simp [go_sem, c0, d0, c1, d1]
      repeat refine ⟨by omega, ?_⟩
      refine hK _ ?_; clear hK K
      refine awp_ret ?_
      simp [go_sem, Tryz.results133, hx, c0, d0, c1, d1] <;> omega
    · have d1 := c1; try simp at d1
      refine awp_skip ?_
      refine awp_reg_end fun K hK => ?_
      simp [go_sem, c0, d0, c1, d1]
      try simp (disch := omega) only [wrapI]
      repeat refine ⟨by omega, ?_⟩
      refine hK _ ?_; clear hK K
      refine ⟨i + 1, back_of' (by simp) (.refl _) (by (simp [go_sem, wrap_succ (i := i) (by omega), c0, d0, c1, d1] <;> omega)), ⟨by omega, by rw [hx, c1]; simp⟩, by first | omega | (dsimp only; omega)⟩
  · have d0 := c0; try simp at d0
    rw [drop_all d0, idxFrom] at hx
    refine awp_exit ?_
    refine awp_reg_seq fun K hK => ?_
    simp [go_sem, c0, d0]
    repeat refine ⟨by omega, ?_⟩
    refine hK _ ?_; clear hK K
    refine awp_ret ?_
    simp [go_sem, Tryz.results133, hx, c0, d0] <;> omega
theorem person_Learn_cs (σ : List Blk) (c : Option Nat) (n : Nat) (g : Nat → Prs) (k : Int) (b d : Dating) (hn : n < 1000000000) (hN : ∀ i, i < n → (g i).Name.size < 4294967281) (hσ : σ[0]? = some (.loc 0)) : CSF Tryz.prog 35 [.d (SL c 6 Prs.enc n g), .d (I k), .agg (b.enc.map .d), .agg (d.enc.map .d)] σ (.tup [.d (SL none 6 Prs.enc (learnL n g k b d).1.1 (learnL n g k b d).1.2), .d (I (learnL n g k b d).2)]) := by
  have hlt := findP_lt n g k
  refine CSF.of_body T.en35 Tryz.func35 rfl (by simp [Tryz.ntmps35]) (by simp [go_sem]) fun hwf => ?_
  refine awp_reg_seq fun K hK => ?_
  simp [go_sem, Tryz.ntmps35]
  repeat refine ⟨by omega, ?_⟩
  refine hK _ ?_; clear hK K
  refine awp_seq ?_
  refine awp_reg_seq fun K hK => ?_
  simp [go_sem]
  repeat refine ⟨by omega, ?_⟩
  refine CSk.mk (person_Check_cs _ c n g hn hN (loc_app hσ)) ?_
  simp [go_sem]
  repeat refine ⟨by omega, ?_⟩
  refine CSm.mk (dating_Check_cs _ b) ?_
  simp [go_sem]
  repeat refine ⟨by omega, ?_⟩
  refine CSm.mk (dating_Check_cs _ d) ?_
  simp [go_sem]
  repeat refine ⟨by omega, ?_⟩
  refine hK _ ?_; clear hK K
  refine awp_forget [0, 1, 6, 7, 26] (by simp only [restr, List.contains_cons, List.contains_nil, Nat.reduceBEq, Bool.or_false, Bool.or_true, Bool.true_or, Bool.false_or, if_true, if_false, Bool.false_eq_true]; rfl) ?_
  refine awp_cond rfl (fun c0 => ?_) (fun c0 => ?_)
  · have d0 := c0; try simp at d0
    have hz : learnL n g k b d = ((0, g), 1) := by unfold learnL; rw [if_pos (by simpa [or_assoc] using d0)]
    refine awp_reg_seq fun K hK => ?_
    simp [go_sem, c0, d0]
    repeat refine ⟨by omega, ?_⟩
    refine hK _ ?_; clear hK K
    refine awp_ret ?_
    rw [hz]; simp [go_sem, Tryz.results35]
  · have d0 := c0; try simp at d0
    have hd0 : ¬(prsChk n g ≠ 0 ∨ datChk b ≠ 0 ∨ datChk d ≠ 0) := by simpa [or_assoc, and_assoc] using d0
    refine awp_skip ?_
    refine awp_reg_seq fun K hK => ?_
    simp [go_sem, c0, d0]
    repeat refine ⟨by omega, ?_⟩
    refine CSk.mk (person_index_cs _ c n g k hn) ?_
    simp [go_sem, c0, d0]
    repeat refine ⟨by omega, ?_⟩
    refine hK _ ?_; clear hK K
    refine awp_seq ?_
    refine awp_reg_seq fun K hK => ?_
    simp [go_sem, c0, d0]
    repeat refine ⟨by omega, ?_⟩
    refine hK _ ?_; clear hK K
    refine awp_forget [0, 6, 7, 10, 31] (by simp only [restr, List.contains_cons, List.contains_nil, Nat.reduceBEq, Bool.or_false, Bool.or_true, Bool.true_or, Bool.false_or, if_true, if_false, Bool.false_eq_true]; rfl) ?_
    refine awp_cond rfl (fun c1 => ?_) (fun c1 => ?_)
    · have d1 := c1; try simp at d1
      have hz : learnL n g k b d = ((0, g), 7) := by unfold learnL; rw [if_neg hd0, if_pos d1]
      refine awp_reg_seq fun K hK => ?_
      simp [go_sem, c0, d0, c1, d1]
      repeat refine ⟨by omega, ?_⟩
      refine hK _ ?_; clear hK K
      refine awp_ret ?_
      rw [hz]; simp [go_sem, Tryz.results35]
    · have d1 := c1; try simp at d1
      refine awp_skip ?_
      apply awp_own_seq 12 10 11 T.mixed (by kernel_rfl)
      · intro τ K hK
        simp [go_sem, c0, d0, c1, d1]
        repeat refine ⟨by omega, ?_⟩
        refine CSg.mk (person_learned_cs _ (g (findP n g k).toNat) b d (hN _ (by omega)) (loc_app hσ)) ?_
        simp [go_sem, c0, d0, c1, d1]
        repeat refine ⟨by omega, ?_⟩
        exact hK _ _
      intro K hK
      simp [go_sem, c0, d0, c1, d1]
      repeat refine ⟨by omega, ?_⟩
      refine hK _ ?_; clear hK K
      refine awp_seq ?_
      refine awp_reg_seq fun K hK => ?_
      simp [go_sem, c0, d0, c1, d1]
      repeat refine ⟨by omega, ?_⟩
      refine hK _ ?_; clear hK K
      refine awp_forget [0, 10, 11, 43] (by simp only [restr, List.contains_cons, List.contains_nil, Nat.reduceBEq, Bool.or_false, Bool.or_true, Bool.true_or, Bool.false_or, if_true, if_false, Bool.false_eq_true]; rfl) ?_
      refine awp_cond rfl (fun c2 => ?_) (fun c2 => ?_)
      · have d2 := c2; try simp at d2
        have hz : learnL n g k b d = ((0, g), 10) := by unfold learnL; rw [if_neg hd0, if_neg (by omega), if_pos d2]
        refine awp_reg_seq fun K hK => ?_
        simp [go_sem, c0, d0, c1, d1, c2, d2]
        repeat refine ⟨by omega, ?_⟩
        refine hK _ ?_; clear hK K
        refine awp_ret ?_
        rw [hz]; simp [go_sem, Tryz.results35]
      · have d2 := c2; try simp at d2
        have hz : learnL n g k b d = ((n, fun q => if q = (findP n g k).toNat then (learnR (g (findP n g k).toNat) b d).1 else g q), 0) := by unfold learnL; rw [if_neg hd0, if_neg (by omega), if_neg (by simp [d2])]
        refine awp_skip ?_
        refine awp_reg_seq fun K hK => ?_
        simp [go_sem, c0, d0, c1, d1, c2, d2]
        repeat refine ⟨by omega, ?_⟩
        refine CSk.gen (clonePrsM_cs _ c n g hn) ?_; rintro r σ' X ⟨rfl, rfl, rfl⟩
        simp [go_sem, c0, d0, c1, d1, c2, d2]
        repeat refine ⟨by omega, ?_⟩
        refine hK _ ?_; clear hK K
        refine awp_seq ?_
        refine awp_draw_seq 6 T.mixed (by kernel_rfl) fun K hK => ?_
        simp [go_sem, c0, d0, c1, d1, c2, d2]
        repeat refine ⟨by omega, ?_⟩
        refine hK _ ?_; clear hK K
        refine awp_forget [10, 11, 13, 51] (by simp only [restr, List.contains_cons, List.contains_nil, Nat.reduceBEq, Bool.or_false, Bool.or_true, Bool.true_or, Bool.false_or, if_true, if_false, Bool.false_eq_true]; rfl) ?_
        refine awp_cond rfl (fun c3 => ?_) (fun c3 => ?_)
        · have d3 := c3; try simp at d3
          refine awp_reg_end fun K hK => ?_
          simp [go_sem, c0, d0, c1, d1, c2, d2, c3, d3]
          repeat refine ⟨by omega, ?_⟩
          refine hK _ ?_; clear hK K
          refine awp_reg_seq fun K hK => ?_
          simp [go_sem, c0, d0, c1, d1, c2, d2, c3, d3]
          repeat refine ⟨by omega, ?_⟩
          refine hK _ ?_; clear hK K
          refine awp_freeze (σ.length + 3) (by simp [go_sem]; first | exact ⟨rfl, rfl, rfl⟩ | exact ⟨rfl, rfl⟩ | rfl) (by simp [go_sem]; rfl) (by simp [go_sem, hwf.frz, hwf.frz0]; rfl) ?_
          refine awp_ret ?_
          rw [hz]; simp [go_sem, Tryz.results35]
          intro i hi; split <;> simp_all
        · have d3 := c3; try simp at d3
          refine awp_skip ?_
          refine awp_reg_seq fun K hK => ?_
          simp [go_sem, c0, d0, c1, d1, c2, d2, c3, d3]
          repeat refine ⟨by omega, ?_⟩
          refine hK _ ?_; clear hK K
          refine awp_freeze (σ.length + 3) (by simp [go_sem]; first | exact ⟨rfl, rfl, rfl⟩ | exact ⟨rfl, rfl⟩ | rfl) (by simp [go_sem]; rfl) (by simp [go_sem, hwf.frz, hwf.frz0]; rfl) ?_
          refine awp_ret ?_
          rw [hz]; simp [go_sem, Tryz.results35]
          intro i hi; split <;> simp_all
end Go.Proofs.YtkochmppmpmddaaGreat

/-! Dd -/
namespace Go.Proofs.YtkochmppmpmddaaGreat
open Go.Abs Go.Arch
set_option linter.unusedVariables false
set_option linter.unusedSimpArgs false
set_option maxRecDepth 100000
set_option maxHeartbeats 400000
def Sbj.zero : Sbj := ⟨0, ⟨0, 0⟩, 0, 0, fun _ => 0⟩
structure Pol where
  ns : Nat
  gs : Nat → Sbj
  nc : Nat
  gc : Nat → Rule
  np : Nat
  gp : Nat → Prs
  Years : Int
  na : Nat
  ga : Nat → Agr
  nm : Nat
  gm : Nat → Pmt
def Pol.enc (p : Pol) : List D := [SL none 5 Sbj.enc p.ns p.gs, SL none 6 Rule.enc p.nc p.gc, SL none 6 Prs.enc p.np p.gp, I p.Years, SL none 6 Agr.enc p.na p.ga, SL none 6 Pmt.enc p.nm p.gm]
attribute [go_sem] Pol.enc
structure PolOk (p : Pol) : Prop where
  ns : p.ns ≤ 1000
  nc : p.nc ≤ 1000
  np : p.np ≤ 1000
  na : p.na ≤ 1000
  nm : p.nm ≤ 1000
  ps : ∀ i, i < p.ns → (p.gs i).np ≤ 1000
  nn : ∀ i, i < p.np → (p.gp i).Name.size < 4294967281
def findS (n : Nat) (g : Nat → Sbj) (u : Int) : Int := idxFrom (fun r => r.Unit == u) (lst n g) 0
theorem findS_lt (n : Nat) (g : Nat → Sbj) (u : Int) : findS n g u < n := idx_lt' _ n g
def subjR (p : Pol) (u : Int) : Sbj × Bool := if findS p.ns p.gs u < 0 then (Sbj.zero, false) else (p.gs (findS p.ns p.gs u).toNat, true)
theorem subj_np {p : Pol} (h : PolOk p) (u : Int) : (subjR p u).1.np ≤ 1000 := by
  unfold subjR
  have := findS_lt p.ns p.gs u
  split
  · simp [Sbj.zero]
  · exact h.ps _ (by omega)
def hasP (n : Nat) (g : Nat → Prs) (u : Int) : Bool := (lst n g).any fun r => r.ID == u
theorem hasP_iff (n : Nat) (g : Nat → Prs) (u : Int) : hasP n g u = decide (0 ≤ findP n g u) := (idx_any _ _ _).symm
def subE1 (p : Pol) (s : Sbj) : Int := firstE (fun q => if hasP p.np p.gp (s.ps q) = false then 7 else 0) 0 s.np
def subE (p : Pol) (i : Nat) : Int := if idOk (p.gs i).Unit = false ∨ (p.gs i).Class < 0 ∨ 999 < (p.gs i).Class then 2 else if datChk (p.gs i).Made ≠ 0 then 1
  else if (0 < i ∧ (p.gs i).Unit ≤ (p.gs (i - 1)).Unit) ∨ ascB (p.gs i).ps (p.gs i).np = false then 5 else subE1 p (p.gs i)
def subChk (p : Pol) : Int := if 256 < p.ns then 8 else firstE (subE p) 0 p.ns
theorem find_has {n : Nat} {g : Nat → Prs} (h : prsChk n g = 0) (u : Int) : (findPR n g u).2 = hasP n g u := by
  rw [hasP_iff]; unfold findPR
  by_cases hf : findP n g u < 0
  · rw [if_pos (.inr hf)]; simp; omega
  · rw [if_neg (by rintro (h' | h'); exact h' h; exact hf h')]; simp; omega
def polE (p : Pol) (i : Nat) : Int := if i = 0 then check p.nc p.gc else if i = 1 then prsChk p.np p.gp else if i = 2 then agrChk p.na p.ga else pmtChk p.nm p.gm
def polChk (p : Pol) : Int := if firstE (polE p) 0 4 ≠ 0 then firstE (polE p) 0 4 else if p.Years < 0 ∨ 200 < p.Years then 2 else subChk p
theorem ref32_Grounds_cs (σ : List Blk) (c : Option Nat) (n : Nat) (g : Nat → Prs) (c' : Option Nat) (m : Nat) (ids : Nat → Int) (made : Dating) (y d : Int) (hn : n < 1000000000) (hm : m < 1000000000) (hN : ∀ i, i < n → (g i).Name.size < 4294967281) : CSF Tryz.prog 98 [.d (SL c 6 Prs.enc n g), .d (SL c' 1 encI m ids), .agg (made.enc.map .d), .d (I y), .d (I d)] σ (.tup [.d (SL none 4 Ground.enc (prsGr n g m ids made y d).1.length (nth (prsGr n g m ids made y d).1)), .d (I (prsGr n g m ids made y d).2)]) := by
  refine CSF.of_body T.en98 Tryz.func98 rfl (by simp [Tryz.ntmps98]) (by simp [go_sem]) fun hwf => ?_
  refine awp_reg_seq fun K hK => ?_
  simp [go_sem, Tryz.ntmps98]
  repeat refine ⟨by omega, ?_⟩
  refine hK _ ?_; clear hK K
  refine awp_seq ?_
  refine awp_reg_seq fun K hK => ?_
  simp [go_sem]
  repeat refine ⟨by omega, ?_⟩
  refine CSk.mk (ref32_Check_cs _ c n g hn hN) ?_
  simp [go_sem]
  repeat refine ⟨by omega, ?_⟩
  refine CSm.mk (ref03_Check_cs _ made) ?_
  simp [go_sem]
  repeat refine ⟨by omega, ?_⟩
  refine hK _ ?_; clear hK K
  refine awp_forget [0, 1, 3, 4, 7, 27] (by simp only [restr, List.contains_cons, List.contains_nil, Nat.reduceBEq, Bool.or_false, Bool.or_true, Bool.true_or, Bool.false_or, if_true, if_false, Bool.false_eq_true]; rfl) ?_
  refine awp_cond rfl (fun c0 => ?_) (fun c0 => ?_)
  · have d0 := c0; try simp at d0
    have hz : prsGr n g m ids made y d = ([], 1) := by unfold prsGr; rw [if_pos (by simpa using d0)]
    refine awp_reg_seq fun K hK => ?_
    simp [go_sem, c0, d0]
    repeat refine ⟨by omega, ?_⟩
    refine hK _ ?_; clear hK K
    refine awp_ret ?_
    rw [hz]; simp [go_sem, Tryz.results98]
  · have d0 := c0; try simp at d0
    refine awp_skip ?_
    refine awp_seq ?_
    refine awp_reg_seq fun K hK => ?_
    simp [go_sem, c0, d0]
    repeat refine ⟨by omega, ?_⟩
    refine hK _ ?_; clear hK K
    refine awp_forget [0, 1, 3, 4, 7, 41] (by simp only [restr, List.contains_cons, List.contains_nil, Nat.reduceBEq, Bool.or_false, Bool.or_true, Bool.true_or, Bool.false_or, if_true, if_false, Bool.false_eq_true]; rfl) ?_
    refine awp_cond rfl (fun c1 => ?_) (fun c1 => ?_)
    · have d1 := c1; try simp at d1
      have hz : prsGr n g m ids made y d = ([], 2) := by unfold prsGr; rw [if_neg (by simpa using d0), if_pos (by omega)]
      refine awp_reg_seq fun K hK => ?_
      simp [go_sem, c0, d0, c1, d1]
      repeat refine ⟨by omega, ?_⟩
      refine hK _ ?_; clear hK K
      refine awp_ret ?_
      rw [hz]; simp [go_sem, Tryz.results98]
    · have d1 := c1; try simp at d1
      refine awp_skip ?_
      refine awp_seq ?_
      refine awp_reg_seq fun K hK => ?_
      simp [go_sem, c0, d0, c1, d1]
      repeat refine ⟨by omega, ?_⟩
      refine hK _ ?_; clear hK K
      refine awp_block ?_
      refine awp_forget [0, 1, 3, 4, 7, 43, 44] (by simp [go_sem, restr]; rfl) ?_
      refine awp_loopU (α := Nat) (fun i => [(44, .d (I i))]) (fun i => _) (fun i => i ≤ m ∧ ∀ q, 0 < q → q < i → ids (q - 1) < ids q) (fun i => m - i) 0 (by simp [go_sem]) rfl (by simp) ?_
      rintro i ⟨hi, hx⟩
      refine awp_reg_seq fun K hK => ?_
      simp [go_sem, c0, d0, c1, d1, wrap_pred (i := i) (by omega)]
      repeat refine ⟨by omega, ?_⟩
      refine hK _ ?_; clear hK K
      refine awp_seq ?_
      refine awp_forget [0, 1, 3, 4, 7, 43, 44, 45] (by simp only [restr, List.contains_cons, List.contains_nil, Nat.reduceBEq, Bool.or_false, Bool.or_true, Bool.true_or, Bool.false_or, if_true, if_false, Bool.false_eq_true]; rfl) ?_
      refine awp_cond rfl (fun c2 => ?_) (fun c2 => ?_)
      · have d2 := c2; try simp at d2
        refine awp_skip ?_
        refine awp_seq ?_
        refine awp_block ?_
        refine awp_reg_seq fun K hK => ?_
        simp [go_sem, c0, d0, c1, d1, wrap_pred (i := i) (by omega), c2, d2]
        repeat refine ⟨by omega, ?_⟩
        refine hK _ ?_; clear hK K
        refine awp_draw_seq 14 T.mixed (by kernel_rfl) fun K hK => ?_
        simp [go_sem, c0, d0, c1, d1, wrap_pred (i := i) (by omega), c2, d2]
        try simp (disch := omega) only [wrapI]
        repeat refine ⟨by omega, ?_⟩
        refine hK _ ?_; clear hK K
        refine awp_forget [0, 1, 3, 4, 7, 43, 44, 60] (by simp only [restr, List.contains_cons, List.contains_nil, Nat.reduceBEq, Bool.or_false, Bool.or_true, Bool.true_or, Bool.false_or, if_true, if_false, Bool.false_eq_true]; rfl) ?_
        refine awp_cond rfl (fun c3 => ?_) (fun c3 => ?_)
        · have d3 := c3; try simp at d3
          have hz : prsGr n g m ids made y d = ([], 5) := by unfold prsGr; rw [if_neg (by simpa using d0), if_neg (by omega), if_pos (asc_no d2 d3.1 d3.2)]
          refine awp_reg_seq fun K hK => ?_
          simp [go_sem, c0, d0, c1, d1, wrap_pred (i := i) (by omega), c2, d2, c3, d3]
          repeat refine ⟨by omega, ?_⟩
          refine hK _ ?_; clear hK K
          refine awp_ret ?_
          rw [hz]; simp [go_sem, Tryz.results98]
        · have d3 := c3; try simp at d3
          refine awp_skip ?_
          refine awp_reg_end fun K hK => ?_
          simp [go_sem, c0, d0, c1, d1, wrap_pred (i := i) (by omega), c2, d2, c3, d3]
          try simp (disch := omega) only [wrapI]
          repeat refine ⟨by omega, ?_⟩
          refine hK _ ?_; clear hK K
          refine ⟨i + 1, back_of' (by simp) (.refl _) (by (simp [go_sem, wrap_succ (i := i) (by omega), c0, d0, c1, d1, wrap_pred (i := i) (by omega), c2, d2, c3, d3] <;> omega)), ⟨by omega, asc_step hx d3⟩, by first | omega | (dsimp only; omega)⟩
      · have d2 := c2; try simp at d2
        have him : i = m := by omega
        rw [him] at hx
        have ha := asc_yes hx
        refine awp_exit ?_
        refine awp_reg_seq fun K hK => ?_
        simp [go_sem, c0, d0, c1, d1, wrap_pred (i := i) (by omega), c2, d2]
        repeat refine ⟨by omega, ?_⟩
        refine hK _ ?_; clear hK K
        refine awp_seq ?_
        refine awp_thawT 13 4 (fun i => Ground.enc (nth ([] : List Ground) i)) (by simp [go_sem]) (by simp [go_sem]; rfl) ?_
        refine awp_reg_seq fun K hK => ?_
        simp [go_sem, c0, d0, c1, d1, wrap_pred (i := i) (by omega), c2, d2]
        repeat refine ⟨by omega, ?_⟩
        refine hK _ ?_; clear hK K
        refine awp_block ?_
        refine awp_forget [0, 3, 4, 7, 13, 62, 63, 64] (by simp [go_sem, restr]; rfl) ?_
        refine awp_mv [σ.length + 1] (by simp) ?_
        refine awp_loopU (α := Nat) (fun q => [(13, .ms (σ.length + 1) 4 0 (gather (prsGf n g ids made y d) q).length), (64, .d (I q))]) (fun q => σ ++ [.var [.d (I made.First), .d (I made.Last)], .arr 4 (gather (prsGf n g ids made y d) q).length (fun k => Ground.enc (nth (gather (prsGf n g ids made y d) q) k))]) (fun q => q ≤ m ∧ ∀ k, k < q → 0 ≤ findP n g (ids k)) (fun q => m - q) 0 (by simp [go_sem, gather]) rfl (by simp) ?_
        rintro q ⟨hq, hf⟩
        refine awp_reg_seq fun K hK => ?_
        simp [go_sem, c0, d0, c1, d1, wrap_pred (i := i) (by omega), c2, d2]
        repeat refine ⟨by omega, ?_⟩
        refine hK _ ?_; clear hK K
        refine awp_seq ?_
        refine awp_forget [0, 3, 4, 7, 13, 62, 63, 64, 65] (by simp only [restr, List.contains_cons, List.contains_nil, Nat.reduceBEq, Bool.or_false, Bool.or_true, Bool.true_or, Bool.false_or, if_true, if_false, Bool.false_eq_true]; rfl) ?_
        refine awp_cond rfl (fun c4 => ?_) (fun c4 => ?_)
        · have d4 := c4; try simp at d4
          have hl := gather_len (prsGf_len n g ids made y d) q
          have hlt := findP_lt n g (ids q)
          refine awp_skip ?_
          refine awp_seq ?_
          refine awp_block ?_
          refine awp_reg_seq fun K hK => ?_
          simp [go_sem, c0, d0, c1, d1, wrap_pred (i := i) (by omega), c2, d2, c4, d4]
          repeat refine ⟨by omega, ?_⟩
          refine hK _ ?_; clear hK K
          refine awp_reg_seq fun K hK => ?_
          simp [go_sem, c0, d0, c1, d1, wrap_pred (i := i) (by omega), c2, d2, c4, d4]
          repeat refine ⟨by omega, ?_⟩
          refine CSk.mk (ref32_Find_cs _ c n g (ids q) hn hN) ?_
          simp [go_sem, c0, d0, c1, d1, wrap_pred (i := i) (by omega), c2, d2, c4, d4]
          repeat refine ⟨by omega, ?_⟩
          refine hK _ ?_; clear hK K
          refine awp_seq ?_
          refine awp_reg_seq fun K hK => ?_
          simp [go_sem, c0, d0, c1, d1, wrap_pred (i := i) (by omega), c2, d2, c4, d4]
          repeat refine ⟨by omega, ?_⟩
          refine hK _ ?_; clear hK K
          refine awp_forget [0, 3, 4, 7, 13, 15, 16, 62, 63, 64, 75] (by simp only [restr, List.contains_cons, List.contains_nil, Nat.reduceBEq, Bool.or_false, Bool.or_true, Bool.true_or, Bool.false_or, if_true, if_false, Bool.false_eq_true]; rfl) ?_
          refine awp_cond rfl (fun c5 => ?_) (fun c5 => ?_)
          · have d5 := c5; try simp at d5
            have hge : findP n g (ids q) < 0 := by
              apply Classical.byContradiction; intro h
              have : findPR n g (ids q) = (g (findP n g (ids q)).toNat, true) := by unfold findPR; rw [if_neg (by rintro (h' | h'); exact h' d0.1; omega)]
              rw [this] at d5; simp at d5
            have hz : prsGr n g m ids made y d = ([], 7) := by unfold prsGr; rw [if_neg (by simpa using d0), if_neg (by omega), if_neg (by simp [ha]), if_pos (firstE_at (q := q) (by omega) (by omega) (by unfold grE; rw [if_pos hge]; decide))]
            refine awp_reg_seq fun K hK => ?_
            simp [go_sem, c0, d0, c1, d1, wrap_pred (i := i) (by omega), c2, d2, c4, d4, c5, d5]
            repeat refine ⟨by omega, ?_⟩
            refine hK _ ?_; clear hK K
            refine awp_ret ?_
            rw [hz]; simp [go_sem, Tryz.results98]
          · have d5 := c5; try simp at d5
            have hge : 0 ≤ findP n g (ids q) := by
              apply Classical.byContradiction; intro h
              have : findPR n g (ids q) = (Prs.zero, false) := by unfold findPR; rw [if_pos (.inr (by omega))]
              rw [this] at d5; simp at d5
            have hfr : findPR n g (ids q) = (g (findP n g (ids q)).toNat, true) := by unfold findPR; rw [if_neg (by rintro (h' | h'); exact h' d0.1; omega)]
            have hu : (untilPR (findPR n g (ids q)).1 made y).1 = untilP (g (findP n g (ids q)).toNat) made y := by rw [hfr]; unfold untilPR; rw [if_neg (by simp [(prs_ok d0.1).2 (findP n g (ids q)).toNat (by omega), d0.2]), if_neg (by omega)]
            have hNf : (findPR n g (ids q)).1.Name.size < 4294967281 := by rw [hfr]; exact hN _ (by omega)
            refine awp_skip ?_
            refine awp_reg_seq fun K hK => ?_
            simp [go_sem, c0, d0, c1, d1, wrap_pred (i := i) (by omega), c2, d2, c4, d4, c5, d5, hu]
            repeat refine ⟨by omega, ?_⟩
            refine CSk.mk (ref32_Until_cs _ (findPR n g (ids q)).1 made y hNf) ?_
            simp [go_sem, c0, d0, c1, d1, wrap_pred (i := i) (by omega), c2, d2, c4, d4, c5, d5, hu]
            repeat refine ⟨by omega, ?_⟩
            refine hK _ ?_; clear hK K
            refine awp_reg_seq fun K hK => ?_
            simp [go_sem, c0, d0, c1, d1, wrap_pred (i := i) (by omega), c2, d2, c4, d4, c5, d5, hu]
            repeat refine ⟨by omega, ?_⟩
            refine hK _ ?_; clear hK K
            refine awp_forget [0, 3, 4, 7, 13, 15, 18, 62, 63, 64, 85] (by simp only [restr, List.contains_cons, List.contains_nil, Nat.reduceBEq, Bool.or_false, Bool.or_true, Bool.true_or, Bool.false_or, if_true, if_false, Bool.false_eq_true]; rfl) ?_
            refine awp_cond rfl (fun c6 => ?_) (fun c6 => ?_)
            · have d6 := c6; try simp at d6
              have hg : gather (prsGf n g ids made y d) (q + 1) = gather (prsGf n g ids made y d) q ++ [prsGd (ids q) (untilP (g (findP n g (ids q)).toNat) made y)] := by rw [gather, prsGf, if_pos d6]
              refine awp_reg_end fun K hK => ?_
              simp [go_sem, c0, d0, c1, d1, wrap_pred (i := i) (by omega), c2, d2, c4, d4, c5, d5, hu, c6, d6, hg, hwf.one, hwf.zero]
              repeat refine ⟨by omega, ?_⟩
              refine hK _ ?_; clear hK K
              refine awp_rows (σ.length + 1) (fun k => Ground.enc (nth (gather (prsGf n g ids made y d) q ++ [prsGd (ids q) (untilP (g (findP n g (ids q)).toNat) made y)]) k)) (by simp [go_sem]; first | exact ⟨rfl, rfl, rfl⟩ | exact ⟨rfl, rfl⟩ | rfl) (by exact fun k hk => cat_nth (enc := Ground.enc) (x := prsGd (ids q) (untilP (g (findP n g (ids q)).toNat) made y)) rfl hk) (by simp [go_sem]; rfl) ?_
              refine awp_reg_end fun K hK => ?_
              simp [go_sem, c0, d0, c1, d1, wrap_pred (i := i) (by omega), c2, d2, c4, d4, c5, d5, hu, c6, d6, hg]
              try simp (disch := omega) only [wrapI]
              repeat refine ⟨by omega, ?_⟩
              refine hK _ ?_; clear hK K
              refine ⟨q + 1, back_of' (by simp [go_sem, wrap_succ (i := q) (by omega), c0, d0, c1, d1, wrap_pred (i := i) (by omega), c2, d2, c4, d4, c5, d5, hu, c6, d6, hg]) ((leaves_app (by simp [go_sem]))) (by (simp [go_sem, wrap_succ (i := q) (by omega), c0, d0, c1, d1, wrap_pred (i := i) (by omega), c2, d2, c4, d4, c5, d5, hu, c6, d6, hg] <;> omega)), ⟨by omega, fun k hk => by rcases Nat.lt_or_eq_of_le (Nat.le_of_lt_succ hk) with h | h; exact hf k h; rw [h]; omega⟩, by first | omega | (dsimp only; omega)⟩
            · have d6 := c6; try simp at d6
              have hg : gather (prsGf n g ids made y d) (q + 1) = gather (prsGf n g ids made y d) q := by rw [gather, prsGf, if_neg (by omega)]; simp
              refine awp_skip ?_
              refine awp_reg_end fun K hK => ?_
              simp [go_sem, c0, d0, c1, d1, wrap_pred (i := i) (by omega), c2, d2, c4, d4, c5, d5, hu, c6, d6, hg]
              try simp (disch := omega) only [wrapI]
              repeat refine ⟨by omega, ?_⟩
              refine hK _ ?_; clear hK K
              refine ⟨q + 1, back_of' (by simp [go_sem, wrap_succ (i := q) (by omega), c0, d0, c1, d1, wrap_pred (i := i) (by omega), c2, d2, c4, d4, c5, d5, hu, c6, d6, hg]) ((leaves_app (by simp [go_sem]))) (by (simp [go_sem, wrap_succ (i := q) (by omega), c0, d0, c1, d1, wrap_pred (i := i) (by omega), c2, d2, c4, d4, c5, d5, hu, c6, d6, hg] <;> omega)), ⟨by omega, fun k hk => by rcases Nat.lt_or_eq_of_le (Nat.le_of_lt_succ hk) with h | h; exact hf k h; rw [h]; omega⟩, by first | omega | (dsimp only; omega)⟩
        · have d4 := c4; try simp at d4
          obtain rfl : q = m := by omega
          have hz : prsGr n g q ids made y d = (gather (prsGf n g ids made y d) q, 0) := by unfold prsGr; rw [if_neg (by simpa using d0), if_neg (by omega), if_neg (by simp [ha]), if_neg (by simp only [ne_eq, Decidable.not_not]; exact firstE_of fun k h1 h2 => by unfold grE; rw [if_neg (by have := hf k (by omega); omega)])]
          refine awp_exit ?_
          refine awp_reg_seq fun K hK => ?_
          simp [go_sem, c0, d0, c1, d1, wrap_pred (i := i) (by omega), c2, d2, c4, d4]
          repeat refine ⟨by omega, ?_⟩
          refine hK _ ?_; clear hK K
          refine awp_freeze (σ.length + 1) (by simp [go_sem]; first | exact ⟨rfl, rfl, rfl⟩ | exact ⟨rfl, rfl⟩ | rfl) (by simp [go_sem]; rfl) (by simp [go_sem, hwf.frz, hwf.frz0]; rfl) ?_
          refine awp_ret ?_
          rw [hz]; simp [go_sem, Tryz.results98]
theorem policy_subject_1_cs (σ : List Blk) (τ : List Blk) (r : Sbj) (u : Int) : CSF Tryz.prog 134 [.agg (r.enc.map .d), .ptr σ.length 0] (σ ++ .var [.d (I u)] :: τ) (.d (B (r.Unit == u))) := by
  refine CSF.of_body T.en134 Tryz.func134 rfl (by simp [Tryz.ntmps134]) (by simp [go_sem]) fun hwf => ?_
  refine awp_reg_seq fun K hK => ?_
  simp [go_sem, Tryz.ntmps134]
  repeat refine ⟨by omega, ?_⟩
  refine hK _ ?_; clear hK K
  refine awp_reg_seq fun K hK => ?_
  simp [go_sem]
  repeat refine ⟨by omega, ?_⟩
  refine hK _ ?_; clear hK K
  refine awp_ret ?_
  simp [go_sem, Tryz.results134] <;> omega
theorem policy_subject_cs (σ : List Blk) (p : Pol) (u : Int) (hp : PolOk p) : CSF Tryz.prog 102 [.agg (p.enc.map .d), .d (I u)] σ (.tup [.agg ((subjR p u).1.enc.map .d), .d (B (subjR p u).2)]) := by
  have hlt := findS_lt p.ns p.gs u
  unfold findS at hlt
  refine CSF.of_body T.en102 Tryz.func102 rfl (by simp [Tryz.ntmps102]) (by simp [go_sem]) fun hwf => ?_
  refine awp_reg_seq fun K hK => ?_
  simp [go_sem, Tryz.ntmps102]
  repeat refine ⟨by omega, ?_⟩
  refine hK _ ?_; clear hK K
  refine awp_reg_seq fun K hK => ?_
  simp [go_sem]
  repeat refine ⟨by omega, ?_⟩
  refine CSk.mk (indexSbj_cs _ none p.ns p.gs _ _ (fun r => r.Unit == u) (by have := hp.ns; omega) (fun i hi => by have h := policy_subject_1_cs (σ ++ [.var (p.enc.map .d)]) [.var [.d (I 0), .d (I 0), .d (I 0), .d (I 0), .d (.v (.slice none 0 0))]] (p.gs i) u; simp only [List.append_assoc, List.cons_append, List.nil_append, List.length_append, List.length_cons, List.length_nil, Nat.zero_add, Nat.reduceAdd] at h; exact h)) ?_
  simp [go_sem]
  repeat refine ⟨by omega, ?_⟩
  refine hK _ ?_; clear hK K
  refine awp_seq ?_
  refine awp_reg_seq fun K hK => ?_
  simp [go_sem]
  repeat refine ⟨by omega, ?_⟩
  refine hK _ ?_; clear hK K
  refine awp_forget [2, 4, 6, 12] (by simp only [restr, List.contains_cons, List.contains_nil, Nat.reduceBEq, Bool.or_false, Bool.or_true, Bool.true_or, Bool.false_or, if_true, if_false, Bool.false_eq_true]; rfl) ?_
  refine awp_cond rfl (fun c0 => ?_) (fun c0 => ?_)
  · have d0 := c0; try simp at d0
    have hz : subjR p u = (Sbj.zero, false) := by unfold subjR findS; rw [if_pos d0]
    refine awp_reg_seq fun K hK => ?_
    simp [go_sem, c0, d0]
    repeat refine ⟨by omega, ?_⟩
    refine hK _ ?_; clear hK K
    refine awp_ret ?_
    rw [hz]; simp [go_sem, Tryz.results102, Sbj.zero]
  · have d0 := c0; try simp at d0
    have hz : subjR p u = (p.gs (findS p.ns p.gs u).toNat, true) := by unfold subjR findS; rw [if_neg (by omega)]
    unfold findS at hz
    refine awp_skip ?_
    refine awp_reg_seq fun K hK => ?_
    simp [go_sem, c0, d0]
    repeat refine ⟨by omega, ?_⟩
    refine hK _ ?_; clear hK K
    refine awp_ret ?_
    rw [hz]; simp [go_sem, Tryz.results102]
theorem policy_subjects_1_cs (σ : List Blk) (τ : List Blk) (r : Prs) (u : Int) : CSF Tryz.prog 86 [.agg (r.enc.map .d), .ptr σ.length 0] (σ ++ .var [.d (I u)] :: τ) (.d (B (r.ID == u))) := by
  refine CSF.of_body T.en86 Tryz.func86 rfl (by simp [Tryz.ntmps86]) (by simp [go_sem]) fun hwf => ?_
  refine awp_reg_seq fun K hK => ?_
  simp [go_sem, Tryz.ntmps86]
  repeat refine ⟨by omega, ?_⟩
  refine hK _ ?_; clear hK K
  refine awp_reg_seq fun K hK => ?_
  simp [go_sem]
  repeat refine ⟨by omega, ?_⟩
  refine hK _ ?_; clear hK K
  refine awp_ret ?_
  simp [go_sem, Tryz.results86] <;> omega
theorem policy_subjects_cs (σ : List Blk) (p : Pol) (hp : PolOk p) : CSF Tryz.prog 51 [.agg (p.enc.map .d)] σ (.d (I (subChk p))) := by
  refine CSF.of_body T.en51 Tryz.func51 rfl (by simp [Tryz.ntmps51]) (by simp [go_sem]) fun hwf => ?_
  refine awp_reg_seq fun K hK => ?_
  simp [go_sem, Tryz.ntmps51]
  repeat refine ⟨by omega, ?_⟩
  refine hK _ ?_; clear hK K
  refine awp_seq ?_
  refine awp_reg_seq fun K hK => ?_
  simp [go_sem]
  repeat refine ⟨by omega, ?_⟩
  refine hK _ ?_; clear hK K
  refine awp_forget [1, 10] (by simp only [restr, List.contains_cons, List.contains_nil, Nat.reduceBEq, Bool.or_false, Bool.or_true, Bool.true_or, Bool.false_or, if_true, if_false, Bool.false_eq_true]; rfl) ?_
  refine awp_cond rfl (fun c0 => ?_) (fun c0 => ?_)
  · have d0 := c0; try simp at d0
    refine awp_reg_seq fun K hK => ?_
    simp [go_sem, c0, d0]
    repeat refine ⟨by omega, ?_⟩
    refine hK _ ?_; clear hK K
    refine awp_ret ?_
    simp [go_sem, Tryz.results51, subChk, c0, d0] <;> omega
  · have d0 := c0; try simp at d0
    refine awp_skip ?_
    refine awp_seq ?_
    refine awp_reg_seq fun K hK => ?_
    simp [go_sem, c0, d0]
    repeat refine ⟨by omega, ?_⟩
    refine hK _ ?_; clear hK K
    refine awp_block ?_
    refine awp_forget [1, 12, 13, 14] (by simp [go_sem, restr]; rfl) ?_
    refine awp_loopU (α := Nat) (fun i => [(14, .d (I i))]) (fun i => σ ++ [.var (p.enc.map .d)]) (fun i => i ≤ p.ns ∧ firstE (subE p) 0 p.ns = firstE (subE p) i (p.ns - i)) (fun i => p.ns - i) 0 (by simp [go_sem]) rfl (by simp) ?_
    rintro i ⟨hi, hx⟩
    refine awp_reg_seq fun K hK => ?_
    simp [go_sem, c0, d0, hi, wrap_pred (i := i) (by have := hp.ns; omega)]
    repeat refine ⟨by omega, ?_⟩
    refine hK _ ?_; clear hK K
    refine awp_seq ?_
    refine awp_forget [1, 12, 13, 14, 15] (by simp only [restr, List.contains_cons, List.contains_nil, Nat.reduceBEq, Bool.or_false, Bool.or_true, Bool.true_or, Bool.false_or, if_true, if_false, Bool.false_eq_true]; rfl) ?_
    refine awp_cond rfl (fun c1 => ?_) (fun c1 => ?_)
    · have d1 := c1; try simp at d1
      obtain ⟨k, hk⟩ : ∃ k, p.ns - i = k + 1 := ⟨p.ns - i - 1, by omega⟩
      have hk' : p.ns - (i + 1) = k := by omega
      rw [hk, firstE] at hx
      refine awp_skip ?_
      refine awp_seq ?_
      refine awp_block ?_
      refine awp_reg_seq fun K hK => ?_
      simp [go_sem, c0, d0, hi, wrap_pred (i := i) (by have := hp.ns; omega), c1, d1]
      repeat refine ⟨by omega, ?_⟩
      refine hK _ ?_; clear hK K
      refine awp_seq ?_
      refine awp_block ?_
      refine awp_reg_seq fun K hK => ?_
      simp [go_sem, c0, d0, hi, wrap_pred (i := i) (by have := hp.ns; omega), c1, d1]
      repeat refine ⟨by omega, ?_⟩
      refine CSk.mk (policy_id_cs _ (p.gs i).Unit) ?_
      simp [go_sem, c0, d0, hi, wrap_pred (i := i) (by have := hp.ns; omega), c1, d1]
      repeat refine ⟨by omega, ?_⟩
      refine hK _ ?_; clear hK K
      refine awp_forget [1, 3, 4, 12, 13, 14, 19] (by simp only [restr, List.contains_cons, List.contains_nil, Nat.reduceBEq, Bool.or_false, Bool.or_true, Bool.true_or, Bool.false_or, if_true, if_false, Bool.false_eq_true]; rfl) ?_
      refine awp_cond rfl (fun c2 => ?_) (fun c2 => ?_)
      · have d2 := c2; try simp at d2
        have he : subE p i = 2 := by unfold subE; rw [if_pos (by simpa [or_assoc] using d2)]
        rw [he] at hx; simp at hx
        refine awp_reg_seq fun K hK => ?_
        simp [go_sem, c0, d0, hi, wrap_pred (i := i) (by have := hp.ns; omega), c1, d1, c2, d2]
        repeat refine ⟨by omega, ?_⟩
        refine hK _ ?_; clear hK K
        refine awp_ret ?_
        simp [go_sem, Tryz.results51, subChk, hx, c0, d0, hi, wrap_pred (i := i) (by have := hp.ns; omega), c1, d1, c2, d2] <;> omega
      · have d2 := c2; try simp at d2
        have hd2 : ¬(idOk (p.gs i).Unit = false ∨ (p.gs i).Class < 0 ∨ 999 < (p.gs i).Class) := by
          rintro (h | h | h)
          · have := d2.1.1; rw [h] at this; cases this
          · omega
          · omega
        refine awp_reg_seq fun K hK => ?_
        simp [go_sem, c0, d0, hi, wrap_pred (i := i) (by have := hp.ns; omega), c1, d1, c2, d2]
        repeat refine ⟨by omega, ?_⟩
        refine CSk.mk (dating_Check_cs _ (p.gs i).Made) ?_
        simp [go_sem, c0, d0, hi, wrap_pred (i := i) (by have := hp.ns; omega), c1, d1, c2, d2]
        repeat refine ⟨by omega, ?_⟩
        refine hK _ ?_; clear hK K
        refine awp_forget [1, 3, 4, 12, 13, 14, 34] (by simp only [restr, List.contains_cons, List.contains_nil, Nat.reduceBEq, Bool.or_false, Bool.or_true, Bool.true_or, Bool.false_or, if_true, if_false, Bool.false_eq_true]; rfl) ?_
        refine awp_cond rfl (fun c3 => ?_) (fun c3 => ?_)
        · have d3 := c3; try simp at d3
          have he : subE p i = 1 := by unfold subE; rw [if_neg hd2, if_pos d3]
          rw [he] at hx; simp at hx
          refine awp_reg_seq fun K hK => ?_
          simp [go_sem, c0, d0, hi, wrap_pred (i := i) (by have := hp.ns; omega), c1, d1, c2, d2, c3, d3]
          repeat refine ⟨by omega, ?_⟩
          refine hK _ ?_; clear hK K
          refine awp_ret ?_
          simp [go_sem, Tryz.results51, subChk, hx, c0, d0, hi, wrap_pred (i := i) (by have := hp.ns; omega), c1, d1, c2, d2, c3, d3] <;> omega
        · have d3 := c3; try simp at d3
          refine awp_draw_seq 21 T.mixed (by kernel_rfl) fun K hK => ?_
          simp [go_sem, c0, d0, hi, wrap_pred (i := i) (by have := hp.ns; omega), c1, d1, c2, d2, c3, d3]
          try simp (disch := omega) only [wrapI]
          repeat refine ⟨by omega, ?_⟩
          refine CSg.mk (policy_increase_cs _ none (p.gs i).np (p.gs i).ps (by have := hp.ps i d1; omega)) ?_
          simp [go_sem, c0, d0, hi, wrap_pred (i := i) (by have := hp.ns; omega), c1, d1, c2, d2, c3, d3]
          try simp (disch := omega) only [wrapI]
          repeat refine ⟨by omega, ?_⟩
          refine hK _ ?_; clear hK K
          refine awp_forget [1, 4, 12, 13, 14, 39] (by simp only [restr, List.contains_cons, List.contains_nil, Nat.reduceBEq, Bool.or_false, Bool.or_true, Bool.true_or, Bool.false_or, if_true, if_false, Bool.false_eq_true]; rfl) ?_
          refine awp_cond rfl (fun c4 => ?_) (fun c4 => ?_)
          · have d4 := c4; try simp at d4
            have he : subE p i = 5 := by unfold subE; rw [if_neg hd2, if_neg (by simp [d3]), if_pos d4]
            rw [he] at hx; simp at hx
            refine awp_reg_seq fun K hK => ?_
            simp [go_sem, c0, d0, hi, wrap_pred (i := i) (by have := hp.ns; omega), c1, d1, c2, d2, c3, d3, c4, d4]
            repeat refine ⟨by omega, ?_⟩
            refine hK _ ?_; clear hK K
            refine awp_ret ?_
            simp [go_sem, Tryz.results51, subChk, hx, c0, d0, hi, wrap_pred (i := i) (by have := hp.ns; omega), c1, d1, c2, d2, c3, d3, c4, d4] <;> omega
          · have d4 := c4; try simp at d4
            have he : subE p i = subE1 p (p.gs i) := by
              unfold subE
              rw [if_neg hd2, if_neg (by simp [d3]), if_neg]
              rintro (h | h)
              · have := d4.1 h.1; omega
              · have := d4.2; rw [h] at this; cases this
            refine awp_skip ?_
            refine awp_reg_seq fun K hK => ?_
            simp [go_sem, c0, d0, hi, wrap_pred (i := i) (by have := hp.ns; omega), c1, d1, c2, d2, c3, d3, c4, d4]
            repeat refine ⟨by omega, ?_⟩
            refine hK _ ?_; clear hK K
            refine awp_block ?_
            refine awp_forget [1, 12, 13, 14, 61, 62, 63] (by simp [go_sem, restr]; rfl) ?_
            refine awp_loopU (α := Nat) (fun q => [(63, .d (I q))]) (fun q => σ ++ [.var (p.enc.map .d), .var ((p.gs i).enc.map .d)]) (fun q => q ≤ (p.gs i).np ∧ subE1 p (p.gs i) = firstE (fun q => if hasP p.np p.gp ((p.gs i).ps q) = false then 7 else 0) q ((p.gs i).np - q)) (fun q => (p.gs i).np - q) 0 (by simp [go_sem]) rfl (⟨by omega, rfl⟩) ?_
            rintro q ⟨hq, hy⟩
            refine awp_reg_seq fun K hK => ?_
            simp [go_sem, c0, d0, hi, wrap_pred (i := i) (by have := hp.ns; omega), c1, d1, c2, d2, c3, d3, c4, d4]
            repeat refine ⟨by omega, ?_⟩
            refine hK _ ?_; clear hK K
            refine awp_seq ?_
            refine awp_forget [1, 12, 13, 14, 61, 62, 63, 64] (by simp only [restr, List.contains_cons, List.contains_nil, Nat.reduceBEq, Bool.or_false, Bool.or_true, Bool.true_or, Bool.false_or, if_true, if_false, Bool.false_eq_true]; rfl) ?_
            refine awp_cond rfl (fun c5 => ?_) (fun c5 => ?_)
            · have d5 := c5; try simp at d5
              obtain ⟨j, hj⟩ : ∃ j, (p.gs i).np - q = j + 1 := ⟨(p.gs i).np - q - 1, by omega⟩
              have hj' : (p.gs i).np - (q + 1) = j := by omega
              rw [hj, firstE] at hy
              refine awp_skip ?_
              refine awp_seq ?_
              refine awp_block ?_
              refine awp_reg_seq fun K hK => ?_
              simp [go_sem, c0, d0, hi, wrap_pred (i := i) (by have := hp.ns; omega), c1, d1, c2, d2, c3, d3, c4, d4, c5, d5]
              repeat refine ⟨by omega, ?_⟩
              refine hK _ ?_; clear hK K
              refine awp_reg_seq fun K hK => ?_
              simp [go_sem, c0, d0, hi, wrap_pred (i := i) (by have := hp.ns; omega), c1, d1, c2, d2, c3, d3, c4, d4, c5, d5]
              repeat refine ⟨by omega, ?_⟩
              refine CSk.mk (containsPrs_cs _ none p.np p.gp _ _ (fun r => r.ID == (p.gs i).ps q) (by have := hp.np; omega) (fun k hk => by have h := policy_subjects_1_cs (σ ++ [.var (p.enc.map .d), .var ((p.gs i).enc.map .d)]) [] (p.gp k) ((p.gs i).ps q); simp only [List.append_assoc, List.cons_append, List.nil_append, List.length_append, List.length_cons, List.length_nil, Nat.zero_add, Nat.reduceAdd] at h; exact h)) ?_
              simp [go_sem, c0, d0, hi, wrap_pred (i := i) (by have := hp.ns; omega), c1, d1, c2, d2, c3, d3, c4, d4, c5, d5]
              repeat refine ⟨by omega, ?_⟩
              refine hK _ ?_; clear hK K
              refine awp_forget [1, 12, 13, 14, 61, 62, 63, 71] (by simp only [restr, List.contains_cons, List.contains_nil, Nat.reduceBEq, Bool.or_false, Bool.or_true, Bool.true_or, Bool.false_or, if_true, if_false, Bool.false_eq_true]; rfl) ?_
              refine awp_cond rfl (fun c6 => ?_) (fun c6 => ?_)
              · have d6 := c6; try simp at d6
                have hh : hasP p.np p.gp ((p.gs i).ps q) = false := by unfold hasP; simpa using c6
                simp only [hh, if_true] at hy
                rw [he, hy] at hx
                simp at hx
                refine awp_reg_seq fun K hK => ?_
                simp [go_sem, c0, d0, hi, wrap_pred (i := i) (by have := hp.ns; omega), c1, d1, c2, d2, c3, d3, c4, d4, c5, d5, c6, d6]
                repeat refine ⟨by omega, ?_⟩
                refine hK _ ?_; clear hK K
                refine awp_ret ?_
                simp [go_sem, Tryz.results51, subChk, hx, c0, d0, hi, wrap_pred (i := i) (by have := hp.ns; omega), c1, d1, c2, d2, c3, d3, c4, d4, c5, d5, c6, d6] <;> omega
              · have d6 := c6; try simp at d6
                have hh : hasP p.np p.gp ((p.gs i).ps q) = true := by unfold hasP; simpa using c6
                simp only [hh, Bool.true_eq_false, if_false] at hy
                simp at hy
                refine awp_skip ?_
                refine awp_reg_end fun K hK => ?_
                simp [go_sem, c0, d0, hi, wrap_pred (i := i) (by have := hp.ns; omega), c1, d1, c2, d2, c3, d3, c4, d4, c5, d5, c6, d6]
                try simp (disch := omega) only [wrapI]
                repeat refine ⟨by omega, ?_⟩
                refine hK _ ?_; clear hK K
                refine ⟨q + 1, back_of' (by simp [go_sem, wrap_succ (i := q) (by have := hp.ps i d1; omega), c0, d0, hi, wrap_pred (i := i) (by have := hp.ns; omega), c1, d1, c2, d2, c3, d3, c4, d4, c5, d5, c6, d6]) (.refl _) (by (simp [go_sem, wrap_succ (i := q) (by have := hp.ps i d1; omega), c0, d0, hi, wrap_pred (i := i) (by have := hp.ns; omega), c1, d1, c2, d2, c3, d3, c4, d4, c5, d5, c6, d6] <;> omega)), ⟨by omega, by rw [hy, hj']⟩, by first | omega | (dsimp only; omega)⟩
            · have d5 := c5; try simp at d5
              obtain rfl : q = (p.gs i).np := by omega
              rw [Nat.sub_self, firstE] at hy
              rw [he, hy] at hx
              simp at hx
              refine awp_exit ?_
              refine awp_reg_end fun K hK => ?_
              simp [go_sem, c0, d0, hi, wrap_pred (i := i) (by have := hp.ns; omega), c1, d1, c2, d2, c3, d3, c4, d4, c5, d5]
              try simp (disch := omega) only [wrapI]
              repeat refine ⟨by omega, ?_⟩
              refine hK _ ?_; clear hK K
              refine ⟨i + 1, back_of' (by simp [go_sem, wrap_succ (i := i) (by have := hp.ns; omega), c0, d0, hi, wrap_pred (i := i) (by have := hp.ns; omega), c1, d1, c2, d2, c3, d3, c4, d4, c5, d5]) (.refl _) (by (simp [go_sem, wrap_succ (i := i) (by have := hp.ns; omega), c0, d0, hi, wrap_pred (i := i) (by have := hp.ns; omega), c1, d1, c2, d2, c3, d3, c4, d4, c5, d5] <;> omega)), ⟨by omega, by rw [hx, hk']⟩, by first | omega | (dsimp only; omega)⟩
    · have d1 := c1; try simp at d1
      have hin : i = p.ns := by omega
      rw [hin, Nat.sub_self, firstE] at hx
      refine awp_exit ?_
      refine awp_reg_seq fun K hK => ?_
      simp [go_sem, c0, d0, hi, wrap_pred (i := i) (by have := hp.ns; omega), c1, d1]
      repeat refine ⟨by omega, ?_⟩
      refine hK _ ?_; clear hK K
      refine awp_ret ?_
      simp [go_sem, Tryz.results51, subChk, hx, c0, d0, hi, wrap_pred (i := i) (by have := hp.ns; omega), c1, d1] <;> omega
theorem ref35_subjects_cs (σ : List Blk) (p : Pol) (hp : PolOk p) (hc : prsChk p.np p.gp = 0) : CSF Tryz.prog 61 [.agg (p.enc.map .d)] σ (.d (I (subChk p))) := by
  refine CSF.of_body T.en61 Tryz.func61 rfl (by simp [Tryz.ntmps61]) (by simp [go_sem]) fun hwf => ?_
  refine awp_reg_seq fun K hK => ?_
  simp [go_sem, Tryz.ntmps61]
  repeat refine ⟨by omega, ?_⟩
  refine hK _ ?_; clear hK K
  refine awp_seq ?_
  refine awp_reg_seq fun K hK => ?_
  simp [go_sem]
  repeat refine ⟨by omega, ?_⟩
  refine hK _ ?_; clear hK K
  refine awp_forget [1, 12] (by simp only [restr, List.contains_cons, List.contains_nil, Nat.reduceBEq, Bool.or_false, Bool.or_true, Bool.true_or, Bool.false_or, if_true, if_false, Bool.false_eq_true]; rfl) ?_
  refine awp_cond rfl (fun c0 => ?_) (fun c0 => ?_)
  · have d0 := c0; try simp at d0
    refine awp_reg_seq fun K hK => ?_
    simp [go_sem, c0, d0]
    repeat refine ⟨by omega, ?_⟩
    refine hK _ ?_; clear hK K
    refine awp_ret ?_
    simp [go_sem, Tryz.results61, subChk, c0, d0] <;> omega
  · have d0 := c0; try simp at d0
    refine awp_skip ?_
    refine awp_seq ?_
    refine awp_reg_seq fun K hK => ?_
    simp [go_sem, c0, d0]
    repeat refine ⟨by omega, ?_⟩
    refine hK _ ?_; clear hK K
    refine awp_block ?_
    refine awp_forget [1, 14, 15, 16] (by simp [go_sem, restr]; rfl) ?_
    refine awp_loopU (α := Nat) (fun i => [(16, .d (I i))]) (fun i => σ ++ [.var (p.enc.map .d)]) (fun i => i ≤ p.ns ∧ firstE (subE p) 0 p.ns = firstE (subE p) i (p.ns - i)) (fun i => p.ns - i) 0 (by simp [go_sem]) rfl (by simp) ?_
    rintro i ⟨hi, hx⟩
    refine awp_reg_seq fun K hK => ?_
    simp [go_sem, c0, d0, hi, wrap_pred (i := i) (by have := hp.ns; omega)]
    repeat refine ⟨by omega, ?_⟩
    refine hK _ ?_; clear hK K
    refine awp_seq ?_
    refine awp_forget [1, 14, 15, 16, 17] (by simp only [restr, List.contains_cons, List.contains_nil, Nat.reduceBEq, Bool.or_false, Bool.or_true, Bool.true_or, Bool.false_or, if_true, if_false, Bool.false_eq_true]; rfl) ?_
    refine awp_cond rfl (fun c1 => ?_) (fun c1 => ?_)
    · have d1 := c1; try simp at d1
      obtain ⟨k, hk⟩ : ∃ k, p.ns - i = k + 1 := ⟨p.ns - i - 1, by omega⟩
      have hk' : p.ns - (i + 1) = k := by omega
      rw [hk, firstE] at hx
      refine awp_skip ?_
      refine awp_seq ?_
      refine awp_block ?_
      refine awp_reg_seq fun K hK => ?_
      simp [go_sem, c0, d0, hi, wrap_pred (i := i) (by have := hp.ns; omega), c1, d1]
      repeat refine ⟨by omega, ?_⟩
      refine hK _ ?_; clear hK K
      refine awp_seq ?_
      refine awp_reg_seq fun K hK => ?_
      simp [go_sem, c0, d0, hi, wrap_pred (i := i) (by have := hp.ns; omega), c1, d1]
      repeat refine ⟨by omega, ?_⟩
      refine hK _ ?_; clear hK K
      refine awp_forget [1, 3, 4, 14, 15, 16, 38] (by simp only [restr, List.contains_cons, List.contains_nil, Nat.reduceBEq, Bool.or_false, Bool.or_true, Bool.true_or, Bool.false_or, if_true, if_false, Bool.false_eq_true]; rfl) ?_
      refine awp_cond rfl (fun c2 => ?_) (fun c2 => ?_)
      · have d2 := c2; try simp at d2
        have he : subE p i = 2 := by unfold subE idOk; rw [if_pos (by simp; omega)]
        rw [he] at hx; simp at hx
        refine awp_reg_seq fun K hK => ?_
        simp [go_sem, c0, d0, hi, wrap_pred (i := i) (by have := hp.ns; omega), c1, d1, c2, d2]
        repeat refine ⟨by omega, ?_⟩
        refine hK _ ?_; clear hK K
        refine awp_ret ?_
        simp [go_sem, Tryz.results61, subChk, hx, c0, d0, hi, wrap_pred (i := i) (by have := hp.ns; omega), c1, d1, c2, d2] <;> omega
      · have d2 := c2; try simp at d2
        have hd2 : ¬(idOk (p.gs i).Unit = false ∨ (p.gs i).Class < 0 ∨ 999 < (p.gs i).Class) := by
          unfold idOk; simp; omega
        refine awp_skip ?_
        refine awp_seq ?_
        refine awp_reg_seq fun K hK => ?_
        simp [go_sem, c0, d0, hi, wrap_pred (i := i) (by have := hp.ns; omega), c1, d1, c2, d2]
        repeat refine ⟨by omega, ?_⟩
        refine CSk.mk (ref03_Check_cs _ (p.gs i).Made) ?_
        simp [go_sem, c0, d0, hi, wrap_pred (i := i) (by have := hp.ns; omega), c1, d1, c2, d2]
        repeat refine ⟨by omega, ?_⟩
        refine hK _ ?_; clear hK K
        refine awp_forget [1, 3, 4, 14, 15, 16, 42] (by simp only [restr, List.contains_cons, List.contains_nil, Nat.reduceBEq, Bool.or_false, Bool.or_true, Bool.true_or, Bool.false_or, if_true, if_false, Bool.false_eq_true]; rfl) ?_
        refine awp_cond rfl (fun c3 => ?_) (fun c3 => ?_)
        · have d3 := c3; try simp at d3
          have he : subE p i = 1 := by unfold subE; rw [if_neg hd2, if_pos d3]
          rw [he] at hx; simp at hx
          refine awp_reg_seq fun K hK => ?_
          simp [go_sem, c0, d0, hi, wrap_pred (i := i) (by have := hp.ns; omega), c1, d1, c2, d2, c3, d3]
          repeat refine ⟨by omega, ?_⟩
          refine hK _ ?_; clear hK K
          refine awp_ret ?_
          simp [go_sem, Tryz.results61, subChk, hx, c0, d0, hi, wrap_pred (i := i) (by have := hp.ns; omega), c1, d1, c2, d2, c3, d3] <;> omega
        · have d3 := c3; try simp at d3
          refine awp_skip ?_
          refine awp_seq ?_
          refine awp_draw_seq 20 T.mixed (by kernel_rfl) fun K hK => ?_
          simp [go_sem, c0, d0, hi, wrap_pred (i := i) (by have := hp.ns; omega), c1, d1, c2, d2, c3, d3]
          try simp (disch := omega) only [wrapI]
          repeat refine ⟨by omega, ?_⟩
          refine CSg.mk (ref35_rising_cs _ none (p.gs i).np (p.gs i).ps (by have := hp.ps i d1; omega)) ?_
          simp [go_sem, c0, d0, hi, wrap_pred (i := i) (by have := hp.ns; omega), c1, d1, c2, d2, c3, d3]
          try simp (disch := omega) only [wrapI]
          repeat refine ⟨by omega, ?_⟩
          refine hK _ ?_; clear hK K
          refine awp_forget [1, 4, 14, 15, 16, 62] (by simp only [restr, List.contains_cons, List.contains_nil, Nat.reduceBEq, Bool.or_false, Bool.or_true, Bool.true_or, Bool.false_or, if_true, if_false, Bool.false_eq_true]; rfl) ?_
          refine awp_cond rfl (fun c4 => ?_) (fun c4 => ?_)
          · have d4 := c4; try simp at d4
            have he : subE p i = 5 := by unfold subE; rw [if_neg hd2, if_neg (by simp [d3]), if_pos d4]
            rw [he] at hx; simp at hx
            refine awp_reg_seq fun K hK => ?_
            simp [go_sem, c0, d0, hi, wrap_pred (i := i) (by have := hp.ns; omega), c1, d1, c2, d2, c3, d3, c4, d4]
            repeat refine ⟨by omega, ?_⟩
            refine hK _ ?_; clear hK K
            refine awp_ret ?_
            simp [go_sem, Tryz.results61, subChk, hx, c0, d0, hi, wrap_pred (i := i) (by have := hp.ns; omega), c1, d1, c2, d2, c3, d3, c4, d4] <;> omega
          · have d4 := c4; try simp at d4
            have he : subE p i = subE1 p (p.gs i) := by
              unfold subE
              rw [if_neg hd2, if_neg (by simp [d3]), if_neg]
              rintro (h | h)
              · have := d4.1 h.1; omega
              · have := d4.2; rw [h] at this; cases this
            refine awp_skip ?_
            refine awp_reg_seq fun K hK => ?_
            simp [go_sem, c0, d0, hi, wrap_pred (i := i) (by have := hp.ns; omega), c1, d1, c2, d2, c3, d3, c4, d4]
            repeat refine ⟨by omega, ?_⟩
            refine hK _ ?_; clear hK K
            refine awp_block ?_
            refine awp_forget [1, 14, 15, 16, 64, 65, 66] (by simp [go_sem, restr]; rfl) ?_
            refine awp_loopU (α := Nat) (fun q => [(66, .d (I q))]) (fun q => σ ++ [.var (p.enc.map .d), .var ((p.gs i).enc.map .d)]) (fun q => q ≤ (p.gs i).np ∧ subE1 p (p.gs i) = firstE (fun q => if hasP p.np p.gp ((p.gs i).ps q) = false then 7 else 0) q ((p.gs i).np - q)) (fun q => (p.gs i).np - q) 0 (by simp [go_sem]) rfl (⟨by omega, rfl⟩) ?_
            rintro q ⟨hq, hy⟩
            refine awp_reg_seq fun K hK => ?_
            simp [go_sem, c0, d0, hi, wrap_pred (i := i) (by have := hp.ns; omega), c1, d1, c2, d2, c3, d3, c4, d4]
            repeat refine ⟨by omega, ?_⟩
            refine hK _ ?_; clear hK K
            refine awp_seq ?_
            refine awp_forget [1, 14, 15, 16, 64, 65, 66, 67] (by simp only [restr, List.contains_cons, List.contains_nil, Nat.reduceBEq, Bool.or_false, Bool.or_true, Bool.true_or, Bool.false_or, if_true, if_false, Bool.false_eq_true]; rfl) ?_
            refine awp_cond rfl (fun c5 => ?_) (fun c5 => ?_)
            · have d5 := c5; try simp at d5
              obtain ⟨j, hj⟩ : ∃ j, (p.gs i).np - q = j + 1 := ⟨(p.gs i).np - q - 1, by omega⟩
              have hj' : (p.gs i).np - (q + 1) = j := by omega
              rw [hj, firstE] at hy
              refine awp_skip ?_
              refine awp_seq ?_
              refine awp_block ?_
              refine awp_reg_seq fun K hK => ?_
              simp [go_sem, c0, d0, hi, wrap_pred (i := i) (by have := hp.ns; omega), c1, d1, c2, d2, c3, d3, c4, d4, c5, d5]
              repeat refine ⟨by omega, ?_⟩
              refine hK _ ?_; clear hK K
              refine awp_reg_seq fun K hK => ?_
              simp [go_sem, c0, d0, hi, wrap_pred (i := i) (by have := hp.ns; omega), c1, d1, c2, d2, c3, d3, c4, d4, c5, d5]
              repeat refine ⟨by omega, ?_⟩
              refine CSk.mk (ref32_Find_cs _ none p.np p.gp ((p.gs i).ps q) (by have := hp.np; omega) hp.nn) ?_
              simp [go_sem, c0, d0, hi, wrap_pred (i := i) (by have := hp.ns; omega), c1, d1, c2, d2, c3, d3, c4, d4, c5, d5]
              repeat refine ⟨by omega, ?_⟩
              refine hK _ ?_; clear hK K
              refine awp_reg_seq fun K hK => ?_
              simp [go_sem, c0, d0, hi, wrap_pred (i := i) (by have := hp.ns; omega), c1, d1, c2, d2, c3, d3, c4, d4, c5, d5]
              repeat refine ⟨by omega, ?_⟩
              refine hK _ ?_; clear hK K
              refine awp_forget [1, 14, 15, 16, 64, 65, 66, 78] (by simp only [restr, List.contains_cons, List.contains_nil, Nat.reduceBEq, Bool.or_false, Bool.or_true, Bool.true_or, Bool.false_or, if_true, if_false, Bool.false_eq_true]; rfl) ?_
              refine awp_cond rfl (fun c6 => ?_) (fun c6 => ?_)
              · have d6 := c6; try simp at d6
                have hh : hasP p.np p.gp ((p.gs i).ps q) = false := by rw [← find_has hc]; simpa using c6
                simp only [hh, if_true] at hy
                rw [he, hy] at hx
                simp at hx
                refine awp_reg_seq fun K hK => ?_
                simp [go_sem, c0, d0, hi, wrap_pred (i := i) (by have := hp.ns; omega), c1, d1, c2, d2, c3, d3, c4, d4, c5, d5, c6, d6]
                repeat refine ⟨by omega, ?_⟩
                refine hK _ ?_; clear hK K
                refine awp_ret ?_
                simp [go_sem, Tryz.results61, subChk, hx, c0, d0, hi, wrap_pred (i := i) (by have := hp.ns; omega), c1, d1, c2, d2, c3, d3, c4, d4, c5, d5, c6, d6] <;> omega
              · have d6 := c6; try simp at d6
                have hh : hasP p.np p.gp ((p.gs i).ps q) = true := by rw [← find_has hc]; simpa using c6
                simp only [hh, Bool.true_eq_false, if_false] at hy
                simp at hy
                refine awp_skip ?_
                refine awp_reg_end fun K hK => ?_
                simp [go_sem, c0, d0, hi, wrap_pred (i := i) (by have := hp.ns; omega), c1, d1, c2, d2, c3, d3, c4, d4, c5, d5, c6, d6]
                try simp (disch := omega) only [wrapI]
                repeat refine ⟨by omega, ?_⟩
                refine hK _ ?_; clear hK K
                refine ⟨q + 1, back_of' (by simp [go_sem, wrap_succ (i := q) (by have := hp.ps i d1; omega), c0, d0, hi, wrap_pred (i := i) (by have := hp.ns; omega), c1, d1, c2, d2, c3, d3, c4, d4, c5, d5, c6, d6]) (.refl _) (by (simp [go_sem, wrap_succ (i := q) (by have := hp.ps i d1; omega), c0, d0, hi, wrap_pred (i := i) (by have := hp.ns; omega), c1, d1, c2, d2, c3, d3, c4, d4, c5, d5, c6, d6] <;> omega)), ⟨by omega, by rw [hy, hj']⟩, by first | omega | (dsimp only; omega)⟩
            · have d5 := c5; try simp at d5
              obtain rfl : q = (p.gs i).np := by omega
              rw [Nat.sub_self, firstE] at hy
              rw [he, hy] at hx
              simp at hx
              refine awp_exit ?_
              refine awp_reg_end fun K hK => ?_
              simp [go_sem, c0, d0, hi, wrap_pred (i := i) (by have := hp.ns; omega), c1, d1, c2, d2, c3, d3, c4, d4, c5, d5]
              try simp (disch := omega) only [wrapI]
              repeat refine ⟨by omega, ?_⟩
              refine hK _ ?_; clear hK K
              refine ⟨i + 1, back_of' (by simp [go_sem, wrap_succ (i := i) (by have := hp.ns; omega), c0, d0, hi, wrap_pred (i := i) (by have := hp.ns; omega), c1, d1, c2, d2, c3, d3, c4, d4, c5, d5]) (.refl _) (by (simp [go_sem, wrap_succ (i := i) (by have := hp.ns; omega), c0, d0, hi, wrap_pred (i := i) (by have := hp.ns; omega), c1, d1, c2, d2, c3, d3, c4, d4, c5, d5] <;> omega)), ⟨by omega, by rw [hx, hk']⟩, by first | omega | (dsimp only; omega)⟩
    · have d1 := c1; try simp at d1
      have hin : i = p.ns := by omega
      rw [hin, Nat.sub_self, firstE] at hx
      refine awp_exit ?_
      refine awp_reg_seq fun K hK => ?_
      simp [go_sem, c0, d0, hi, wrap_pred (i := i) (by have := hp.ns; omega), c1, d1]
      repeat refine ⟨by omega, ?_⟩
      refine hK _ ?_; clear hK K
      refine awp_ret ?_
      simp [go_sem, Tryz.results61, subChk, hx, c0, d0, hi, wrap_pred (i := i) (by have := hp.ns; omega), c1, d1] <;> omega
theorem policy_Check_cs (σ : List Blk) (p : Pol) (hp : PolOk p) (hσ : σ[0]? = some (.loc 0)) : CSF Tryz.prog 18 [.agg (p.enc.map .d)] σ (.d (I (polChk p))) := by
  refine CSF.of_body T.en18 Tryz.func18 rfl (by simp [Tryz.ntmps18]) (by simp [go_sem]) fun hwf => ?_
  refine awp_reg_seq fun K hK => ?_
  simp [go_sem, Tryz.ntmps18]
  repeat refine ⟨by omega, ?_⟩
  refine hK _ ?_; clear hK K
  refine awp_seq ?_
  refine awp_draw_seq 15 T.mixed (by kernel_rfl) fun K hK => ?_
  simp [go_sem]
  repeat refine ⟨by omega, ?_⟩
  refine CSg.mk (closure_Check_cs _ none p.nc p.gc (by have := hp.nc; omega)) ?_
  simp [go_sem]
  repeat refine ⟨by omega, ?_⟩
  refine CSg.mk (person_Check_cs _ none p.np p.gp (by have := hp.np; omega) hp.nn (loc_app hσ)) ?_
  simp [go_sem]
  repeat refine ⟨by omega, ?_⟩
  refine CSg.mk (agreement_Check_cs _ none p.na p.ga (by have := hp.na; omega)) ?_
  simp [go_sem]
  repeat refine ⟨by omega, ?_⟩
  refine CSg.mk (permit_Check_cs _ none p.nm p.gm (by have := hp.nm; omega)) ?_
  simp [go_sem]
  repeat refine ⟨by omega, ?_⟩
  refine hK _ ?_; clear hK K
  refine awp_block ?_
  refine awp_forget [1, 17, 18, 19] (by simp [go_sem, restr]; rfl) ?_
  refine awp_loopU (α := Nat) (fun i => [(19, .d (I i))]) (fun i => _) (fun i => i ≤ 4 ∧ firstE (polE p) 0 4 = firstE (polE p) i (4 - i)) (fun i => 4 - i) 0 (by simp [go_sem]) rfl (by simp) ?_
  rintro i ⟨hi, hx⟩
  refine awp_reg_seq fun K hK => ?_
  simp [go_sem]
  repeat refine ⟨by omega, ?_⟩
  refine hK _ ?_; clear hK K
  refine awp_seq ?_
  refine awp_forget [1, 17, 18, 19, 20] (by simp only [restr, List.contains_cons, List.contains_nil, Nat.reduceBEq, Bool.or_false, Bool.or_true, Bool.true_or, Bool.false_or, if_true, if_false, Bool.false_eq_true]; rfl) ?_
  refine awp_cond rfl (fun c0 => ?_) (fun c0 => ?_)
  · have d0 := c0; try simp at d0
    obtain ⟨k, hk⟩ : ∃ k, 4 - i = k + 1 := ⟨4 - i - 1, by omega⟩
    have hk' : 4 - (i + 1) = k := by omega
    have hs : firstE (polE p) i (k + 1) = if polE p i ≠ 0 then polE p i else firstE (polE p) (i + 1) k := rfl
    rw [hk, hs] at hx
    have hrow : rowsOf 1 [I (check p.nc p.gc), I (prsChk p.np p.gp), I (agrChk p.na p.ga), I (pmtChk p.nm p.gm)] i = [I (polE p i)] := by
      have hi4 : i = 0 ∨ i = 1 ∨ i = 2 ∨ i = 3 := by omega
      rcases hi4 with rfl | rfl | rfl | rfl <;> rfl
    refine awp_skip ?_
    refine awp_seq ?_
    refine awp_block ?_
    refine awp_reg_seq fun K hK => ?_
    simp [go_sem, c0, d0, hrow]
    repeat refine ⟨by omega, ?_⟩
    refine hK _ ?_; clear hK K
    refine awp_reg_seq fun K hK => ?_
    simp [go_sem, c0, d0, hrow]
    repeat refine ⟨by omega, ?_⟩
    refine hK _ ?_; clear hK K
    refine awp_forget [1, 4, 17, 18, 19, 24] (by simp only [restr, List.contains_cons, List.contains_nil, Nat.reduceBEq, Bool.or_false, Bool.or_true, Bool.true_or, Bool.false_or, if_true, if_false, Bool.false_eq_true]; rfl) ?_
    refine awp_cond rfl (fun c1 => ?_) (fun c1 => ?_)
    · have d1 := c1; try simp at d1
      rw [if_pos d1] at hx
      have hz : polChk p = polE p i := by unfold polChk; rw [if_pos (by rw [hx]; exact d1), hx]
      refine awp_reg_seq fun K hK => ?_
      simp [go_sem, c0, d0, hrow, c1, d1]
      repeat refine ⟨by omega, ?_⟩
      refine hK _ ?_; clear hK K
      refine awp_ret ?_
      rw [hz]; simp [go_sem, Tryz.results18]
    · have d1 := c1; try simp at d1
      rw [if_neg (by simp [d1])] at hx
      refine awp_skip ?_
      refine awp_reg_end fun K hK => ?_
      simp [go_sem, c0, d0, hrow, c1, d1]
      try simp (disch := omega) only [wrapI]
      repeat refine ⟨by omega, ?_⟩
      refine hK _ ?_; clear hK K
      refine ⟨i + 1, back_of' (by simp) (.refl _) (by (simp [go_sem, wrap_succ (i := i) (by omega), c0, d0, hrow, c1, d1] <;> omega)), ⟨by omega, by rw [hx, hk']⟩, by first | omega | (dsimp only; omega)⟩
  · have d0 := c0; try simp at d0
    obtain rfl : i = 4 := by omega
    have hx : firstE (polE p) 0 4 = 0 := hx
    refine awp_exit ?_
    refine awp_seq ?_
    refine awp_reg_seq fun K hK => ?_
    simp [go_sem, c0, d0]
    repeat refine ⟨by omega, ?_⟩
    refine hK _ ?_; clear hK K
    refine awp_forget [1, 34] (by simp only [restr, List.contains_cons, List.contains_nil, Nat.reduceBEq, Bool.or_false, Bool.or_true, Bool.true_or, Bool.false_or, if_true, if_false, Bool.false_eq_true]; rfl) ?_
    refine awp_cond rfl (fun c2 => ?_) (fun c2 => ?_)
    · have d2 := c2; try simp at d2
      have hz : polChk p = 2 := by unfold polChk; rw [if_neg (by simp [hx]), if_pos d2]
      refine awp_reg_seq fun K hK => ?_
      simp [go_sem, c0, d0, c2, d2]
      repeat refine ⟨by omega, ?_⟩
      refine hK _ ?_; clear hK K
      refine awp_ret ?_
      rw [hz]; simp [go_sem, Tryz.results18]
    · have d2 := c2; try simp at d2
      have hz : polChk p = subChk p := by unfold polChk; rw [if_neg (by simp [hx]), if_neg (by omega)]
      refine awp_skip ?_
      refine awp_reg_seq fun K hK => ?_
      simp [go_sem, c0, d0, c2, d2]
      repeat refine ⟨by omega, ?_⟩
      refine CSk.mk (policy_subjects_cs _ p hp) ?_
      simp [go_sem, c0, d0, c2, d2]
      repeat refine ⟨by omega, ?_⟩
      refine hK _ ?_; clear hK K
      refine awp_ret ?_
      rw [hz]; simp [go_sem, Tryz.results18]
theorem ref35_Check_cs (σ : List Blk) (p : Pol) (hp : PolOk p) : CSF Tryz.prog 20 [.agg (p.enc.map .d)] σ (.d (I (polChk p))) := by
  refine CSF.of_body T.en20 Tryz.func20 rfl (by simp [Tryz.ntmps20]) (by simp [go_sem]) fun hwf => ?_
  refine awp_reg_seq fun K hK => ?_
  simp [go_sem, Tryz.ntmps20]
  repeat refine ⟨by omega, ?_⟩
  refine hK _ ?_; clear hK K
  refine awp_seq ?_
  refine awp_draw_seq 15 T.mixed (by kernel_rfl) fun K hK => ?_
  simp [go_sem]
  repeat refine ⟨by omega, ?_⟩
  refine CSg.mk (ref31_Check_cs _ none p.nc p.gc (by have := hp.nc; omega)) ?_
  simp [go_sem]
  repeat refine ⟨by omega, ?_⟩
  refine CSg.mk (ref32_Check_cs _ none p.np p.gp (by have := hp.np; omega) hp.nn) ?_
  simp [go_sem]
  repeat refine ⟨by omega, ?_⟩
  refine CSg.mk (ref33_Check_cs _ none p.na p.ga (by have := hp.na; omega)) ?_
  simp [go_sem]
  repeat refine ⟨by omega, ?_⟩
  refine CSg.mk (ref34_Check_cs _ none p.nm p.gm (by have := hp.nm; omega)) ?_
  simp [go_sem]
  repeat refine ⟨by omega, ?_⟩
  refine hK _ ?_; clear hK K
  refine awp_block ?_
  refine awp_forget [1, 17, 18, 19] (by simp [go_sem, restr]; rfl) ?_
  refine awp_loopU (α := Nat) (fun i => [(19, .d (I i))]) (fun i => _) (fun i => i ≤ 4 ∧ firstE (polE p) 0 4 = firstE (polE p) i (4 - i)) (fun i => 4 - i) 0 (by simp [go_sem]) rfl (by simp) ?_
  rintro i ⟨hi, hx⟩
  refine awp_reg_seq fun K hK => ?_
  simp [go_sem]
  repeat refine ⟨by omega, ?_⟩
  refine hK _ ?_; clear hK K
  refine awp_seq ?_
  refine awp_forget [1, 17, 18, 19, 20] (by simp only [restr, List.contains_cons, List.contains_nil, Nat.reduceBEq, Bool.or_false, Bool.or_true, Bool.true_or, Bool.false_or, if_true, if_false, Bool.false_eq_true]; rfl) ?_
  refine awp_cond rfl (fun c0 => ?_) (fun c0 => ?_)
  · have d0 := c0; try simp at d0
    obtain ⟨k, hk⟩ : ∃ k, 4 - i = k + 1 := ⟨4 - i - 1, by omega⟩
    have hk' : 4 - (i + 1) = k := by omega
    have hs : firstE (polE p) i (k + 1) = if polE p i ≠ 0 then polE p i else firstE (polE p) (i + 1) k := rfl
    rw [hk, hs] at hx
    have hrow : rowsOf 1 [I (check p.nc p.gc), I (prsChk p.np p.gp), I (agrChk p.na p.ga), I (pmtChk p.nm p.gm)] i = [I (polE p i)] := by
      have hi4 : i = 0 ∨ i = 1 ∨ i = 2 ∨ i = 3 := by omega
      rcases hi4 with rfl | rfl | rfl | rfl <;> rfl
    refine awp_skip ?_
    refine awp_seq ?_
    refine awp_block ?_
    refine awp_reg_seq fun K hK => ?_
    simp [go_sem, c0, d0, hrow]
    repeat refine ⟨by omega, ?_⟩
    refine hK _ ?_; clear hK K
    refine awp_reg_seq fun K hK => ?_
    simp [go_sem, c0, d0, hrow]
    repeat refine ⟨by omega, ?_⟩
    refine hK _ ?_; clear hK K
    refine awp_forget [1, 4, 17, 18, 19, 24] (by simp only [restr, List.contains_cons, List.contains_nil, Nat.reduceBEq, Bool.or_false, Bool.or_true, Bool.true_or, Bool.false_or, if_true, if_false, Bool.false_eq_true]; rfl) ?_
    refine awp_cond rfl (fun c1 => ?_) (fun c1 => ?_)
    · have d1 := c1; try simp at d1
      rw [if_pos d1] at hx
      have hz : polChk p = polE p i := by unfold polChk; rw [if_pos (by rw [hx]; exact d1), hx]
      refine awp_reg_seq fun K hK => ?_
      simp [go_sem, c0, d0, hrow, c1, d1]
      repeat refine ⟨by omega, ?_⟩
      refine hK _ ?_; clear hK K
      refine awp_ret ?_
      rw [hz]; simp [go_sem, Tryz.results20]
    · have d1 := c1; try simp at d1
      rw [if_neg (by simp [d1])] at hx
      refine awp_skip ?_
      refine awp_reg_end fun K hK => ?_
      simp [go_sem, c0, d0, hrow, c1, d1]
      try simp (disch := omega) only [wrapI]
      repeat refine ⟨by omega, ?_⟩
      refine hK _ ?_; clear hK K
      refine ⟨i + 1, back_of' (by simp) (.refl _) (by (simp [go_sem, wrap_succ (i := i) (by omega), c0, d0, hrow, c1, d1] <;> omega)), ⟨by omega, by rw [hx, hk']⟩, by first | omega | (dsimp only; omega)⟩
  · have d0 := c0; try simp at d0
    obtain rfl : i = 4 := by omega
    have hx : firstE (polE p) 0 4 = 0 := hx
    refine awp_exit ?_
    refine awp_seq ?_
    refine awp_reg_seq fun K hK => ?_
    simp [go_sem, c0, d0]
    repeat refine ⟨by omega, ?_⟩
    refine hK _ ?_; clear hK K
    refine awp_forget [1, 34] (by simp only [restr, List.contains_cons, List.contains_nil, Nat.reduceBEq, Bool.or_false, Bool.or_true, Bool.true_or, Bool.false_or, if_true, if_false, Bool.false_eq_true]; rfl) ?_
    refine awp_cond rfl (fun c2 => ?_) (fun c2 => ?_)
    · have d2 := c2; try simp at d2
      have hz : polChk p = 2 := by unfold polChk; rw [if_neg (by simp [hx]), if_pos d2]
      refine awp_reg_seq fun K hK => ?_
      simp [go_sem, c0, d0, c2, d2]
      repeat refine ⟨by omega, ?_⟩
      refine hK _ ?_; clear hK K
      refine awp_ret ?_
      rw [hz]; simp [go_sem, Tryz.results20]
    · have d2 := c2; try simp at d2
      have hz : polChk p = subChk p := by unfold polChk; rw [if_neg (by simp [hx]), if_neg (by omega)]
      refine awp_skip ?_
      refine awp_reg_seq fun K hK => ?_
      simp [go_sem, c0, d0, c2, d2]
      repeat refine ⟨by omega, ?_⟩
      refine CSk.mk (ref35_subjects_cs _ p hp (firstE_zero hx 1 (by omega) (by omega))) ?_
      simp [go_sem, c0, d0, c2, d2]
      repeat refine ⟨by omega, ?_⟩
      refine hK _ ?_; clear hK K
      refine awp_ret ?_
      rw [hz]; simp [go_sem, Tryz.results20]
end Go.Proofs.YtkochmppmpmddaaGreat

/-! Df -/
namespace Go.Proofs.YtkochmppmpmddaaGreat
open Go.Abs Go.Arch
set_option linter.unusedVariables false
set_option linter.unusedSimpArgs false
set_option maxRecDepth 100000
set_option maxHeartbeats 400000
def clsG (p : Pol) (r : Row) (d : Int) : Nat → List Ground
  | 0 => if (closedR p.nc p.gc (subjR p r.Unit).1.Class (subjR p r.Unit).1.Made d).2 = true ∧ (subjR p r.Unit).1.Class ≠ 0 then [(closedR p.nc p.gc (subjR p r.Unit).1.Class (subjR p r.Unit).1.Made d).1] else []
  | 1 => (prsGr p.np p.gp (subjR p r.Unit).1.np (subjR p r.Unit).1.ps (subjR p r.Unit).1.Made p.Years d).1
  | _ => if r.Accession = 0 then [] else agrGr p.na p.ga r.Accession d
def maxU (d : Int) (L : List Ground) : Nat → Int
  | 0 => d
  | i + 1 => max (maxU d L i) (nth L i).Until
def opnS (p : Pol) (r : Row) (d : Int) : Nat → Int × Int
  | 0 => if (subjR p r.Unit).1.Class = 0 then (d, 0) else refOpensR p.nc p.gc (subjR p r.Unit).1.Class (subjR p r.Unit).1.Made d
  | 1 => if maxU d (clsG p r d 1) (clsG p r d 1).length = 1048576 then (0, 23) else (maxU d (clsG p r d 1) (clsG p r d 1).length, 0)
  | _ => if r.Accession = 0 then (d, 0) else agrOp p.na p.ga r.Accession d
theorem clsG_0 (p : Pol) (r : Row) (d : Int) : clsG p r d 0 = if (closedR p.nc p.gc (subjR p r.Unit).1.Class (subjR p r.Unit).1.Made d).2 = true ∧ (subjR p r.Unit).1.Class ≠ 0 then [(closedR p.nc p.gc (subjR p r.Unit).1.Class (subjR p r.Unit).1.Made d).1] else [] := rfl
theorem clsG_1 (p : Pol) (r : Row) (d : Int) : clsG p r d 1 = (prsGr p.np p.gp (subjR p r.Unit).1.np (subjR p r.Unit).1.ps (subjR p r.Unit).1.Made p.Years d).1 := rfl
theorem clsG_2 (p : Pol) (r : Row) (d : Int) : clsG p r d 2 = if r.Accession = 0 then [] else agrGr p.na p.ga r.Accession d := rfl
theorem opnS_0 (p : Pol) (r : Row) (d : Int) : opnS p r d 0 = if (subjR p r.Unit).1.Class = 0 then (d, 0) else refOpensR p.nc p.gc (subjR p r.Unit).1.Class (subjR p r.Unit).1.Made d := rfl
theorem opnS_1 (p : Pol) (r : Row) (d : Int) : opnS p r d 1 = if maxU d (clsG p r d 1) (clsG p r d 1).length = 1048576 then (0, 23) else (maxU d (clsG p r d 1) (clsG p r d 1).length, 0) := rfl
theorem opnS_2 (p : Pol) (r : Row) (d : Int) : opnS p r d 2 = if r.Accession = 0 then (d, 0) else agrOp p.na p.ga r.Accession d := rfl
theorem prsGr_len (n : Nat) (g : Nat → Prs) (m : Nat) (ids : Nat → Int) (made : Dating) (y d : Int) : (prsGr n g m ids made y d).1.length ≤ m := by
  have := gather_len (prsGf_len n g ids made y d) m
  unfold prsGr; split; · simp
  split; · simp
  split; · simp
  split; · simp
  exact this
theorem agrGr_len (n : Nat) (g : Nat → Agr) (k d : Int) : (agrGr n g k d).length ≤ n := by
  have := gather_len (agrGf_len g k d) n
  unfold agrGr; split; · simp
  exact this
theorem clsG_len {p : Pol} (h : PolOk p) (r : Row) (d : Int) (j : Nat) : (clsG p r d j).length ≤ 1000 := by
  unfold clsG
  split
  · split <;> simp
  · have := prsGr_len p.np p.gp (subjR p r.Unit).1.np (subjR p r.Unit).1.ps (subjR p r.Unit).1.Made p.Years d
    have := subj_np h r.Unit; omega
  · split
    · simp
    · have := agrGr_len p.na p.ga r.Accession d; have := h.na; omega
abbrev Fn0 (f : FuncId) : D := .v (.func (.func f) #[] #[])
theorem policy_sources_cs (σ : List Blk)  : CSF Tryz.prog 70 [] σ (.d (.sl none 2 3 fun j => [Fn0 (if j = 0 then 101 else if j = 1 then 106 else 109), Fn0 (if j = 0 then 104 else if j = 1 then 108 else 111)])) := by
  refine CSF.of_body T.en70 Tryz.func70 rfl (by simp [Tryz.ntmps70]) (by simp [go_sem]) fun hwf => ?_
  refine awp_reg_seq fun K hK => ?_
  simp [go_sem, Tryz.ntmps70]
  repeat refine ⟨by omega, ?_⟩
  refine hK _ ?_; clear hK K
  refine awp_reg_seq fun K hK => ?_
  simp [go_sem]
  repeat refine ⟨by omega, ?_⟩
  refine hK _ ?_; clear hK K
  refine awp_ret ?_
  simp [go_sem, Tryz.results70]
  intro i hi
  have hi3 : i = 0 ∨ i = 1 ∨ i = 2 := by omega
  rcases hi3 with rfl | rfl | rfl <;> rfl
theorem policy_sources_1_cs (σ : List Blk) (p : Pol) (r : Row) (d : Int) (hp : PolOk p) : CSF Tryz.prog 101 [.agg (p.enc.map .d), .agg (r.enc.map .d), .d (I d)] σ (.d (SL none 4 Ground.enc (clsG p r d 0).length (nth (clsG p r d 0)))) := by
  refine CSF.of_body T.en101 Tryz.func101 rfl (by simp [Tryz.ntmps101]) (by simp [go_sem]) fun hwf => ?_
  refine awp_reg_seq fun K hK => ?_
  simp [go_sem, Tryz.ntmps101]
  repeat refine ⟨by omega, ?_⟩
  refine hK _ ?_; clear hK K
  refine awp_reg_seq fun K hK => ?_
  simp [go_sem]
  repeat refine ⟨by omega, ?_⟩
  refine CSk.mk (policy_subject_cs _ _ _ (by first | assumption | exact loc_app (by assumption) | omega | simp_all)) ?_
  simp [go_sem]
  repeat refine ⟨by omega, ?_⟩
  refine hK _ ?_; clear hK K
  refine awp_seq ?_
  refine awp_reg_seq fun K hK => ?_
  simp [go_sem]
  repeat refine ⟨by omega, ?_⟩
  refine CSk.mk (closure_Closed_cs _ none p.nc p.gc (subjR p r.Unit).1.Class (subjR p r.Unit).1.Made d (by have := hp.nc; omega)) ?_
  simp [go_sem]
  repeat refine ⟨by omega, ?_⟩
  refine hK _ ?_; clear hK K
  refine awp_reg_seq fun K hK => ?_
  simp [go_sem]
  repeat refine ⟨by omega, ?_⟩
  refine hK _ ?_; clear hK K
  refine awp_forget [9, 34] (by simp only [restr, List.contains_cons, List.contains_nil, Nat.reduceBEq, Bool.or_false, Bool.or_true, Bool.true_or, Bool.false_or, if_true, if_false, Bool.false_eq_true]; rfl) ?_
  refine awp_cond rfl (fun c0 => ?_) (fun c0 => ?_)
  · have d0 := c0; try simp at d0
    have hz : clsG p r d 0 = [(closedR p.nc p.gc (subjR p r.Unit).1.Class (subjR p r.Unit).1.Made d).1] := by rw [clsG_0, if_pos d0]
    refine awp_reg_seq fun K hK => ?_
    simp [go_sem, c0, d0]
    repeat refine ⟨by omega, ?_⟩
    refine hK _ ?_; clear hK K
    refine awp_ret ?_
    rw [hz]; simp [go_sem, Tryz.results101]
    exact ⟨rfl, rfl, rfl, rfl⟩
  · have d0 := c0; try simp at d0
    have hz : clsG p r d 0 = [] := by rw [clsG_0, if_neg (by rintro ⟨h1, h2⟩; exact h2 (d0 h1))]
    refine awp_skip ?_
    refine awp_reg_seq fun K hK => ?_
    simp [go_sem, c0, d0]
    repeat refine ⟨by omega, ?_⟩
    refine hK _ ?_; clear hK K
    refine awp_ret ?_
    rw [hz]; simp [go_sem, Tryz.results101]
theorem policy_sources_2_cs (σ : List Blk) (p : Pol) (r : Row) (d : Int) (hp : PolOk p) : CSF Tryz.prog 104 [.agg (p.enc.map .d), .agg (r.enc.map .d), .d (I d)] σ (.tup [.d (I (opnS p r d 0).1), .d (I (opnS p r d 0).2)]) := by
  refine CSF.of_body T.en104 Tryz.func104 rfl (by simp [Tryz.ntmps104]) (by simp [go_sem]) fun hwf => ?_
  refine awp_reg_seq fun K hK => ?_
  simp [go_sem, Tryz.ntmps104]
  repeat refine ⟨by omega, ?_⟩
  refine hK _ ?_; clear hK K
  refine awp_reg_seq fun K hK => ?_
  simp [go_sem]
  repeat refine ⟨by omega, ?_⟩
  refine CSk.mk (policy_subject_cs _ _ _ (by first | assumption | exact loc_app (by assumption) | omega | simp_all)) ?_
  simp [go_sem]
  repeat refine ⟨by omega, ?_⟩
  refine hK _ ?_; clear hK K
  refine awp_seq ?_
  refine awp_reg_seq fun K hK => ?_
  simp [go_sem]
  repeat refine ⟨by omega, ?_⟩
  refine hK _ ?_; clear hK K
  refine awp_forget [2, 3, 8, 19] (by simp only [restr, List.contains_cons, List.contains_nil, Nat.reduceBEq, Bool.or_false, Bool.or_true, Bool.true_or, Bool.false_or, if_true, if_false, Bool.false_eq_true]; rfl) ?_
  refine awp_cond rfl (fun c0 => ?_) (fun c0 => ?_)
  · have d0 := c0; try simp at d0
    have hz : opnS p r d 0 = (d, 0) := by rw [opnS_0, if_pos d0]
    refine awp_reg_seq fun K hK => ?_
    simp [go_sem, c0, d0]
    repeat refine ⟨by omega, ?_⟩
    refine hK _ ?_; clear hK K
    refine awp_ret ?_
    rw [hz]; simp [go_sem, Tryz.results104]
  · have d0 := c0; try simp at d0
    have hz : opnS p r d 0 = refOpensR p.nc p.gc (subjR p r.Unit).1.Class (subjR p r.Unit).1.Made d := by rw [opnS_0, if_neg d0]
    refine awp_skip ?_
    refine awp_reg_seq fun K hK => ?_
    simp [go_sem, c0, d0]
    repeat refine ⟨by omega, ?_⟩
    refine CSk.mk (closure_Opens_cs _ none p.nc p.gc (subjR p r.Unit).1.Class (subjR p r.Unit).1.Made d (by have := hp.nc; omega)) ?_
    simp [go_sem, c0, d0]
    repeat refine ⟨by omega, ?_⟩
    refine hK _ ?_; clear hK K
    refine awp_ret ?_
    rw [hz]; simp [go_sem, Tryz.results104]
theorem policy_sources_3_cs (σ : List Blk) (p : Pol) (r : Row) (d : Int) (hp : PolOk p) (hσ : σ[0]? = some (.loc 0)) : CSF Tryz.prog 106 [.agg (p.enc.map .d), .agg (r.enc.map .d), .d (I d)] σ (.d (SL none 4 Ground.enc (clsG p r d 1).length (nth (clsG p r d 1)))) := by
  refine CSF.of_body T.en106 Tryz.func106 rfl (by simp [Tryz.ntmps106]) (by simp [go_sem]) fun hwf => ?_
  refine awp_reg_seq fun K hK => ?_
  simp [go_sem, Tryz.ntmps106]
  repeat refine ⟨by omega, ?_⟩
  refine hK _ ?_; clear hK K
  refine awp_reg_seq fun K hK => ?_
  simp [go_sem]
  repeat refine ⟨by omega, ?_⟩
  refine CSk.mk (policy_subject_cs _ _ _ (by first | assumption | exact loc_app (by assumption) | omega | simp_all)) ?_
  simp [go_sem]
  repeat refine ⟨by omega, ?_⟩
  refine hK _ ?_; clear hK K
  refine awp_reg_seq fun K hK => ?_
  simp [go_sem]
  repeat refine ⟨by omega, ?_⟩
  refine CSk.mk (person_Grounds_cs _ none p.np p.gp none (subjR p r.Unit).1.np (subjR p r.Unit).1.ps (subjR p r.Unit).1.Made p.Years d (by have := hp.np; omega) (by have := subj_np hp r.Unit; omega) hp.nn (loc_app hσ)) ?_
  simp [go_sem]
  repeat refine ⟨by omega, ?_⟩
  refine hK _ ?_; clear hK K
  refine awp_reg_seq fun K hK => ?_
  simp [go_sem]
  repeat refine ⟨by omega, ?_⟩
  refine hK _ ?_; clear hK K
  refine awp_ret ?_
  simp [go_sem, Tryz.results106, clsG] <;> omega
theorem policy_sources_4_cs (σ : List Blk) (p : Pol) (r : Row) (d : Int) (hp : PolOk p) (hσ : σ[0]? = some (.loc 0)) : CSF Tryz.prog 108 [.agg (p.enc.map .d), .agg (r.enc.map .d), .d (I d)] σ (.tup [.d (I (opnS p r d 1).1), .d (I (opnS p r d 1).2)]) := by
  have hlen := clsG_len hp r d 1
  have hcl : clsG p r d 1 = (prsGr p.np p.gp (subjR p r.Unit).1.np (subjR p r.Unit).1.ps (subjR p r.Unit).1.Made p.Years d).1 := rfl
  rw [hcl] at hlen
  refine CSF.of_body T.en108 Tryz.func108 rfl (by simp [Tryz.ntmps108]) (by simp [go_sem]) fun hwf => ?_
  refine awp_reg_seq fun K hK => ?_
  simp [go_sem, Tryz.ntmps108]
  repeat refine ⟨by omega, ?_⟩
  refine hK _ ?_; clear hK K
  refine awp_reg_seq fun K hK => ?_
  simp [go_sem]
  repeat refine ⟨by omega, ?_⟩
  refine CSk.mk (policy_subject_cs _ _ _ (by first | assumption | exact loc_app (by assumption) | omega | simp_all)) ?_
  simp [go_sem]
  repeat refine ⟨by omega, ?_⟩
  refine hK _ ?_; clear hK K
  refine awp_reg_seq fun K hK => ?_
  simp [go_sem]
  repeat refine ⟨by omega, ?_⟩
  refine CSk.mk (person_Grounds_cs _ none p.np p.gp none (subjR p r.Unit).1.np (subjR p r.Unit).1.ps (subjR p r.Unit).1.Made p.Years d (by have := hp.np; omega) (by have := subj_np hp r.Unit; omega) hp.nn (loc_app hσ)) ?_
  simp [go_sem]
  repeat refine ⟨by omega, ?_⟩
  refine hK _ ?_; clear hK K
  refine awp_seq ?_
  refine awp_reg_seq fun K hK => ?_
  simp [go_sem]
  repeat refine ⟨by omega, ?_⟩
  refine hK _ ?_; clear hK K
  refine awp_block ?_
  refine awp_forget [2, 34, 35, 36] (by simp [go_sem, restr]; rfl) ?_
  refine awp_loopU (α := Nat) (fun q => [(2, .d (I (maxU d (prsGr p.np p.gp (subjR p r.Unit).1.np (subjR p r.Unit).1.ps (subjR p r.Unit).1.Made p.Years d).1 q))), (36, .d (I q))]) (fun q => _) (fun q => q ≤ (prsGr p.np p.gp (subjR p r.Unit).1.np (subjR p r.Unit).1.ps (subjR p r.Unit).1.Made p.Years d).1.length) (fun q => (prsGr p.np p.gp (subjR p r.Unit).1.np (subjR p r.Unit).1.ps (subjR p r.Unit).1.Made p.Years d).1.length - q) 0 (by simp [go_sem, maxU]) rfl (by simp) ?_
  rintro q hq
  refine awp_reg_seq fun K hK => ?_
  simp [go_sem, maxU]
  repeat refine ⟨by omega, ?_⟩
  refine hK _ ?_; clear hK K
  refine awp_seq ?_
  refine awp_forget [2, 34, 35, 36, 37] (by simp only [restr, List.contains_cons, List.contains_nil, Nat.reduceBEq, Bool.or_false, Bool.or_true, Bool.true_or, Bool.false_or, if_true, if_false, Bool.false_eq_true]; rfl) ?_
  refine awp_cond rfl (fun c0 => ?_) (fun c0 => ?_)
  · have d0 := c0; try simp at d0
    refine awp_skip ?_
    refine awp_seq ?_
    refine awp_block ?_
    refine awp_reg_seq fun K hK => ?_
    simp [go_sem, maxU, c0, d0]
    repeat refine ⟨by omega, ?_⟩
    refine hK _ ?_; clear hK K
    refine awp_reg_end fun K hK => ?_
    simp [go_sem, maxU, c0, d0]
    repeat refine ⟨by omega, ?_⟩
    refine hK _ ?_; clear hK K
    refine awp_reg_end fun K hK => ?_
    simp [go_sem, maxU, c0, d0]
    try simp (disch := omega) only [wrapI]
    repeat refine ⟨by omega, ?_⟩
    refine hK _ ?_; clear hK K
    refine ⟨q + 1, back_of' (by simp) (.refl _) (by (simp [go_sem, wrap_succ (i := q) (by omega), maxU, c0, d0] <;> omega)), by omega, by first | omega | (dsimp only; omega)⟩
  · have d0 := c0; try simp at d0
    have hqn : q = (prsGr p.np p.gp (subjR p r.Unit).1.np (subjR p r.Unit).1.ps (subjR p r.Unit).1.Made p.Years d).1.length := by omega
    refine awp_exit ?_
    refine awp_seq ?_
    refine awp_reg_seq fun K hK => ?_
    simp [go_sem, maxU, c0, d0]
    repeat refine ⟨by omega, ?_⟩
    refine hK _ ?_; clear hK K
    refine awp_forget [2, 46] (by simp only [restr, List.contains_cons, List.contains_nil, Nat.reduceBEq, Bool.or_false, Bool.or_true, Bool.true_or, Bool.false_or, if_true, if_false, Bool.false_eq_true]; rfl) ?_
    refine awp_cond rfl (fun c1 => ?_) (fun c1 => ?_)
    · have d1 := c1; try simp at d1
      have hz : opnS p r d 1 = (0, 23) := by rw [opnS_1, hcl, ← hqn, if_pos d1]
      refine awp_reg_seq fun K hK => ?_
      simp [go_sem, maxU, c0, d0, c1, d1]
      repeat refine ⟨by omega, ?_⟩
      refine hK _ ?_; clear hK K
      refine awp_ret ?_
      rw [hz]; simp [go_sem, Tryz.results108]
    · have d1 := c1; try simp at d1
      have hz : opnS p r d 1 = (maxU d (prsGr p.np p.gp (subjR p r.Unit).1.np (subjR p r.Unit).1.ps (subjR p r.Unit).1.Made p.Years d).1 q, 0) := by rw [opnS_1, hcl, ← hqn, if_neg d1]
      refine awp_skip ?_
      refine awp_reg_seq fun K hK => ?_
      simp [go_sem, maxU, c0, d0, c1, d1]
      repeat refine ⟨by omega, ?_⟩
      refine hK _ ?_; clear hK K
      refine awp_ret ?_
      rw [hz]; simp [go_sem, Tryz.results108]
theorem policy_sources_5_cs (σ : List Blk) (p : Pol) (r : Row) (d : Int) (hp : PolOk p) : CSF Tryz.prog 109 [.agg (p.enc.map .d), .agg (r.enc.map .d), .d (I d)] σ (.d (SL none 4 Ground.enc (clsG p r d 2).length (nth (clsG p r d 2)))) := by
  refine CSF.of_body T.en109 Tryz.func109 rfl (by simp [Tryz.ntmps109]) (by simp [go_sem]) fun hwf => ?_
  refine awp_reg_seq fun K hK => ?_
  simp [go_sem, Tryz.ntmps109]
  repeat refine ⟨by omega, ?_⟩
  refine hK _ ?_; clear hK K
  refine awp_seq ?_
  refine awp_reg_seq fun K hK => ?_
  simp [go_sem]
  repeat refine ⟨by omega, ?_⟩
  refine hK _ ?_; clear hK K
  refine awp_forget [2, 3, 4, 9] (by simp only [restr, List.contains_cons, List.contains_nil, Nat.reduceBEq, Bool.or_false, Bool.or_true, Bool.true_or, Bool.false_or, if_true, if_false, Bool.false_eq_true]; rfl) ?_
  refine awp_cond rfl (fun c0 => ?_) (fun c0 => ?_)
  · have d0 := c0; try simp at d0
    have hz : clsG p r d 2 = [] := by rw [clsG_2, if_pos d0]
    refine awp_reg_seq fun K hK => ?_
    simp [go_sem, c0, d0]
    repeat refine ⟨by omega, ?_⟩
    refine hK _ ?_; clear hK K
    refine awp_ret ?_
    rw [hz]; simp [go_sem, Tryz.results109]
  · have d0 := c0; try simp at d0
    have hz : clsG p r d 2 = agrGr p.na p.ga r.Accession d := by rw [clsG_2, if_neg d0]
    refine awp_skip ?_
    refine awp_reg_seq fun K hK => ?_
    simp [go_sem, c0, d0]
    repeat refine ⟨by omega, ?_⟩
    refine CSk.mk (agreement_Grounds_cs _ none p.na p.ga r.Accession d (by have := hp.na; omega)) ?_
    simp [go_sem, c0, d0]
    repeat refine ⟨by omega, ?_⟩
    refine hK _ ?_; clear hK K
    refine awp_ret ?_
    rw [hz]; simp [go_sem, Tryz.results109]
theorem policy_sources_6_cs (σ : List Blk) (p : Pol) (r : Row) (d : Int) (hp : PolOk p) : CSF Tryz.prog 111 [.agg (p.enc.map .d), .agg (r.enc.map .d), .d (I d)] σ (.tup [.d (I (opnS p r d 2).1), .d (I (opnS p r d 2).2)]) := by
  refine CSF.of_body T.en111 Tryz.func111 rfl (by simp [Tryz.ntmps111]) (by simp [go_sem]) fun hwf => ?_
  refine awp_reg_seq fun K hK => ?_
  simp [go_sem, Tryz.ntmps111]
  repeat refine ⟨by omega, ?_⟩
  refine hK _ ?_; clear hK K
  refine awp_seq ?_
  refine awp_reg_seq fun K hK => ?_
  simp [go_sem]
  repeat refine ⟨by omega, ?_⟩
  refine hK _ ?_; clear hK K
  refine awp_forget [2, 3, 4, 10] (by simp only [restr, List.contains_cons, List.contains_nil, Nat.reduceBEq, Bool.or_false, Bool.or_true, Bool.true_or, Bool.false_or, if_true, if_false, Bool.false_eq_true]; rfl) ?_
  refine awp_cond rfl (fun c0 => ?_) (fun c0 => ?_)
  · have d0 := c0; try simp at d0
    have hz : opnS p r d 2 = (d, 0) := by rw [opnS_2, if_pos d0]
    refine awp_reg_seq fun K hK => ?_
    simp [go_sem, c0, d0]
    repeat refine ⟨by omega, ?_⟩
    refine hK _ ?_; clear hK K
    refine awp_ret ?_
    rw [hz]; simp [go_sem, Tryz.results111]
  · have d0 := c0; try simp at d0
    have hz : opnS p r d 2 = agrOp p.na p.ga r.Accession d := by rw [opnS_2, if_neg d0]
    refine awp_skip ?_
    refine awp_reg_seq fun K hK => ?_
    simp [go_sem, c0, d0]
    repeat refine ⟨by omega, ?_⟩
    refine CSk.mk (agreement_Opens_cs _ none p.na p.ga r.Accession d (by have := hp.na; omega)) ?_
    simp [go_sem, c0, d0]
    repeat refine ⟨by omega, ?_⟩
    refine hK _ ?_; clear hK K
    refine awp_ret ?_
    rw [hz]; simp [go_sem, Tryz.results111]
end Go.Proofs.YtkochmppmpmddaaGreat

/-! De -/
namespace Go.Proofs.YtkochmppmpmddaaGreat
open Go.Abs Go.Arch
set_option linter.unusedVariables false
set_option linter.unusedSimpArgs false
set_option maxRecDepth 100000
set_option maxHeartbeats 400000
theorem rows_1 {n : Nat} {g : Nat → Row} (h0 : ¬ 256 < n) {e : Int} (h : firstE (rowE g) 0 n = e) (he : e ≠ 0) : rowsChk n g = e := by
  unfold rowsChk; rw [if_neg h0, h, if_pos he]
theorem rows_2 {n : Nat} {g : Nat → Row} (h0 : ¬ 256 < n) (h1 : firstE (rowE g) 0 n = 0) {e : Int} (h : firstE (parE n g) 0 n = e) (he : e ≠ 0) : rowsChk n g = e := by
  unfold rowsChk; rw [if_neg h0, if_neg (by simp [h1]), h, if_pos he]
theorem rows_3 {n : Nat} {g : Nat → Row} (h0 : ¬ 256 < n) (h1 : firstE (rowE g) 0 n = 0) (h2 : firstE (parE n g) 0 n = 0) {i : Nat} (hi : i < n) (hc : Cyc n g i) : rowsChk n g = 17 := by
  unfold rowsChk; rw [if_neg h0, if_neg (by simp [h1]), if_neg (by simp [h2]), if_pos ⟨i, hi, hc⟩]
theorem rows_4 {n : Nat} {g : Nat → Row} (h0 : ¬ 256 < n) (h1 : firstE (rowE g) 0 n = 0) (h2 : firstE (parE n g) 0 n = 0) (hc : ∀ i, i < n → ¬Cyc n g i) : rowsChk n g = 0 := by
  unfold rowsChk; rw [if_neg h0, if_neg (by simp [h1]), if_neg (by simp [h2]), if_neg (by rintro ⟨i, hi, h⟩; exact hc i hi h)]
theorem not_cyc {n : Nat} {g : Nat → Row} (hg : Good n g) {i : Nat} (hi : i < n) (h : ¬Cyc n g i) : ∃ K, K < n ∧ (g (chainX n g i K)).Parent = 0 ∧ ∀ q, q < K → (g (chainX n g i q)).Parent ≠ 0 := by
  apply Classical.byContradiction
  intro hn
  refine h fun k hk he => ?_
  obtain ⟨K, h4, _, h5, h6⟩ := hg.ends hi he
  exact hn ⟨K, h4, h5, h6⟩
theorem policy_Rows_cs (σ : List Blk) (c : Option Nat) (n : Nat) (g : Nat → Row) (hn : n < 1000000000) : CSF Tryz.prog 16 [.d (SL c 3 Row.enc n g)] σ (.d (I (rowsChk n g))) := by
  refine CSF.of_body T.en16 Tryz.func16 rfl (by simp [Tryz.ntmps16]) (by simp [go_sem]) fun hwf => ?_
  refine awp_reg_seq fun K hK => ?_
  simp [go_sem, Tryz.ntmps16]
  repeat refine ⟨by omega, ?_⟩
  refine hK _ ?_; clear hK K
  refine awp_seq ?_
  refine awp_reg_seq fun K hK => ?_
  simp [go_sem]
  repeat refine ⟨by omega, ?_⟩
  refine hK _ ?_; clear hK K
  refine awp_forget [1, 2, 12] (by simp only [restr, List.contains_cons, List.contains_nil, Nat.reduceBEq, Bool.or_false, Bool.or_true, Bool.true_or, Bool.false_or, if_true, if_false, Bool.false_eq_true]; rfl) ?_
  refine awp_cond rfl (fun c0 => ?_) (fun c0 => ?_)
  · have d0 := c0; try simp at d0
    have hz : rowsChk n g = 8 := by unfold rowsChk; rw [if_pos (by omega)]
    refine awp_reg_seq fun K hK => ?_
    simp [go_sem, c0, d0]
    repeat refine ⟨by omega, ?_⟩
    refine hK _ ?_; clear hK K
    refine awp_ret ?_
    rw [hz]; simp [go_sem, Tryz.results16]
  · have d0 := c0; try simp at d0
    have hle : ¬ 256 < n := by omega
    refine awp_skip ?_
    refine awp_seq ?_
    refine awp_reg_seq fun K hK => ?_
    simp [go_sem, c0, d0]
    repeat refine ⟨by omega, ?_⟩
    refine hK _ ?_; clear hK K
    refine awp_block ?_
    refine awp_forget [1, 2, 13, 14, 15] (by simp [go_sem, restr]; rfl) ?_
    refine awp_loopU (α := Nat) (fun i => [(15, .d (I i))]) (fun i => σ ++ [.var [.d (SL c 3 Row.enc n g)], .var [.d (I 0)]]) (fun i => i ≤ n ∧ firstE (rowE g) 0 n = firstE (rowE g) i (n - i)) (fun i => n - i) 0 (by simp [go_sem]) rfl (by simp) ?_
    rintro i ⟨hi, hx⟩
    refine awp_reg_seq fun K hK => ?_
    simp [go_sem, c0, d0, hi, wrap_pred (i := i) (by omega)]
    repeat refine ⟨by omega, ?_⟩
    refine hK _ ?_; clear hK K
    refine awp_seq ?_
    refine awp_forget [1, 2, 13, 14, 15, 16] (by simp only [restr, List.contains_cons, List.contains_nil, Nat.reduceBEq, Bool.or_false, Bool.or_true, Bool.true_or, Bool.false_or, if_true, if_false, Bool.false_eq_true]; rfl) ?_
    refine awp_cond rfl (fun c1 => ?_) (fun c1 => ?_)
    · have d1 := c1; try simp at d1
      obtain ⟨k, hk⟩ : ∃ k, n - i = k + 1 := ⟨n - i - 1, by omega⟩
      have hk' : n - (i + 1) = k := by omega
      rw [hk, firstE] at hx
      refine awp_skip ?_
      refine awp_seq ?_
      refine awp_block ?_
      refine awp_reg_seq fun K hK => ?_
      simp [go_sem, c0, d0, hi, wrap_pred (i := i) (by omega), c1, d1]
      repeat refine ⟨by omega, ?_⟩
      refine hK _ ?_; clear hK K
      refine awp_block ?_
      refine awp_reg_seq fun K hK => ?_
      simp [go_sem, c0, d0, hi, wrap_pred (i := i) (by omega), c1, d1]
      repeat refine ⟨by omega, ?_⟩
      refine CSk.mk (policy_id_cs _ (g i).Unit) ?_
      simp [go_sem, c0, d0, hi, wrap_pred (i := i) (by omega), c1, d1]
      repeat refine ⟨by omega, ?_⟩
      refine hK _ ?_; clear hK K
      refine awp_forget [1, 2, 3, 4, 13, 14, 15, 20] (by simp only [restr, List.contains_cons, List.contains_nil, Nat.reduceBEq, Bool.or_false, Bool.or_true, Bool.true_or, Bool.false_or, if_true, if_false, Bool.false_eq_true]; rfl) ?_
      refine awp_cond rfl (fun c2 => ?_) (fun c2 => ?_)
      · have d2 := c2; try simp at d2
        have hrk : rowOk (g i) = false := by
          cases h : rowOk (g i) with
          | false => rfl
          | true =>
            exfalso
            simp [rowOk] at h
            rcases d2 with (((d2 | d2) | d2) | d2) | d2
            · rw [h.1.1.1.1] at d2; cases d2
            all_goals omega
        have he : rowE g i = 2 := by unfold rowE; rw [if_pos hrk]
        rw [he] at hx; simp at hx
        have hz := rows_1 hle hx (by decide)
        refine awp_reg_seq fun K hK => ?_
        simp [go_sem, c0, d0, hi, wrap_pred (i := i) (by omega), c1, d1, c2, d2]
        repeat refine ⟨by omega, ?_⟩
        refine hK _ ?_; clear hK K
        refine awp_ret ?_
        rw [hz]; simp [go_sem, Tryz.results16]
      · have d2 := c2; try simp at d2
        have hrk : rowOk (g i) = true := by simpa [rowOk] using d2
        refine awp_draw_seq 14 T.mixed (by kernel_rfl) fun K hK => ?_
        simp [go_sem, c0, d0, hi, wrap_pred (i := i) (by omega), c1, d1, c2, d2]
        try simp (disch := omega) only [wrapI]
        repeat refine ⟨by omega, ?_⟩
        refine hK _ ?_; clear hK K
        refine awp_forget [1, 2, 13, 14, 15, 45] (by simp only [restr, List.contains_cons, List.contains_nil, Nat.reduceBEq, Bool.or_false, Bool.or_true, Bool.true_or, Bool.false_or, if_true, if_false, Bool.false_eq_true]; rfl) ?_
        refine awp_cond rfl (fun c3 => ?_) (fun c3 => ?_)
        · have d3 := c3; try simp at d3
          have he : rowE g i = 5 := by unfold rowE; rw [if_neg (by simp [hrk]), if_pos d3]
          rw [he] at hx; simp at hx
          have hz := rows_1 hle hx (by decide)
          refine awp_reg_seq fun K hK => ?_
          simp [go_sem, c0, d0, hi, wrap_pred (i := i) (by omega), c1, d1, c2, d2, c3, d3]
          repeat refine ⟨by omega, ?_⟩
          refine hK _ ?_; clear hK K
          refine awp_ret ?_
          rw [hz]; simp [go_sem, Tryz.results16]
        · have d3 := c3; try simp at d3
          have he : rowE g i = 0 := by unfold rowE; rw [if_neg (by simp [hrk]), if_neg (by rintro ⟨h1, h2⟩; have := d3 h1; omega)]
          rw [he] at hx; simp at hx
          refine awp_skip ?_
          refine awp_reg_end fun K hK => ?_
          simp [go_sem, c0, d0, hi, wrap_pred (i := i) (by omega), c1, d1, c2, d2, c3, d3]
          try simp (disch := omega) only [wrapI]
          repeat refine ⟨by omega, ?_⟩
          refine hK _ ?_; clear hK K
          refine ⟨i + 1, back_of' (by simp [go_sem, wrap_succ (i := i) (by omega), c0, d0, hi, wrap_pred (i := i) (by omega), c1, d1, c2, d2, c3, d3]) (.refl _) (by (simp [go_sem, wrap_succ (i := i) (by omega), c0, d0, hi, wrap_pred (i := i) (by omega), c1, d1, c2, d2, c3, d3] <;> omega)), ⟨by omega, by rw [hx, hk']⟩, by first | omega | (dsimp only; omega)⟩
    · have d1 := c1; try simp at d1
      have hin : i = n := by omega
      rw [hin, Nat.sub_self, firstE] at hx
      refine awp_exit ?_
      refine awp_seq ?_
      refine awp_reg_seq fun K hK => ?_
      simp [go_sem, c0, d0, hi, wrap_pred (i := i) (by omega), c1, d1]
      repeat refine ⟨by omega, ?_⟩
      refine hK _ ?_; clear hK K
      refine awp_block ?_
      refine awp_forget [1, 2, 60, 61, 62] (by simp [go_sem, restr]; rfl) ?_
      refine awp_loopU (α := Nat) (fun q => [(62, .d (I q))]) (fun q => σ ++ [.var [.d (SL c 3 Row.enc n g)], .var [.d (I 0)]]) (fun q => q ≤ n ∧ firstE (parE n g) 0 n = firstE (parE n g) q (n - q)) (fun q => n - q) 0 (by simp [go_sem]) rfl (by simp) ?_
      rintro q ⟨hq, hy⟩
      refine awp_reg_seq fun K hK => ?_
      simp [go_sem, c0, d0, hi, wrap_pred (i := i) (by omega), c1, d1]
      repeat refine ⟨by omega, ?_⟩
      refine hK _ ?_; clear hK K
      refine awp_seq ?_
      refine awp_forget [1, 2, 60, 61, 62, 63] (by simp only [restr, List.contains_cons, List.contains_nil, Nat.reduceBEq, Bool.or_false, Bool.or_true, Bool.true_or, Bool.false_or, if_true, if_false, Bool.false_eq_true]; rfl) ?_
      refine awp_cond rfl (fun c4 => ?_) (fun c4 => ?_)
      · have d4 := c4; try simp at d4
        obtain ⟨j, hj⟩ : ∃ j, n - q = j + 1 := ⟨n - q - 1, by omega⟩
        have hj' : n - (q + 1) = j := by omega
        rw [hj, firstE] at hy
        refine awp_skip ?_
        refine awp_seq ?_
        refine awp_block ?_
        refine awp_reg_seq fun K hK => ?_
        simp [go_sem, c0, d0, hi, wrap_pred (i := i) (by omega), c1, d1, c4, d4]
        repeat refine ⟨by omega, ?_⟩
        refine hK _ ?_; clear hK K
        refine awp_reg_seq fun K hK => ?_
        simp [go_sem, c0, d0, hi, wrap_pred (i := i) (by omega), c1, d1, c4, d4]
        repeat refine ⟨by omega, ?_⟩
        refine CSm.mk (policy_find_cs _ c n g (g q).Parent hn) ?_
        simp [go_sem, c0, d0, hi, wrap_pred (i := i) (by omega), c1, d1, c4, d4]
        repeat refine ⟨by omega, ?_⟩
        refine hK _ ?_; clear hK K
        refine awp_forget [1, 2, 60, 61, 62, 75] (by simp only [restr, List.contains_cons, List.contains_nil, Nat.reduceBEq, Bool.or_false, Bool.or_true, Bool.true_or, Bool.false_or, if_true, if_false, Bool.false_eq_true]; rfl) ?_
        refine awp_cond rfl (fun c5 => ?_) (fun c5 => ?_)
        · have d5 := c5; try simp at d5
          have he : parE n g q = 7 := by unfold parE; rw [if_pos d5]
          rw [he] at hy; simp at hy
          have hz := rows_2 hle hx hy (by decide)
          refine awp_reg_seq fun K hK => ?_
          simp [go_sem, c0, d0, hi, wrap_pred (i := i) (by omega), c1, d1, c4, d4, c5, d5]
          repeat refine ⟨by omega, ?_⟩
          refine hK _ ?_; clear hK K
          refine awp_ret ?_
          rw [hz]; simp [go_sem, Tryz.results16]
        · have d5 := c5; try simp at d5
          have he : parE n g q = 0 := by unfold parE; rw [if_neg (by rintro ⟨h1, h2⟩; have := d5 h1; omega)]
          rw [he] at hy; simp at hy
          refine awp_skip ?_
          refine awp_reg_end fun K hK => ?_
          simp [go_sem, c0, d0, hi, wrap_pred (i := i) (by omega), c1, d1, c4, d4, c5, d5]
          try simp (disch := omega) only [wrapI]
          repeat refine ⟨by omega, ?_⟩
          refine hK _ ?_; clear hK K
          refine ⟨q + 1, back_of' (by simp [go_sem, wrap_succ (i := q) (by omega), c0, d0, hi, wrap_pred (i := i) (by omega), c1, d1, c4, d4, c5, d5]) (.refl _) (by (simp [go_sem, wrap_succ (i := q) (by omega), c0, d0, hi, wrap_pred (i := i) (by omega), c1, d1, c4, d4, c5, d5] <;> omega)), ⟨by omega, by rw [hy, hj']⟩, by first | omega | (dsimp only; omega)⟩
      · have d4 := c4; try simp at d4
        have hqn : q = n := by omega
        rw [hqn, Nat.sub_self, firstE] at hy
        have hg := good_of (by omega) hx hy
        refine awp_exit ?_
        refine awp_seq ?_
        refine awp_reg_seq fun K hK => ?_
        simp [go_sem, c0, d0, hi, wrap_pred (i := i) (by omega), c1, d1, c4, d4]
        repeat refine ⟨by omega, ?_⟩
        refine hK _ ?_; clear hK K
        refine awp_block ?_
        refine awp_forget [1, 2, 77, 78, 79] (by simp [go_sem, restr]; rfl) ?_
        refine awp_mv [σ.length + 50] (by simp) ?_
        refine awp_loopU (α := Nat) (fun r => [(79, .d (I r))]) (fun r => σ ++ [.var [.d (SL c 3 Row.enc n g)], .var [.d (I 0)]]) (fun r => r ≤ n ∧ ∀ z, z < r → ¬Cyc n g z) (fun r => n - r) 0 (by simp [go_sem]) rfl (by simp) ?_
        rintro r ⟨hr, hc⟩
        refine awp_reg_seq fun K hK => ?_
        simp [go_sem, c0, d0, hi, wrap_pred (i := i) (by omega), c1, d1, c4, d4]
        repeat refine ⟨by omega, ?_⟩
        refine hK _ ?_; clear hK K
        refine awp_seq ?_
        refine awp_forget [1, 2, 77, 78, 79, 80] (by simp only [restr, List.contains_cons, List.contains_nil, Nat.reduceBEq, Bool.or_false, Bool.or_true, Bool.true_or, Bool.false_or, if_true, if_false, Bool.false_eq_true]; rfl) ?_
        refine awp_cond rfl (fun c6 => ?_) (fun c6 => ?_)
        · have d6 := c6; try simp at d6
          refine awp_skip ?_
          refine awp_seq ?_
          refine awp_block ?_
          refine awp_reg_seq fun K hK => ?_
          simp [go_sem, c0, d0, hi, wrap_pred (i := i) (by omega), c1, d1, c4, d4, c6, d6]
          repeat refine ⟨by omega, ?_⟩
          refine hK _ ?_; clear hK K
          refine awp_reg_seq fun K hK => ?_
          simp [go_sem, c0, d0, hi, wrap_pred (i := i) (by omega), c1, d1, c4, d4, c6, d6]
          repeat refine ⟨by omega, ?_⟩
          refine hK _ ?_; clear hK K
          refine awp_reg_seq fun K hK => ?_
          simp [go_sem, c0, d0, hi, wrap_pred (i := i) (by omega), c1, d1, c4, d4, c6, d6]
          repeat refine ⟨by omega, ?_⟩
          have hcl := policy_above_cs (σ ++ [.var [.d (SL c 3 Row.enc n g)], .var [.d (I 0)], .var ((g r).enc.map .d), .var [.d (I 0)]]) c n g (g r).Unit; simp only [List.append_assoc, List.cons_append, List.nil_append, List.length_append, List.length_cons, List.length_nil, Nat.zero_add, Nat.reduceAdd] at hcl; refine CSk.gen hcl ?_; rintro r' σ' X ⟨rfl, rfl, rfl⟩
          simp [go_sem, c0, d0, hi, wrap_pred (i := i) (by omega), c1, d1, c4, d4, c6, d6]
          repeat refine ⟨by omega, ?_⟩
          refine hK _ ?_; clear hK K
          refine awp_block ?_
          by_cases hcy : Cyc n g r
          · refine awp_rangeL rfl [(1, .ptr σ.length 0), (2, .ptr (σ.length + 1) 0), (9, .ptr (σ.length + 3) 0)] (by simp [go_sem]) ?_
            intro La hLa
            have hLu : ∀ k av, (k, av) ∈ La.t → av.under (σ.length + 7) := by
              rw [hLa]
              intro k av hm
              simp at hm
              rcases hm with ⟨_, rfl⟩ | ⟨_, rfl⟩ | ⟨_, rfl⟩ <;> simp [AV.under] <;> omega
            have hround : ∀ k, k ≤ n → YS Tryz.prog (σ.length + 6) [.agg ((g (chainX n g r k)).enc.map .d)] (σ ++ [.var [.d (SL c 3 Row.enc n g)], .var [.d (I 0)], .var ((g r).enc.map .d), .var [.d (I k)], .var [.d (SL c 3 Row.enc n g)], .var [.d (I (g r).Unit)], .lp La .ready none]) (fun r' σ' X => X = [σ.length + 50] ∧ (r' = .d (B (decide (k < n))) ∧ σ' = σ ++ [.var [.d (SL c 3 Row.enc n g)], .var [.d (I (if k = n then 17 else 0))], .var ((g r).enc.map .d), .var [.d (I (k + 1 : Nat))], .var [.d (SL c 3 Row.enc n g)], .var [.d (I (g r).Unit)], .lp La (if k = n then .done else .ready) (if k = n then some .ret else none)])) := by
              intro k hk
              refine YS.of_awp (L := La) (pd := none) (by simp [go_sem]) (by rw [hLa]; rfl) ?_
              intro hwf'
              have eN := congrArg LoopA.N hLa
              have et := congrArg LoopA.t hLa
              have ep := congrArg LoopA.ps hLa
              have ea := congrArg LoopA.assign hLa
              have eb := congrArg LoopA.body hLa
              dsimp only at eN et ep ea eb
              rw [eN, et, ep, ea, eb]
              clear eN et ep ea eb hLa hcl
              refine awp_skip ?_
              simp [begunQ, go_sem, mvNot, St.putL]
              refine awp_post ?_
              refine awp_block ?_
              refine awp_reg_seq fun K hK => ?_
              simp [go_sem, c0, d0, hi, wrap_pred (i := i) (by omega), c1, d1, c4, d4, c6, d6, wrap_succ (i := k) (by omega)]
              try simp (disch := omega) only [wrapI]
              repeat refine ⟨by omega, ?_⟩
              refine hK _ ?_; clear hK K
              refine awp_reg_seq fun K hK => ?_
              simp [go_sem, c0, d0, hi, wrap_pred (i := i) (by omega), c1, d1, c4, d4, c6, d6, wrap_succ (i := k) (by omega)]
              repeat refine ⟨by omega, ?_⟩
              refine hK _ ?_; clear hK K
              refine awp_forget [2, 93] (by simp only [restr, List.contains_cons, List.contains_nil, Nat.reduceBEq, Bool.or_false, Bool.or_true, Bool.true_or, Bool.false_or, if_true, if_false, Bool.false_eq_true]; rfl) ?_
              refine awp_cond rfl (fun c7 => ?_) (fun c7 => ?_)
              · have d7 := c7; try simp at d7
                refine awp_reg_seq fun K hK => ?_
                simp [go_sem, c0, d0, hi, wrap_pred (i := i) (by omega), c1, d1, c4, d4, c6, d6, wrap_succ (i := k) (by omega), c7, d7]
                repeat refine ⟨by omega, ?_⟩
                refine hK _ ?_; clear hK K
                refine awp_ret ?_
                obtain rfl : k = n := by omega
                refine ⟨_, Sub.refl _, ?_⟩
                simp [go_sem, roundQ, jumpOf, mvNot, mvIn]
                exact leaves_app (by simp [go_sem, leavesL_refl]; exact hLu)
              · have d7 := c7; try simp at d7
                refine awp_skip ?_
                have hkn : k < n := by omega
                have hkn' : ¬ k = n := by omega
                refine ⟨_, Sub.refl _, ?_⟩
                simp [go_sem, roundQ, jumpOf, mvNot, mvIn, hkn, hkn']
                exact leaves_app (by simp [go_sem, leavesL_refl])
            have hR : Ways (fun i => σ ++ [.var [.d (SL c 3 Row.enc n g)], .var [.d (I (if i = n + 1 then 17 else 0))], .var ((g r).enc.map .d), .var [.d (I i)], .var [.d (SL c 3 Row.enc n g)], .var [.d (I (g r).Unit)], .lp La (if i = n + 1 then .done else .ready) (if i = n + 1 then some .ret else none)]) c n g (g r).Unit (n + 1) (chainX n g r) false (σ.length + 6) (σ.length + 4) (σ.length + 5) (σ.length + 50) := by
              refine ⟨fun i => by simp [go_sem], fun i => by simp [go_sem], fun i => by simp [go_sem], fun i => by simp [go_sem], fun i => leaves_app (by simp [go_sem]; right; exact hLu), fun i => leaves_app (by simp [go_sem]; right; exact hLu), fun i => by simp, by omega, by omega, by omega, by rw [if_neg (by omega)]; exact hg.find d6, fun i hi => hg.chain_lt d6 i (fun q hq => hcy q (by omega)), fun i hi => ⟨hcy i (by omega), (hg.chain_next d6 (fun q hq => hcy q (by omega))).1⟩, fun i hi => ?_, fun i hi => ?_, fun i hi h => by cases h⟩
              · simpa [show ¬ i = n by omega, show i < n by omega, show ¬ i = n + 1 by omega] using hround i (by omega)
              · obtain rfl : i = n := by omega
                simpa using hround i (by omega)
            have h3 := policy_above_1_cs σ _ c n g (g r).Unit (n + 1) _ false _ _ _ _ hR hn
            refine CS.mono (Q := fun r' σ' X' => X' = [σ.length + 50] ∧ r' = .tup [] ∧ σ' = _) (by simpa [go_sem] using h3) ?_
            rintro r' σ' X ⟨rfl, rfl, rfl⟩
            clear h3 hR hround hLa hcl
            refine ⟨σ ++ [.var [.d (SL c 3 Row.enc n g)], .var [.d (I 17)], .var ((g r).enc.map .d), .var [.d (I (n + 1 : Nat))], .var [.d (SL c 3 Row.enc n g)], .var [.d (I (g r).Unit)]], La, .done, some .ret, by simp [go_sem], leaves_app (by simp [go_sem]), by simp, by simp [mvNot], ?_⟩
            have hz := rows_3 hle hx hy d6 hcy
            simp [jumpQ, go_sem, scrub', AV.avoids, avoidsL, Tryz.results16, hz]
          · obtain ⟨Kx, hK1, hK2, hK3⟩ := not_cyc hg d6 hcy
            refine awp_rangeL rfl [(1, .ptr σ.length 0), (2, .ptr (σ.length + 1) 0), (9, .ptr (σ.length + 3) 0), (77, .d (SL c 3 Row.enc n g)), (78, .d (.v (.int .i64 n))), (79, .d (I r))] (by simp [go_sem]) ?_
            intro La hLa
            have hround : ∀ k, k + 1 ≤ n → YS Tryz.prog (σ.length + 6) [.agg ((g (chainX n g r k)).enc.map .d)] (σ ++ [.var [.d (SL c 3 Row.enc n g)], .var [.d (I 0)], .var ((g r).enc.map .d), .var [.d (I k)], .var [.d (SL c 3 Row.enc n g)], .var [.d (I (g r).Unit)], .lp La .ready none]) (fun r' σ' X => X = [σ.length + 50] ∧ (r' = .d (B true) ∧ σ' = σ ++ [.var [.d (SL c 3 Row.enc n g)], .var [.d (I 0)], .var ((g r).enc.map .d), .var [.d (I (k + 1 : Nat))], .var [.d (SL c 3 Row.enc n g)], .var [.d (I (g r).Unit)], .lp La .ready none])) := by
              intro k hk
              refine YS.of_awp (L := La) (pd := none) (by simp [go_sem]) (by rw [hLa]; rfl) ?_
              intro hwf'
              have eN := congrArg LoopA.N hLa
              have et := congrArg LoopA.t hLa
              have ep := congrArg LoopA.ps hLa
              have ea := congrArg LoopA.assign hLa
              have eb := congrArg LoopA.body hLa
              dsimp only at eN et ep ea eb
              rw [eN, et, ep, ea, eb]
              clear eN et ep ea eb hLa hcl
              refine awp_skip ?_
              simp [begunQ, go_sem, mvNot, St.putL]
              refine awp_post ?_
              refine awp_block ?_
              refine awp_reg_seq fun K hK => ?_
              simp [go_sem, c0, d0, hi, wrap_pred (i := i) (by omega), c1, d1, c4, d4, c6, d6, wrap_succ (i := k) (by omega)]
              try simp (disch := omega) only [wrapI]
              repeat refine ⟨by omega, ?_⟩
              refine hK _ ?_; clear hK K
              refine awp_reg_seq fun K hK => ?_
              simp [go_sem, c0, d0, hi, wrap_pred (i := i) (by omega), c1, d1, c4, d4, c6, d6, wrap_succ (i := k) (by omega)]
              repeat refine ⟨by omega, ?_⟩
              refine hK _ ?_; clear hK K
              refine awp_forget [2, 93] (by simp only [restr, List.contains_cons, List.contains_nil, Nat.reduceBEq, Bool.or_false, Bool.or_true, Bool.true_or, Bool.false_or, if_true, if_false, Bool.false_eq_true]; rfl) ?_
              refine awp_cond rfl (fun c8 => ?_) (fun c8 => ?_)
              · have d8 := c8; try simp at d8
                refine awp_reg_seq fun K hK => ?_
                simp [go_sem, c0, d0, hi, wrap_pred (i := i) (by omega), c1, d1, c4, d4, c6, d6, wrap_succ (i := k) (by omega), c8, d8]
                repeat refine ⟨by omega, ?_⟩
                refine hK _ ?_; clear hK K
                refine awp_ret ?_
                exfalso
                omega
              · have d8 := c8; try simp at d8
                refine awp_skip ?_
                refine ⟨_, Sub.refl _, ?_⟩
                simp [go_sem, roundQ, jumpOf, mvNot, mvIn]
                exact leaves_app (by simp [go_sem, leavesL_refl])
            have hR : Ways (fun i => σ ++ [.var [.d (SL c 3 Row.enc n g)], .var [.d (I 0)], .var ((g r).enc.map .d), .var [.d (I i)], .var [.d (SL c 3 Row.enc n g)], .var [.d (I (g r).Unit)], .lp La .ready none]) c n g (g r).Unit (Kx + 1) (chainX n g r) true (σ.length + 6) (σ.length + 4) (σ.length + 5) (σ.length + 50) := by
              refine ⟨fun i => by simp [go_sem], fun i => by simp [go_sem], fun i => by simp [go_sem], fun i => by simp [go_sem], fun i => leaves_app (by simp [go_sem]), fun i => leaves_app (by simp [go_sem]), fun i => by simp, by omega, by omega, by omega, by rw [if_neg (by omega)]; exact hg.find d6, fun i hi => hg.chain_lt d6 i (fun q hq => hK3 q (by omega)), fun i hi => ⟨hK3 i (by omega), (hg.chain_next d6 (fun q hq => hK3 q (by omega))).1⟩, fun i hi => hround i (by omega), fun i hi => hround i (by omega), fun i hi _ hp => ?_⟩
              obtain rfl : i = Kx := by omega
              exact absurd hK2 hp
            have h3 := policy_above_1_cs σ _ c n g (g r).Unit (Kx + 1) _ true _ _ _ _ hR hn
            refine CS.mono (Q := fun r' σ' X' => X' = [σ.length + 50] ∧ r' = .tup [] ∧ σ' = _) (by simpa [go_sem] using h3) ?_
            rintro r' σ' X ⟨rfl, rfl, rfl⟩
            clear h3 hR hround hLa hcl
            refine ⟨σ ++ [.var [.d (SL c 3 Row.enc n g)], .var [.d (I 0)], .var ((g r).enc.map .d), .var [.d (I (Kx + 1 : Nat))], .var [.d (SL c 3 Row.enc n g)], .var [.d (I (g r).Unit)]], La, .ready, none, by simp [go_sem], leaves_app (by simp [go_sem]), by simp, by simp [mvNot], ?_⟩
            simp [jumpQ, go_sem, scrub', AV.avoids, avoidsL]
            refine awp_reg_end fun K hK => ?_
            simp [go_sem, c0, d0, hi, wrap_pred (i := i) (by omega), c1, d1, c4, d4, c6, d6]
            try simp (disch := omega) only [wrapI]
            repeat refine ⟨by omega, ?_⟩
            refine hK _ ?_; clear hK K
            refine ⟨r + 1, back_of' (by simp [go_sem, wrap_succ (i := r) (by omega), c0, d0, hi, wrap_pred (i := i) (by omega), c1, d1, c4, d4, c6, d6]) (.refl _) (by (simp [go_sem, wrap_succ (i := r) (by omega), c0, d0, hi, wrap_pred (i := i) (by omega), c1, d1, c4, d4, c6, d6] <;> omega)), ⟨by omega, fun z hz => by rcases Nat.lt_or_eq_of_le (Nat.le_of_lt_succ hz) with h | h; exact hc z h; rw [h]; exact hcy⟩, by first | omega | (dsimp only; omega)⟩
        · have d6 := c6; try simp at d6
          have hrn : r = n := by omega
          have hz := rows_4 hle hx hy (fun i hi => hc i (by omega))
          refine awp_exit ?_
          refine awp_reg_seq fun K hK => ?_
          simp [go_sem, c0, d0, hi, wrap_pred (i := i) (by omega), c1, d1, c4, d4, c6, d6]
          repeat refine ⟨by omega, ?_⟩
          refine hK _ ?_; clear hK K
          refine awp_ret ?_
          rw [hz]; simp [go_sem, Tryz.results16]
end Go.Proofs.YtkochmppmpmddaaGreat

/-! Dg -/
namespace Go.Proofs.YtkochmppmpmddaaGreat
open Go.Abs Go.Arch
set_option linter.unusedVariables false
set_option linter.unusedSimpArgs false
set_option maxRecDepth 100000
set_option maxHeartbeats 1000000
theorem closes_cs (σ : List Blk) (p : Pol) (r : Row) (d : Int) (j : Nat) (hp : PolOk p) (hσ : σ[0]? = some (.loc 0)) (hj : j < 3) : CSF Tryz.prog (if j = 0 then 101 else if j = 1 then 106 else 109) [.agg (p.enc.map .d), .agg (r.enc.map .d), .d (I d)] σ (.d (SL none 4 Ground.enc (clsG p r d j).length (nth (clsG p r d j)))) := by
  have hj3 : j = 0 ∨ j = 1 ∨ j = 2 := by omega
  rcases hj3 with rfl | rfl | rfl
  · exact policy_sources_1_cs σ p r d hp
  · exact policy_sources_3_cs σ p r d hp hσ
  · exact policy_sources_5_cs σ p r d hp
theorem opens_cs (σ : List Blk) (p : Pol) (r : Row) (d : Int) (j : Nat) (hp : PolOk p) (hσ : σ[0]? = some (.loc 0)) (hj : j < 3) : CSF Tryz.prog (if j = 0 then 104 else if j = 1 then 108 else 111) [.agg (p.enc.map .d), .agg (r.enc.map .d), .d (I d)] σ (.tup [.d (I (opnS p r d j).1), .d (I (opnS p r d j).2)]) := by
  have hj3 : j = 0 ∨ j = 1 ∨ j = 2 := by omega
  rcases hj3 with rfl | rfl | rfl
  · exact policy_sources_2_cs σ p r d hp
  · exact policy_sources_4_cs σ p r d hp hσ
  · exact policy_sources_6_cs σ p r d hp
def setU (u : Int) (x : Ground) : Ground := ⟨x.Kind, x.Source, u, x.Until⟩
def clsU (p : Pol) (r : Row) (d : Int) (j : Nat) : List Ground := (clsG p r d j).map (setU r.Unit)
def rowG (p : Pol) (d : Int) (r : Row) : List Ground := gather (clsU p r d) 3
noncomputable def wayG (n : Nat) (g : Nat → Row) (p : Pol) (u d : Int) : List Ground := gather (fun k => rowG p d (g (wayX n g u k))) (wayK n g u)
theorem gather_le {β : Type} {f : Nat → List β} {m : Nat} : ∀ {i : Nat}, (∀ q, q < i → (f q).length ≤ m) → (gather f i).length ≤ i * m
  | 0, _ => by simp [gather]
  | i + 1, h => by
    have h1 := gather_le (i := i) fun q hq => h q (by omega)
    have h2 := h i (by omega)
    simp only [gather, List.length_append, Nat.add_mul, Nat.one_mul]; omega
theorem clsU_len {p : Pol} (h : PolOk p) (r : Row) (d : Int) (j : Nat) : (clsU p r d j).length ≤ 1000 := by
  unfold clsU; rw [List.length_map]; exact clsG_len h r d j
theorem rowG_len {p : Pol} (h : PolOk p) (d : Int) (r : Row) : (rowG p d r).length ≤ 3000 := by
  have := gather_le (f := clsU p r d) (i := 3) (m := 1000) fun q _ => clsU_len h r d q
  unfold rowG; omega
theorem lst_map_nth {α β : Type} [Inhabited α] (f : α → β) (L : List α) : lst L.length (fun q => f (nth L q)) = L.map f := by
  have := lst_nth L
  rw [← congrArg (List.map f) this]
  simp [lst]
theorem grow_fn {p : Pol} (hp : PolOk p) (r : Row) (d : Int) (F : List Ground) (hF : F.length ≤ 768000) : ∃ Bf : Nat → Nat → List Ground, Bf 0 0 = F ∧ (∀ j q, Bf j (q + 1) = Bf j q ++ [setU r.Unit (nth (clsG p r d j) q)]) ∧ (∀ j, Bf (j + 1) 0 = Bf j (clsG p r d j).length) ∧
    (∀ j q, j ≤ 3 → q ≤ 1000 → (Bf j q).length ≤ 800000) ∧ Bf 3 0 = F ++ gather (clsU p r d) 3 := by
  refine ⟨fun j q => F ++ (gather (clsU p r d) j ++ lst q (fun q => setU r.Unit (nth (clsG p r d j) q))), by simp [gather, lst], fun j q => ?_, fun j => ?_, fun j q hj hq => ?_, by simp [lst]⟩
  · dsimp only; rw [lst_succ]; simp
  · dsimp only; rw [lst_map_nth]; simp [gather, lst, clsU]
  · have := gather_le (f := clsU p r d) (i := j) (m := 1000) fun q _ => clsU_len hp r d q
    simp only [List.length_append, lst_length]
    have : j * 1000 ≤ 3000 := by omega
    omega
theorem policy_grounds_cs (σ : List Blk) (c : Option Nat) (n : Nat) (g : Nat → Row) (p : Pol) (u d : Int) (hn : n ≤ 256) (hp : PolOk p) (hr : rowsChk n g = 0) (hσ : σ[0]? = some (.loc 0)) : CSF Tryz.prog 65 [.d (SL c 3 Row.enc n g), .agg (p.enc.map .d), .d (I u), .d (I d)] σ (.d (SL none 4 Ground.enc (wayG n g p u d).length (nth (wayG n g p u d)))) := by
  obtain ⟨hwk, hway⟩ := way_of hr u
  refine CSF.of_body T.en65 Tryz.func65 rfl (by simp [Tryz.ntmps65]) (by simp [go_sem]) fun hwf => ?_
  refine awp_reg_seq fun K hK => ?_
  simp [go_sem, Tryz.ntmps65]
  repeat refine ⟨by omega, ?_⟩
  refine hK _ ?_; clear hK K
  refine awp_reg_seq fun K hK => ?_
  simp [go_sem]
  repeat refine ⟨by omega, ?_⟩
  refine hK _ ?_; clear hK K
  refine awp_seq ?_
  refine awp_thawV (σ.length + 2) 4 (fun i => Ground.enc (nth ([] : List Ground) i)) (by simp [go_sem]) (by simp [go_sem]; rfl) ?_
  refine awp_reg_seq fun K hK => ?_
  simp [go_sem]
  repeat refine ⟨by omega, ?_⟩
  have hcl := policy_above_cs (σ ++ [.var (p.enc.map .d), .var [.d (I d)], .var [.ms (σ.length + 3) 4 0 0], .arr 4 0 (fun i => Ground.enc (nth ([] : List Ground) i))]) c n g u; simp only [List.append_assoc, List.cons_append, List.nil_append, List.length_append, List.length_cons, List.length_nil, Nat.zero_add, Nat.reduceAdd] at hcl; refine CSk.gen hcl ?_; rintro r' σ' X ⟨rfl, rfl, rfl⟩
  simp [go_sem]
  repeat refine ⟨by omega, ?_⟩
  refine hK _ ?_; clear hK K
  refine awp_block ?_
  refine awp_rangeL rfl [(5, .ptr σ.length 0), (7, .ptr (σ.length + 1) 0), (9, .ptr (σ.length + 2) 0)] (by simp [go_sem]) ?_
  intro La hLa
  have hround : ∀ k, k < wayK n g u → YS Tryz.prog (σ.length + 6) [.agg ((g (wayX n g u k)).enc.map .d)] (σ ++ [.var (p.enc.map .d), .var [.d (I d)], .var [.ms (σ.length + 3) 4 0 (gather (fun k => rowG p d (g (wayX n g u k))) k).length], .arr 4 (gather (fun k => rowG p d (g (wayX n g u k))) k).length (fun i => Ground.enc (nth (gather (fun k => rowG p d (g (wayX n g u k))) k) i)), .var [.d (SL c 3 Row.enc n g)], .var [.d (I u)], .lp La .ready none]) (fun r' σ' X => X = [σ.length + 3] ∧ (r' = .d (B true) ∧ σ' = σ ++ [.var (p.enc.map .d), .var [.d (I d)], .var [.ms (σ.length + 3) 4 0 (gather (fun k => rowG p d (g (wayX n g u k))) (k + 1)).length], .arr 4 (gather (fun k => rowG p d (g (wayX n g u k))) (k + 1)).length (fun i => Ground.enc (nth (gather (fun k => rowG p d (g (wayX n g u k))) (k + 1)) i)), .var [.d (SL c 3 Row.enc n g)], .var [.d (I u)], .lp La .ready none])) := by
    intro k hk
    have hFl : (gather (fun k => rowG p d (g (wayX n g u k))) k).length ≤ 768000 := by
      have := gather_le (f := fun k => rowG p d (g (wayX n g u k))) (i := k) (m := 3000) fun q _ => rowG_len hp d _
      omega
    have hF1 : gather (fun k => rowG p d (g (wayX n g u k))) (k + 1) = gather (fun k => rowG p d (g (wayX n g u k))) k ++ gather (clsU p (g (wayX n g u k)) d) 3 := rfl
    rw [hF1]
    generalize gather (fun k => rowG p d (g (wayX n g u k))) k = F at hFl
    obtain ⟨Bf, rfl, hs, hnx, hBl, hB3⟩ := grow_fn hp (g (wayX n g u k)) d F hFl
    refine YS.of_awp (L := La) (pd := none) (by simp [go_sem]) (by rw [hLa]; rfl) ?_
    intro hwf'
    have eN := congrArg LoopA.N hLa
    have et := congrArg LoopA.t hLa
    have ep := congrArg LoopA.ps hLa
    have ea := congrArg LoopA.assign hLa
    have eb := congrArg LoopA.body hLa
    dsimp only at eN et ep ea eb
    have h1 : scrub' [σ.length + 3] La.t = La.t := by rw [et]; simp [scrub', AV.avoids]
    rw [eN, et, ep, ea, eb]
    clear eN et ep ea eb hLa hcl
    refine awp_reg_end fun K hK => ?_
    simp [go_sem, h1, hwf.one, hwf.zero, St.putL]
    repeat refine ⟨by omega, ?_⟩
    refine hK _ ?_; clear hK K
    simp [begunQ, go_sem, mvNot]
    refine awp_post ?_
    refine awp_block ?_
    refine awp_reg_seq fun K hK => ?_
    simp [go_sem, h1, hwf.one, hwf.zero]
    repeat refine ⟨by omega, ?_⟩
    refine CSk.mk (policy_sources_cs _) ?_
    simp [go_sem, h1, hwf.one, hwf.zero]
    repeat refine ⟨by omega, ?_⟩
    refine hK _ ?_; clear hK K
    refine awp_block ?_
    refine awp_forget [5, 7, 9, 10, 19, 20, 21] (by simp [go_sem, restr]; rfl) ?_
    refine awp_mv [σ.length + 3] (by simp) ?_
    refine awp_loopU (α := Nat) (fun j => [(21, .d (I j))]) (fun j => σ ++ [.var (p.enc.map .d), .var [.d (I d)], .var [.ms (σ.length + 3) 4 0 (Bf j 0).length], .arr 4 (Bf j 0).length (fun i => Ground.enc (nth (Bf j 0) i)), .var [.d (SL c 3 Row.enc n g)], .var [.d (I u)], .lp La .busy none, .var ((g (wayX n g u k)).enc.map .d)]) (fun j => j ≤ 3) (fun j => 3 - j) 0 (by simp [go_sem]) rfl (by simp) ?_
    rintro j hj
    refine awp_reg_seq fun K hK => ?_
    simp [go_sem, h1, hwf.one, hwf.zero]
    repeat refine ⟨by omega, ?_⟩
    refine hK _ ?_; clear hK K
    refine awp_seq ?_
    refine awp_forget [5, 7, 9, 10, 19, 20, 21, 22] (by simp only [restr, List.contains_cons, List.contains_nil, Nat.reduceBEq, Bool.or_false, Bool.or_true, Bool.true_or, Bool.false_or, if_true, if_false, Bool.false_eq_true]; rfl) ?_
    refine awp_cond rfl (fun c0 => ?_) (fun c0 => ?_)
    · have d0 := c0; try simp at d0
      have hcl := clsG_len hp (g (wayX n g u k)) d j
      have hrow : rowsOf 2 [] j = rowsOf 2 [] j := rfl
      refine awp_skip ?_
      refine awp_seq ?_
      refine awp_block ?_
      refine awp_reg_seq fun K hK => ?_
      simp [go_sem, h1, hwf.one, hwf.zero, c0, d0]
      repeat refine ⟨by omega, ?_⟩
      refine hK _ ?_; clear hK K
      refine awp_reg_seq fun K hK => ?_
      simp [go_sem, h1, hwf.one, hwf.zero, c0, d0]
      repeat refine ⟨by omega, ?_⟩
      refine CSk.mk (closes_cs _ p (g (wayX n g u k)) d j hp (loc_app hσ) (by omega)) ?_
      simp [go_sem, h1, hwf.one, hwf.zero, c0, d0]
      repeat refine ⟨by omega, ?_⟩
      refine hK _ ?_; clear hK K
      refine awp_block ?_
      refine awp_forget [5, 7, 9, 10, 19, 20, 21, 30, 31, 32] (by simp [go_sem, restr]; rfl) ?_
      refine awp_mv [σ.length + 3] (by simp) ?_
      refine awp_loopU (α := Nat) (fun q => [(32, .d (I q))]) (fun q => σ ++ [.var (p.enc.map .d), .var [.d (I d)], .var [.ms (σ.length + 3) 4 0 (Bf j q).length], .arr 4 (Bf j q).length (fun i => Ground.enc (nth (Bf j q) i)), .var [.d (SL c 3 Row.enc n g)], .var [.d (I u)], .lp La .busy none, .var ((g (wayX n g u k)).enc.map .d), .var [.d (Fn0 (if j = 0 then 101 else if j = 1 then 106 else 109)), .d (Fn0 (if j = 0 then 104 else if j = 1 then 108 else 111))]]) (fun q => q ≤ (clsG p (g (wayX n g u k)) d j).length) (fun q => (clsG p (g (wayX n g u k)) d j).length - q) 0 (by simp [go_sem]) rfl (by simp) ?_
      rintro q hq
      refine awp_reg_seq fun K hK => ?_
      simp [go_sem, h1, hwf.one, hwf.zero, c0, d0]
      repeat refine ⟨by omega, ?_⟩
      refine hK _ ?_; clear hK K
      refine awp_seq ?_
      refine awp_forget [5, 7, 9, 10, 19, 20, 21, 30, 31, 32, 33] (by simp only [restr, List.contains_cons, List.contains_nil, Nat.reduceBEq, Bool.or_false, Bool.or_true, Bool.true_or, Bool.false_or, if_true, if_false, Bool.false_eq_true]; rfl) ?_
      refine awp_cond rfl (fun c1 => ?_) (fun c1 => ?_)
      · have d1 := c1; try simp at d1
        have hbl := hBl j q (by omega) (by omega)
        have hsq := hs j q
        refine awp_skip ?_
        refine awp_seq ?_
        refine awp_block ?_
        refine awp_reg_seq fun K hK => ?_
        simp [go_sem, h1, hwf.one, hwf.zero, c0, d0, c1, d1, hsq]
        repeat refine ⟨by omega, ?_⟩
        refine hK _ ?_; clear hK K
        refine awp_reg_seq fun K hK => ?_
        simp [go_sem, h1, hwf.one, hwf.zero, c0, d0, c1, d1, hsq]
        repeat refine ⟨by omega, ?_⟩
        refine hK _ ?_; clear hK K
        refine awp_reg_end fun K hK => ?_
        simp [go_sem, h1, hwf.one, hwf.zero, c0, d0, c1, d1, hsq, hwf.one, hwf.zero]
        repeat refine ⟨by omega, ?_⟩
        refine hK _ ?_; clear hK K
        refine awp_rows (σ.length + 3) (fun i => Ground.enc (nth (Bf j q ++ [setU (g (wayX n g u k)).Unit (nth (clsG p (g (wayX n g u k)) d j) q)]) i)) (by simp [go_sem]; first | exact ⟨rfl, rfl, rfl⟩ | exact ⟨rfl, rfl⟩ | rfl) (by exact fun i hi => cat_nth (enc := Ground.enc) (x := setU (g (wayX n g u k)).Unit (nth (clsG p (g (wayX n g u k)) d j) q)) rfl hi) (by simp [go_sem]; rfl) ?_
        refine awp_reg_end fun K hK => ?_
        simp [go_sem, h1, hwf.one, hwf.zero, c0, d0, c1, d1, hsq]
        try simp (disch := omega) only [wrapI]
        repeat refine ⟨by omega, ?_⟩
        refine hK _ ?_; clear hK K
        refine ⟨q + 1, back_of' (by simp [go_sem, wrap_succ (i := q) (by omega), h1, hwf.one, hwf.zero, c0, d0, c1, d1, hsq]) ((leaves_app (by simp [go_sem]))) (by (simp [go_sem, wrap_succ (i := q) (by omega), h1, hwf.one, hwf.zero, c0, d0, c1, d1, hsq] <;> omega)), by omega, by first | omega | (dsimp only; omega)⟩
      · have d1 := c1; try simp at d1
        obtain rfl : q = (clsG p (g (wayX n g u k)) d j).length := by omega
        have hnj := hnx j
        refine awp_exit ?_
        refine awp_reg_end fun K hK => ?_
        simp [go_sem, h1, hwf.one, hwf.zero, c0, d0, c1, d1, hnj]
        try simp (disch := omega) only [wrapI]
        repeat refine ⟨by omega, ?_⟩
        refine hK _ ?_; clear hK K
        refine ⟨j + 1, back_of' (by simp [go_sem, wrap_succ (i := j) (by omega), h1, hwf.one, hwf.zero, c0, d0, c1, d1, hnj]) ((leaves_app (by simp [go_sem]))) (by (simp [go_sem, wrap_succ (i := j) (by omega), h1, hwf.one, hwf.zero, c0, d0, c1, d1, hnj] <;> omega)), by omega, by first | omega | (dsimp only; omega)⟩
    · have d0 := c0; try simp at d0
      obtain rfl : j = 3 := by omega
      refine awp_exit ?_
      refine ⟨_, Sub.refl _, ?_⟩
      simp [go_sem, roundQ, jumpOf, mvNot, mvIn, hB3]
      exact leaves_app (by simp [go_sem, leavesL_refl])
  have hR : Ways (fun k => σ ++ [.var (p.enc.map .d), .var [.d (I d)], .var [.ms (σ.length + 3) 4 0 (gather (fun k => rowG p d (g (wayX n g u k))) k).length], .arr 4 (gather (fun k => rowG p d (g (wayX n g u k))) k).length (fun i => Ground.enc (nth (gather (fun k => rowG p d (g (wayX n g u k))) k) i)), .var [.d (SL c 3 Row.enc n g)], .var [.d (I u)], .lp La .ready none]) c n g u (wayK n g u) (wayX n g u) true (σ.length + 6) (σ.length + 4) (σ.length + 5) (σ.length + 3) := by
    refine ⟨fun i => by simp [go_sem], fun i => by simp [go_sem], fun i => by simp [go_sem], fun i => by simp [go_sem], fun i => leaves_app (by simp [go_sem]), fun i => leaves_app (by simp [go_sem]), fun i => by simp, by omega, by omega, by omega, hway.first, hway.lt, hway.mid, fun i hi => hround i (by omega), fun i hi => hround i (by omega), fun i hi _ => hway.fin i hi⟩
  have h3 := policy_above_1_cs σ _ c n g u (wayK n g u) _ true _ _ _ _ hR (by omega)
  refine CS.mono (Q := fun r' σ' X' => X' = [σ.length + 3] ∧ r' = .tup [] ∧ σ' = _) (by simpa [go_sem, gather] using h3) ?_
  rintro r' σ' X ⟨rfl, rfl, rfl⟩
  clear h3 hR hround hLa hcl
  refine ⟨σ ++ [.var (p.enc.map .d), .var [.d (I d)], .var [.ms (σ.length + 3) 4 0 (wayG n g p u d).length], .arr 4 (wayG n g p u d).length (fun i => Ground.enc (nth (wayG n g p u d) i)), .var [.d (SL c 3 Row.enc n g)], .var [.d (I u)]], La, .ready, none, by simp [go_sem, wayG], leaves_app (by simp [go_sem]), by simp, by simp [mvNot], ?_⟩
  simp [jumpQ, go_sem, scrub', AV.avoids, avoidsL]
  refine awp_reg_seq fun K hK => ?_
  simp [go_sem]
  repeat refine ⟨by omega, ?_⟩
  refine hK _ ?_; clear hK K
  refine awp_freeze (σ.length + 3) (by simp [go_sem]; first | exact ⟨rfl, rfl, rfl⟩ | exact ⟨rfl, rfl⟩ | rfl) (by simp [go_sem]; rfl) (by simp [go_sem, hwf.frz, hwf.frz0]; rfl) ?_
  refine awp_ret ?_
  simp [go_sem, Tryz.results65]
end Go.Proofs.YtkochmppmpmddaaGreat

/-! Oc -/
namespace Go.Abs
set_option linter.unusedVariables false
set_option linter.unusedSimpArgs false
theorem awp_thawC {P : Program} {c : Code} {Q : Exit → St → Prop} {N : Nat} {t : List (Nat × AV)} {σ σ' : List Blk} {mv : List Nat} (v k sz : Nat) (row : Nat → List D) {cs cs' : List AV} (hv : σ[v]? = some (.var cs)) (hk : cs[k]? = some (.d (.v (.slice none 0 0)))) (hc : cs.set k (.ms σ.length sz 0 0) = cs') (hσ : σ.set v (.var cs') ++ [.arr sz 0 row] = σ')
    (h : AWP P c Q ⟨N, t, σ', mv⟩) : AWP P c Q ⟨N, t, σ, mv⟩ := by
  refine awp_sub (s' := ⟨N, t, σ', mv⟩) ?_ h
  intro j0 j a w hr
  subst hσ
  subst hc
  obtain ⟨h1, h2, h3⟩ := hr.sto.unmade (sz := sz) (rows := row) (p := none)
  have hvl : v < σ.length := (List.getElem?_eq_some_iff.1 hv).1
  have hkl : k < cs.length := (List.getElem?_eq_some_iff.1 hk).1
  refine ⟨j ++ [none], ⟨hr.defers.mono h3, hr.rdok, hr.size, fun q av hq => ⟨(hr.tmp q av hq).1, (hr.tmp q av hq).2.mono0 h3 hr.sto.lt (ag_append _ _)⟩, ⟨by simp [hr.sto.len], h1.lt, h1.inj, fun b x hx => ?_⟩, by have := hr.len0; simp; omega, fun c hc hn => ?_⟩, h3⟩
  · rw [← List.set_append_left _ _ hvl, List.getElem?_set] at hx
    split at hx
    · rename_i e
      subst e
      split at hx
      · simp only [Option.some.injEq] at hx
        subst hx
        obtain ⟨o, ho, hB⟩ := h1.blk v (.var cs) (by rw [List.getElem?_append_left hvl]; exact hv)
        refine ⟨o, ho, ?_⟩
        cases o with
        | none => exact hB
        | some cb =>
          obtain ⟨C, e, g1, g2, g3⟩ := hB
          refine ⟨C, e, g1, by simpa using g2, fun q hq => ?_⟩
          have hq' : q < cs.length := by simpa using hq
          have h0 := g3 q hq'
          by_cases hqk : q = k
          · subst hqk
            have e1 : cs.getD q .undef = .d (.v (.slice none 0 0)) := by rw [List.getD_eq_getElem?_getD, hk]; rfl
            rw [e1] at h0
            have h0 := R_v h0
            rw [h0]
            have e2 : (cs.set q (.ms σ.length sz 0 0)).getD q .undef = .ms σ.length sz 0 0 := by simp [List.getD_eq_getElem?_getD, hkl]
            rw [e2]; exact h2
          · have e2 : (cs.set k (.ms σ.length sz 0 0)).getD q .undef = cs.getD q .undef := by simp [List.getD_eq_getElem?_getD, List.getElem?_set, Ne.symm hqk]
            rw [e2]; exact h0
      · simp at hx
    · exact h1.blk b x hx
  · have := hr.len0
    rw [List.getElem?_append_left (by omega)]; exact hr.ag c hc hn
end Go.Abs

/-! Dh -/
namespace Go.Proofs.YtkochmppmpmddaaGreat
open Go.Abs Go.Arch
set_option linter.unusedVariables false
set_option linter.unusedSimpArgs false
set_option maxRecDepth 100000
set_option maxHeartbeats 1000000
theorem cat_fn {α : Type} {enc : α → List D} {f : Nat → α} {k sz : Nat} {ds : List D} (h : ds.take sz = enc (f k)) {q : Nat} (hq : q < k + 1) : catRows k (fun q => enc (f q)) (rowsOf sz ds) q = enc (f q) := by
  unfold catRows
  split
  · rfl
  · have : q = k := by omega
    subst this
    simp [rowsOf, h]
structure Acc where
  Reader : Int
  Unit : Int
  Day : Int
  Granted : Bool
  nr : Nat
  rs : Nat → Reason
instance : Inhabited Acc := ⟨⟨0, 0, 0, false, 0, fun _ => default⟩⟩
def Acc.enc (a : Acc) : List D := [I a.Reader, I a.Unit, I a.Day, B a.Granted, SL none 5 Reason.enc a.nr a.rs]
attribute [go_sem] Acc.enc
def Acc.zero : Acc := ⟨0, 0, 0, false, 0, fun _ => default⟩
noncomputable def askR (n : Nat) (g : Nat → Row) (p : Pol) (r u d : Int) : Int := if rowsChk n g ≠ 0 ∨ polChk p ≠ 0 then 1 else if idOk r = false ∨ d < 0 ∨ 1048575 < d then 2 else if findR n g u < 0 then 7 else 0
theorem ask_zero {n : Nat} {g : Nat → Row} {p : Pol} {r u d : Int} (h : askR n g p r u d = 0) : rowsChk n g = 0 ∧ polChk p = 0 ∧ idOk r = true ∧ 0 ≤ d ∧ d ≤ 1048575 ∧ 0 ≤ findR n g u := by
  unfold askR at h
  split at h
  · omega
  rename_i h1
  split at h
  · omega
  rename_i h2
  split at h
  · omega
  rename_i h3
  refine ⟨by omega, by omega, ?_, by omega, by omega, by omega⟩
  cases hr : idOk r with
  | true => rfl
  | false => exact absurd (.inl hr) h2
def dec1 (p : Pol) (r : Int) (k : Nat) (w : Nat → Int) (d : Int) (x : Ground) : Int :=
  if (firstR p.nm p.gm r k w x.Kind d).2 = false ∨ (x.Kind = 3 ∧ agrStr p.na p.ga x.Source = true) then 0 else (firstR p.nm p.gm r k w x.Kind d).1
def rsn (p : Pol) (r : Int) (k : Nat) (w : Nat → Int) (d : Int) (x : Ground) : Reason := ⟨x, dec1 p r k w d x⟩
def lifted (f : Nat → Reason) : Nat → Bool
  | 0 => true
  | i + 1 => lifted f i && ((f i).Pm != 0)
def decR (p : Pol) (r u : Int) (k : Nat) (w : Nat → Int) (d : Int) (L : List Ground) : Acc := ⟨r, u, d, lifted (fun q => rsn p r k w d (nth L q)) L.length, L.length, fun q => rsn p r k w d (nth L q)⟩
noncomputable def decW (n : Nat) (g : Nat → Row) (p : Pol) (r u d : Int) : Acc := decR p r u (wayK n g u) (fun i => (g (wayX n g u i)).Unit) d (wayG n g p u d)
noncomputable def decideR (n : Nat) (g : Nat → Row) (p : Pol) (r u d : Int) : Acc × Int := if askR n g p r u d ≠ 0 then (Acc.zero, askR n g p r u d) else (decW n g p r u d, 0)
theorem wayG_len {n : Nat} {g : Nat → Row} {p : Pol} (hp : PolOk p) (hn : n ≤ 256) (hr : rowsChk n g = 0) (u d : Int) : (wayG n g p u d).length ≤ 768000 := by
  have h1 := (way_of hr u).1
  have := gather_le (f := fun k => rowG p d (g (wayX n g u k))) (i := wayK n g u) (m := 3000) fun q _ => rowG_len hp d _
  unfold wayG; omega
theorem rows_le {n : Nat} {g : Nat → Row} (h : rowsChk n g = 0) : n ≤ 256 := (rows_good h).1.le
theorem policy_asked_cs (σ : List Blk) (c : Option Nat) (n : Nat) (g : Nat → Row) (p : Pol) (r u d : Int) (hn : n < 1000000000) (hp : PolOk p) (hσ : σ[0]? = some (.loc 0)) : CSF Tryz.prog 62 [.d (SL c 3 Row.enc n g), .agg (p.enc.map .d), .d (I r), .d (I u), .d (I d)] σ (.d (I (askR n g p r u d))) := by
  refine CSF.of_body T.en62 Tryz.func62 rfl (by simp [Tryz.ntmps62]) (by simp [go_sem]) fun hwf => ?_
  refine awp_reg_seq fun K hK => ?_
  simp [go_sem, Tryz.ntmps62]
  repeat refine ⟨by omega, ?_⟩
  refine hK _ ?_; clear hK K
  refine awp_seq ?_
  refine awp_block ?_
  refine awp_reg_seq fun K hK => ?_
  simp [go_sem]
  repeat refine ⟨by omega, ?_⟩
  refine CSk.mk (policy_Rows_cs _ c n g hn) ?_
  simp [go_sem]
  repeat refine ⟨by omega, ?_⟩
  refine CSm.mk (policy_Check_cs _ p hp (loc_app hσ)) ?_
  simp [go_sem]
  repeat refine ⟨by omega, ?_⟩
  refine hK _ ?_; clear hK K
  refine awp_forget [0, 2, 3, 4, 11] (by simp only [restr, List.contains_cons, List.contains_nil, Nat.reduceBEq, Bool.or_false, Bool.or_true, Bool.true_or, Bool.false_or, if_true, if_false, Bool.false_eq_true]; rfl) ?_
  refine awp_cond rfl (fun c0 => ?_) (fun c0 => ?_)
  · have d0 := c0; try simp at d0
    have hz : askR n g p r u d = 1 := by unfold askR; rw [if_pos d0]
    refine awp_reg_seq fun K hK => ?_
    simp [go_sem, c0, d0]
    repeat refine ⟨by omega, ?_⟩
    refine hK _ ?_; clear hK K
    refine awp_ret ?_
    rw [hz]; simp [go_sem, Tryz.results62]
  · have d0 := c0; try simp at d0
    have hd0 : ¬(rowsChk n g ≠ 0 ∨ polChk p ≠ 0) := by omega
    refine awp_reg_seq fun K hK => ?_
    simp [go_sem, c0, d0]
    repeat refine ⟨by omega, ?_⟩
    refine CSk.mk (policy_id_cs _ r) ?_
    simp [go_sem, c0, d0]
    repeat refine ⟨by omega, ?_⟩
    refine hK _ ?_; clear hK K
    refine awp_forget [0, 3, 20] (by simp only [restr, List.contains_cons, List.contains_nil, Nat.reduceBEq, Bool.or_false, Bool.or_true, Bool.true_or, Bool.false_or, if_true, if_false, Bool.false_eq_true]; rfl) ?_
    refine awp_cond rfl (fun c1 => ?_) (fun c1 => ?_)
    · have d1 := c1; try simp at d1
      have hz : askR n g p r u d = 2 := by unfold askR; rw [if_neg hd0, if_pos (by simpa [or_assoc] using d1)]
      refine awp_reg_seq fun K hK => ?_
      simp [go_sem, c0, d0, c1, d1]
      repeat refine ⟨by omega, ?_⟩
      refine hK _ ?_; clear hK K
      refine awp_ret ?_
      rw [hz]; simp [go_sem, Tryz.results62]
    · have d1 := c1; try simp at d1
      have hd1 : ¬(idOk r = false ∨ d < 0 ∨ 1048575 < d) := by
        rintro (h | h | h)
        · have := d1.1.1; rw [h] at this; cases this
        · omega
        · omega
      refine awp_reg_seq fun K hK => ?_
      simp [go_sem, c0, d0, c1, d1]
      repeat refine ⟨by omega, ?_⟩
      refine CSk.mk (policy_find_cs _ c n g u hn) ?_
      simp [go_sem, c0, d0, c1, d1]
      repeat refine ⟨by omega, ?_⟩
      refine hK _ ?_; clear hK K
      refine awp_forget [32] (by simp only [restr, List.contains_cons, List.contains_nil, Nat.reduceBEq, Bool.or_false, Bool.or_true, Bool.true_or, Bool.false_or, if_true, if_false, Bool.false_eq_true]; rfl) ?_
      refine awp_cond rfl (fun c2 => ?_) (fun c2 => ?_)
      · have d2 := c2; try simp at d2
        have hz : askR n g p r u d = 7 := by unfold askR; rw [if_neg hd0, if_neg hd1, if_pos d2]
        refine awp_reg_seq fun K hK => ?_
        simp [go_sem, c0, d0, c1, d1, c2, d2]
        repeat refine ⟨by omega, ?_⟩
        refine hK _ ?_; clear hK K
        refine awp_ret ?_
        rw [hz]; simp [go_sem, Tryz.results62]
      · have d2 := c2; try simp at d2
        have hz : askR n g p r u d = 0 := by unfold askR; rw [if_neg hd0, if_neg hd1, if_neg (by omega)]
        refine awp_skip ?_
        refine awp_reg_seq fun K hK => ?_
        simp [go_sem, c0, d0, c1, d1, c2, d2]
        repeat refine ⟨by omega, ?_⟩
        refine hK _ ?_; clear hK K
        refine awp_ret ?_
        rw [hz]; simp [go_sem, Tryz.results62]
theorem policy_decide_cs (σ : List Blk) (c : Option Nat) (n : Nat) (g : Nat → Row) (p : Pol) (r u d : Int) (hp : PolOk p) (hr : rowsChk n g = 0) (hσ : σ[0]? = some (.loc 0)) : CSF Tryz.prog 63 [.d (SL c 3 Row.enc n g), .agg (p.enc.map .d), .d (I r), .d (I u), .d (I d)] σ (.agg ((decW n g p r u d).enc.map .d)) := by
  have hn := rows_le hr
  obtain ⟨hwk, hway⟩ := way_of hr u
  have hwl := wayG_len hp hn hr u d
  refine CSF.of_body T.en63 Tryz.func63 rfl (by simp [Tryz.ntmps63]) (by simp [go_sem]) fun hwf => ?_
  refine awp_reg_seq fun K hK => ?_
  simp [go_sem, Tryz.ntmps63]
  repeat refine ⟨by omega, ?_⟩
  refine hK _ ?_; clear hK K
  refine awp_reg_seq fun K hK => ?_
  simp [go_sem]
  repeat refine ⟨by omega, ?_⟩
  refine hK _ ?_; clear hK K
  refine awp_thawC (σ.length + 2) 4 5 (fun q => Reason.enc (rsn p r (wayK n g u) (fun i => (g (wayX n g u i)).Unit) d (nth (wayG n g p u d) q))) (by simp [go_sem]; rfl) (by simp [go_sem]) (by simp [go_sem]; rfl) (by simp [go_sem]; rfl) ?_
  refine awp_reg_seq fun K hK => ?_
  simp [go_sem]
  repeat refine ⟨by omega, ?_⟩
  refine CSk.mk (policy_path_cs _ c n g u _ _ hway (by omega) (by omega)) ?_
  simp [go_sem]
  repeat refine ⟨by omega, ?_⟩
  refine hK _ ?_; clear hK K
  refine awp_seq ?_
  refine awp_reg_seq fun K hK => ?_
  simp [go_sem]
  repeat refine ⟨by omega, ?_⟩
  refine CSk.mk (policy_grounds_cs _ c n g p u d hn hp hr (loc_app hσ)) ?_
  simp [go_sem]
  repeat refine ⟨by omega, ?_⟩
  refine hK _ ?_; clear hK K
  refine awp_block ?_
  refine awp_forget [2, 4, 6, 10, 11, 12, 28, 29, 30] (by simp [go_sem, restr]; rfl) ?_
  refine awp_mv [σ.length + 3] (by simp) ?_
  refine awp_loopU (α := Nat) (fun q => [(30, .d (I q))]) (fun q => σ ++ [.var (p.enc.map .d), .var [.d (I 0), .d (I 0), .d (I 0), .d (B false), .d (.v (.slice none 0 0))], .var [.d (I r), .d (I u), .d (I d), .d (B (lifted (fun q => rsn p r (wayK n g u) (fun i => (g (wayX n g u i)).Unit) d (nth (wayG n g p u d) q)) q)), .ms (σ.length + 3) 5 0 q], .arr 5 q (fun q => Reason.enc (rsn p r (wayK n g u) (fun i => (g (wayX n g u i)).Unit) d (nth (wayG n g p u d) q)))]) (fun q => q ≤ (wayG n g p u d).length) (fun q => (wayG n g p u d).length - q) 0 (by simp [go_sem, lifted]) rfl (by simp) ?_
  rintro q hq
  refine awp_reg_seq fun K hK => ?_
  simp [go_sem]
  repeat refine ⟨by omega, ?_⟩
  refine hK _ ?_; clear hK K
  refine awp_seq ?_
  refine awp_forget [2, 4, 6, 10, 11, 12, 28, 29, 30, 31] (by simp only [restr, List.contains_cons, List.contains_nil, Nat.reduceBEq, Bool.or_false, Bool.or_true, Bool.true_or, Bool.false_or, if_true, if_false, Bool.false_eq_true]; rfl) ?_
  refine awp_cond rfl (fun c0 => ?_) (fun c0 => ?_)
  · have d0 := c0; try simp at d0
    refine awp_skip ?_
    refine awp_seq ?_
    refine awp_block ?_
    refine awp_reg_seq fun K hK => ?_
    simp [go_sem, c0, d0]
    repeat refine ⟨by omega, ?_⟩
    refine hK _ ?_; clear hK K
    refine awp_reg_seq fun K hK => ?_
    simp [go_sem, c0, d0]
    repeat refine ⟨by omega, ?_⟩
    refine CSk.mk (permit_First_cs _ none p.nm p.gm r none (wayK n g u) (fun i => (g (wayX n g u i)).Unit) (nth (wayG n g p u d) q).Kind d (by have := hp.nm; omega) (by omega)) ?_
    simp [go_sem, c0, d0]
    repeat refine ⟨by omega, ?_⟩
    refine hK _ ?_; clear hK K
    refine awp_seq ?_
    refine awp_reg_seq fun K hK => ?_
    simp [go_sem, c0, d0]
    repeat refine ⟨by omega, ?_⟩
    refine CSm.mk (agreement_Strict_cs _ none p.na p.ga (nth (wayG n g p u d) q).Source (by have := hp.na; omega)) ?_
    simp [go_sem, c0, d0]
    repeat refine ⟨by omega, ?_⟩
    refine hK _ ?_; clear hK K
    refine awp_forget [2, 4, 6, 10, 11, 12, 14, 15, 28, 29, 30, 58] (by simp only [restr, List.contains_cons, List.contains_nil, Nat.reduceBEq, Bool.or_false, Bool.or_true, Bool.true_or, Bool.false_or, if_true, if_false, Bool.false_eq_true]; rfl) ?_
    refine awp_cond rfl (fun c1 => ?_) (fun c1 => ?_)
    · have d1 := c1; try simp at d1
      have hdec : dec1 p r (wayK n g u) (fun i => (g (wayX n g u i)).Unit) d (nth (wayG n g p u d) q) = 0 := by unfold dec1; rw [if_pos d1]
      have hlf : lifted (fun q => rsn p r (wayK n g u) (fun i => (g (wayX n g u i)).Unit) d (nth (wayG n g p u d) q)) (q + 1) = false := by simp [lifted, rsn, hdec]
      refine awp_reg_end fun K hK => ?_
      simp [go_sem, c0, d0, c1, d1, hlf]
      repeat refine ⟨by omega, ?_⟩
      refine hK _ ?_; clear hK K
      refine awp_reg_seq fun K hK => ?_
      simp [go_sem, c0, d0, c1, d1, hlf, hwf.one, hwf.zero]
      repeat refine ⟨by omega, ?_⟩
      refine hK _ ?_; clear hK K
      refine awp_rows (σ.length + 3) (fun q => Reason.enc (rsn p r (wayK n g u) (fun i => (g (wayX n g u i)).Unit) d (nth (wayG n g p u d) q))) (by simp [go_sem]; first | exact ⟨rfl, rfl, rfl⟩ | exact ⟨rfl, rfl⟩ | rfl) (by intro i hi; refine cat_fn (enc := Reason.enc) (f := (fun q => rsn p r (wayK n g u) (fun i => (g (wayX n g u i)).Unit) d (nth (wayG n g p u d) q))) ?_ hi; simp [rsn, Reason.enc, hdec]) (by simp [go_sem]; rfl) ?_
      refine awp_reg_end fun K hK => ?_
      simp [go_sem, c0, d0, c1, d1, hlf]
      repeat refine ⟨by omega, ?_⟩
      refine hK _ ?_; clear hK K
      refine awp_reg_end fun K hK => ?_
      simp [go_sem, c0, d0, c1, d1, hlf]
      try simp (disch := omega) only [wrapI]
      repeat refine ⟨by omega, ?_⟩
      refine hK _ ?_; clear hK K
      refine ⟨q + 1, back_of' (by simp [go_sem, wrap_succ (i := q) (by omega), c0, d0, c1, d1, hlf]) ((leaves_app (by simp [go_sem]))) (by (simp [go_sem, wrap_succ (i := q) (by omega), c0, d0, c1, d1, hlf] <;> omega)), by omega, by first | omega | (dsimp only; omega)⟩
    · have d1 := c1; try simp at d1
      have hdec : dec1 p r (wayK n g u) (fun i => (g (wayX n g u i)).Unit) d (nth (wayG n g p u d) q) = (firstR p.nm p.gm r (wayK n g u) (fun i => (g (wayX n g u i)).Unit) (nth (wayG n g p u d) q).Kind d).1 := by
        unfold dec1; rw [if_neg]
        rintro (h | ⟨h1, h2⟩)
        · have := d1.1; rw [h] at this; cases this
        · have := d1.2 h1; rw [h2] at this; cases this
      have hlf : lifted (fun q => rsn p r (wayK n g u) (fun i => (g (wayX n g u i)).Unit) d (nth (wayG n g p u d) q)) (q + 1) = (lifted (fun q => rsn p r (wayK n g u) (fun i => (g (wayX n g u i)).Unit) d (nth (wayG n g p u d) q)) q && ((firstR p.nm p.gm r (wayK n g u) (fun i => (g (wayX n g u i)).Unit) (nth (wayG n g p u d) q).Kind d).1 != 0)) := by simp [lifted, rsn, hdec]
      refine awp_skip ?_
      refine awp_reg_seq fun K hK => ?_
      simp [go_sem, c0, d0, c1, d1, hlf, hwf.one, hwf.zero]
      repeat refine ⟨by omega, ?_⟩
      refine hK _ ?_; clear hK K
      refine awp_rows (σ.length + 3) (fun q => Reason.enc (rsn p r (wayK n g u) (fun i => (g (wayX n g u i)).Unit) d (nth (wayG n g p u d) q))) (by simp [go_sem]; first | exact ⟨rfl, rfl, rfl⟩ | exact ⟨rfl, rfl⟩ | rfl) (by intro i hi; refine cat_fn (enc := Reason.enc) (f := (fun q => rsn p r (wayK n g u) (fun i => (g (wayX n g u i)).Unit) d (nth (wayG n g p u d) q))) ?_ hi; simp [rsn, Reason.enc, hdec]) (by simp [go_sem]; rfl) ?_
      refine awp_reg_end fun K hK => ?_
      simp [go_sem, c0, d0, c1, d1, hlf]
      repeat refine ⟨by omega, ?_⟩
      refine hK _ ?_; clear hK K
      refine awp_reg_end fun K hK => ?_
      simp [go_sem, c0, d0, c1, d1, hlf]
      try simp (disch := omega) only [wrapI]
      repeat refine ⟨by omega, ?_⟩
      refine hK _ ?_; clear hK K
      refine ⟨q + 1, back_of' (by simp [go_sem, wrap_succ (i := q) (by omega), c0, d0, c1, d1, hlf]) ((leaves_app (by simp [go_sem]))) (by (simp [go_sem, wrap_succ (i := q) (by omega), c0, d0, c1, d1, hlf] <;> omega)), by omega, by first | omega | (dsimp only; omega)⟩
  · have d0 := c0; try simp at d0
    obtain rfl : q = (wayG n g p u d).length := by omega
    refine awp_exit ?_
    refine awp_reg_seq fun K hK => ?_
    simp [go_sem, c0, d0]
    repeat refine ⟨by omega, ?_⟩
    refine hK _ ?_; clear hK K
    refine awp_freeze (σ.length + 3) (by simp [go_sem]; first | exact ⟨rfl, rfl, rfl⟩ | exact ⟨rfl, rfl⟩ | rfl) (by simp [go_sem]; rfl) (by simp [go_sem, hwf.frz, hwf.frz0]; rfl) ?_
    refine awp_ret ?_
    simp [go_sem, Tryz.results63, decW, decR]
end Go.Proofs.YtkochmppmpmddaaGreat
