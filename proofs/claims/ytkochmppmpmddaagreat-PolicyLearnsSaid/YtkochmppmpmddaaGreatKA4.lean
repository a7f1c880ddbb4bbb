/- Contracts and lemmas (Ca, Cb, Cc, Cd, Ce, Cf, Cg, Ch, Ci, St, Pn, Su, Da, Db), joined out of smaller texts by a program; no conditions. -/
import Derived.Test.YtkochmppmpmddaaGreatKA3
import Derived.Shelf.SlGeneric
import Derived.Shelf.Strings.Search3
import Derived.Shelf.GgClosure.StringsRunes
import Derived.Ground.NamesProg
import Derived.Ground.GgwProg
import Derived.Test.YtkochmppmpmddaaGreatProg
import Derived.Laws.RangeString
import Derived.Laws.RangeAny
import Derived.Shelf.GgClosure.StringsIndexFunc
import Derived.Lib.IndexMore
import Derived.Test.YtkochmppmpmddaaGreatKA2
/-! Ca -/
namespace Go.Proofs.YtkochmppmpmddaaGreat
open Go.Abs Go.Arch
set_option linter.unusedVariables false
set_option linter.unusedSimpArgs false
set_option maxRecDepth 100000
set_option maxHeartbeats 400000

structure Agr where
  ID : Int
  Accession : Int
  Until : Int
  Strict : Bool
  In : Span
instance : Inhabited Agr := ⟨⟨0, 0, 0, false, ⟨0, 0⟩⟩⟩
def Agr.enc (r : Agr) : List D := [I r.ID, I r.Accession, I r.Until, B r.Strict, I r.In.From, I r.In.Until]
instance : Inhabited Ground := ⟨⟨0, 0, 0, 0⟩⟩
attribute [go_sem] Agr.enc
/-- the first error of a list -/
def firstE (e : Nat → Int) (i : Nat) : Nat → Int
  | 0 => 0
  | k + 1 => if e i ≠ 0 then e i else firstE e (i + 1) k
theorem firstE_zero {e : Nat → Int} : ∀ {k i : Nat}, firstE e i k = 0 → ∀ q, i ≤ q → q < i + k → e q = 0
  | 0, i, _, q, h1, h2 => by omega
  | k + 1, i, h, q, h1, h2 => by
    rw [firstE] at h
    by_cases he : e i = 0
    · rw [if_neg (by simp [he])] at h
      by_cases hq : q = i
      · rw [hq]; exact he
      · exact firstE_zero h q (by omega) (by omega)
    · rw [if_pos he] at h; exact absurd h he
theorem firstE_of {e : Nat → Int} : ∀ {k i : Nat}, (∀ q, i ≤ q → q < i + k → e q = 0) → firstE e i k = 0
  | 0, i, _ => rfl
  | k + 1, i, h => by
    rw [firstE, if_neg (by simp [h i (by omega) (by omega)])]
    exact firstE_of fun q h1 h2 => h q (by omega) (by omega)
def agrOk (a : Agr) : Bool := decide (1 ≤ a.ID) && decide (a.ID ≤ 1073741824) && decide (1 ≤ a.Accession) && decide (a.Accession ≤ 1073741824) && decide (0 ≤ a.Until) && decide (a.Until ≤ 1048576) && spanOk a.In
def agrE (g : Nat → Agr) (i : Nat) : Int := if agrOk (g i) = false then 2 else if 0 < i ∧ (g i).ID ≤ (g (i - 1)).ID then 5 else 0
def agrChk (n : Nat) (g : Nat → Agr) : Int := if 64 < n then 8 else firstE (agrE g) 0 n


theorem agreement_formed_cs (σ : List Blk) (a : Agr) : CSF Tryz.prog 82 [.agg (a.enc.map .d)] σ (.d (B (agrOk a))) := by
  refine CSF.of_body T.en82 Tryz.func82 rfl (by simp [Tryz.ntmps82]) (by simp [go_sem]) fun hwf => ?_
  refine awp_reg_seq fun K hK => ?_
  simp [go_sem, Tryz.ntmps82]
  repeat refine ⟨by omega, ?_⟩
  refine hK _ ?_; clear hK K
  refine awp_reg_seq fun K hK => ?_
  simp [go_sem]
  repeat refine ⟨by omega, ?_⟩
  refine hK _ ?_; clear hK K
  refine awp_ret ?_
  simp [go_sem, Tryz.results82, agrOk, spanOk, Bool.and_assoc] <;> omega

theorem ref33_Form_cs (σ : List Blk) (a : Agr) : CSF Tryz.prog 90 [.agg (a.enc.map .d)] σ (.d (B (agrOk a))) := by
  refine CSF.of_body T.en90 Tryz.func90 rfl (by simp [Tryz.ntmps90]) (by simp [go_sem]) fun hwf => ?_
  refine awp_reg_seq fun K hK => ?_
  simp [go_sem, Tryz.ntmps90]
  repeat refine ⟨by omega, ?_⟩
  refine hK _ ?_; clear hK K
  refine awp_reg_seq fun K hK => ?_
  simp [go_sem]
  repeat refine ⟨by omega, ?_⟩
  refine CSm.mk (ref31_Spanned_cs _ a.In) ?_
  simp [go_sem]
  repeat refine ⟨by omega, ?_⟩
  refine hK _ ?_; clear hK K
  refine awp_ret ?_
  simp [go_sem, Tryz.results90, agrOk] <;> omega

theorem agreement_Check_cs (σ : List Blk) (c : Option Nat) (n : Nat) (g : Nat → Agr) (hn : n < 1000000000) : CSF Tryz.prog 49 [.d (SL c 6 Agr.enc n g)] σ (.d (I (agrChk n g))) := by
  refine CSF.of_body T.en49 Tryz.func49 rfl (by simp [Tryz.ntmps49]) (by simp [go_sem]) fun hwf => ?_
  refine awp_reg_seq fun K hK => ?_
  simp [go_sem, Tryz.ntmps49]
  repeat refine ⟨by omega, ?_⟩
  refine hK _ ?_; clear hK K
  refine awp_seq ?_
  refine awp_reg_seq fun K hK => ?_
  simp [go_sem]
  repeat refine ⟨by omega, ?_⟩
  refine hK _ ?_; clear hK K
  refine awp_forget [0, 7] (by simp only [restr, List.contains_cons, List.contains_nil, Nat.reduceBEq, Bool.or_false, Bool.or_true, Bool.true_or, Bool.false_or, if_true, if_false, Bool.false_eq_true]; rfl) ?_
  refine awp_cond rfl (fun c0 => ?_) (fun c0 => ?_)
  · have d0 := c0; try simp at d0
    refine awp_reg_seq fun K hK => ?_
    simp [go_sem, c0, d0]
    repeat refine ⟨by omega, ?_⟩
    refine hK _ ?_; clear hK K
    refine awp_ret ?_
    simp [go_sem, Tryz.results49, agrChk, c0, d0] <;> omega
  · have d0 := c0; try simp at d0
    refine awp_skip ?_
    refine awp_seq ?_
    refine awp_reg_seq fun K hK => ?_
    simp [go_sem, c0, d0]
    repeat refine ⟨by omega, ?_⟩
    refine hK _ ?_; clear hK K
    refine awp_block ?_
    refine awp_forget [0, 8, 9, 10] (by simp [go_sem, restr]; rfl) ?_
    refine awp_loopU (α := Nat) (fun i => [(10, .d (I i))]) (fun i => _) (fun i => i ≤ n ∧ firstE (agrE g) 0 n = firstE (agrE g) i (n - i)) (fun i => n - i) 0 (by simp [go_sem]) rfl (by simp) ?_
    rintro i ⟨hi, hx⟩
    refine awp_reg_seq fun K hK => ?_
    simp [go_sem, c0, d0, hi, wrap_pred (i := i) (by omega)]
    repeat refine ⟨by omega, ?_⟩
    refine hK _ ?_; clear hK K
    refine awp_seq ?_
    refine awp_forget [0, 8, 9, 10, 11] (by simp only [restr, List.contains_cons, List.contains_nil, Nat.reduceBEq, Bool.or_false, Bool.or_true, Bool.true_or, Bool.false_or, if_true, if_false, Bool.false_eq_true]; rfl) ?_
    refine awp_cond rfl (fun c1 => ?_) (fun c1 => ?_)
    · have d1 := c1; try simp at d1
      obtain ⟨k, hk⟩ : ∃ k, n - i = k + 1 := ⟨n - i - 1, by omega⟩
      have hk' : n - (i + 1) = k := by omega
      rw [hk, firstE] at hx
      refine awp_skip ?_
      refine awp_seq ?_
      refine awp_block ?_
      refine awp_reg_seq fun K hK => ?_
      simp [go_sem, c0, d0, hi, wrap_pred (i := i) (by omega), c1, d1]
      repeat refine ⟨by omega, ?_⟩
      refine hK _ ?_; clear hK K
      refine awp_block ?_
      refine awp_reg_seq fun K hK => ?_
      simp [go_sem, c0, d0, hi, wrap_pred (i := i) (by omega), c1, d1]
      repeat refine ⟨by omega, ?_⟩
      refine CSk.mk (agreement_formed_cs _ _) ?_
      simp [go_sem, c0, d0, hi, wrap_pred (i := i) (by omega), c1, d1]
      repeat refine ⟨by omega, ?_⟩
      refine hK _ ?_; clear hK K
      refine awp_forget [0, 3, 4, 8, 9, 10, 15] (by simp only [restr, List.contains_cons, List.contains_nil, Nat.reduceBEq, Bool.or_false, Bool.or_true, Bool.true_or, Bool.false_or, if_true, if_false, Bool.false_eq_true]; rfl) ?_
      refine awp_cond rfl (fun c2 => ?_) (fun c2 => ?_)
      · have d2 := c2; try simp at d2
        have he : agrE g i = 2 := by unfold agrE; rw [if_pos d2]
        rw [he] at hx; simp at hx
        refine awp_reg_seq fun K hK => ?_
        simp [go_sem, c0, d0, hi, wrap_pred (i := i) (by omega), c1, d1, c2, d2]
        repeat refine ⟨by omega, ?_⟩
        refine hK _ ?_; clear hK K
        refine awp_ret ?_
        simp [go_sem, Tryz.results49, agrChk, hx, c0, d0, hi, wrap_pred (i := i) (by omega), c1, d1, c2, d2] <;> omega
      · have d2 := c2; try simp at d2
        refine awp_draw_seq 14 T.mixed (by kernel_rfl) fun K hK => ?_
        simp [go_sem, c0, d0, hi, wrap_pred (i := i) (by omega), c1, d1, c2, d2]
        try simp (disch := omega) only [wrapI]
        repeat refine ⟨by omega, ?_⟩
        refine hK _ ?_; clear hK K
        refine awp_forget [0, 8, 9, 10, 19] (by simp only [restr, List.contains_cons, List.contains_nil, Nat.reduceBEq, Bool.or_false, Bool.or_true, Bool.true_or, Bool.false_or, if_true, if_false, Bool.false_eq_true]; rfl) ?_
        refine awp_cond rfl (fun c3 => ?_) (fun c3 => ?_)
        · have d3 := c3; try simp at d3
          have he : agrE g i = 5 := by unfold agrE; rw [if_neg (by simp [d2]), if_pos d3]
          rw [he] at hx; simp at hx
          refine awp_reg_seq fun K hK => ?_
          simp [go_sem, c0, d0, hi, wrap_pred (i := i) (by omega), c1, d1, c2, d2, c3, d3]
          repeat refine ⟨by omega, ?_⟩
          refine hK _ ?_; clear hK K
          refine awp_ret ?_
          simp [go_sem, Tryz.results49, agrChk, hx, c0, d0, hi, wrap_pred (i := i) (by omega), c1, d1, c2, d2, c3, d3] <;> omega
        · have d3 := c3; try simp at d3
          have he : agrE g i = 0 := by unfold agrE; rw [if_neg (by simp [d2]), if_neg (by omega)]
          rw [he] at hx; simp at hx
          refine awp_skip ?_
          refine awp_reg_end fun K hK => ?_
          simp [go_sem, c0, d0, hi, wrap_pred (i := i) (by omega), c1, d1, c2, d2, c3, d3]
          try simp (disch := omega) only [wrapI]
          repeat refine ⟨by omega, ?_⟩
          refine hK _ ?_; clear hK K
          refine ⟨i + 1, back_of' (by simp) (.refl _) (by (simp [go_sem, wrap_succ (i := i) (by omega), c0, d0, hi, wrap_pred (i := i) (by omega), c1, d1, c2, d2, c3, d3] <;> omega)), ⟨by omega, by rw [hx, hk']⟩, by first | omega | (dsimp only; omega)⟩
    · have d1 := c1; try simp at d1
      obtain rfl : i = n := by omega
      rw [Nat.sub_self, firstE] at hx
      refine awp_exit ?_
      refine awp_reg_seq fun K hK => ?_
      simp [go_sem, c0, d0, hi, wrap_pred (i := i) (by omega), c1, d1]
      repeat refine ⟨by omega, ?_⟩
      refine hK _ ?_; clear hK K
      refine awp_ret ?_
      simp [go_sem, Tryz.results49, agrChk, hx, c0, d0, hi, wrap_pred (i := i) (by omega), c1, d1] <;> omega

theorem ref33_Few_cs (σ : List Blk) (c : Option Nat) (n : Nat) (g : Nat → Agr) : CSF Tryz.prog 40 [.d (SL c 6 Agr.enc n g)] σ (.d (B (decide ((n : Int) ≤ 20)))) := by
  refine CSF.of_body T.en40 Tryz.func40 rfl (by simp [Tryz.ntmps40]) (by simp [go_sem]) fun hwf => ?_
  refine awp_reg_seq fun K hK => ?_
  simp [go_sem, Tryz.ntmps40]
  repeat refine ⟨by omega, ?_⟩
  refine hK _ ?_; clear hK K
  refine awp_reg_seq fun K hK => ?_
  simp [go_sem]
  repeat refine ⟨by omega, ?_⟩
  refine hK _ ?_; clear hK K
  refine awp_ret ?_
  simp [go_sem, Tryz.results40] <;> omega

theorem ref33_Check_cs (σ : List Blk) (c : Option Nat) (n : Nat) (g : Nat → Agr) (hn : n < 1000000000) : CSF Tryz.prog 59 [.d (SL c 6 Agr.enc n g)] σ (.d (I (agrChk n g))) := by
  refine CSF.of_body T.en59 Tryz.func59 rfl (by simp [Tryz.ntmps59]) (by simp [go_sem]) fun hwf => ?_
  refine awp_reg_seq fun K hK => ?_
  simp [go_sem, Tryz.ntmps59]
  repeat refine ⟨by omega, ?_⟩
  refine hK _ ?_; clear hK K
  refine awp_seq ?_
  refine awp_reg_seq fun K hK => ?_
  simp [go_sem]
  repeat refine ⟨by omega, ?_⟩
  refine hK _ ?_; clear hK K
  refine awp_forget [0, 7] (by simp only [restr, List.contains_cons, List.contains_nil, Nat.reduceBEq, Bool.or_false, Bool.or_true, Bool.true_or, Bool.false_or, if_true, if_false, Bool.false_eq_true]; rfl) ?_
  refine awp_cond rfl (fun c0 => ?_) (fun c0 => ?_)
  · have d0 := c0; try simp at d0
    refine awp_reg_seq fun K hK => ?_
    simp [go_sem, c0, d0]
    repeat refine ⟨by omega, ?_⟩
    refine hK _ ?_; clear hK K
    refine awp_ret ?_
    simp [go_sem, Tryz.results59, agrChk, c0, d0] <;> omega
  · have d0 := c0; try simp at d0
    refine awp_skip ?_
    refine awp_seq ?_
    refine awp_reg_seq fun K hK => ?_
    simp [go_sem, c0, d0]
    repeat refine ⟨by omega, ?_⟩
    refine hK _ ?_; clear hK K
    refine awp_block ?_
    refine awp_forget [0, 8, 9, 10] (by simp [go_sem, restr]; rfl) ?_
    refine awp_loopU (α := Nat) (fun i => [(10, .d (I i))]) (fun i => _) (fun i => i ≤ n ∧ firstE (agrE g) 0 n = firstE (agrE g) i (n - i)) (fun i => n - i) 0 (by simp [go_sem]) rfl (by simp) ?_
    rintro i ⟨hi, hx⟩
    refine awp_reg_seq fun K hK => ?_
    simp [go_sem, c0, d0, hi, wrap_pred (i := i) (by omega)]
    repeat refine ⟨by omega, ?_⟩
    refine hK _ ?_; clear hK K
    refine awp_seq ?_
    refine awp_forget [0, 8, 9, 10, 11] (by simp only [restr, List.contains_cons, List.contains_nil, Nat.reduceBEq, Bool.or_false, Bool.or_true, Bool.true_or, Bool.false_or, if_true, if_false, Bool.false_eq_true]; rfl) ?_
    refine awp_cond rfl (fun c1 => ?_) (fun c1 => ?_)
    · have d1 := c1; try simp at d1
      obtain ⟨k, hk⟩ : ∃ k, n - i = k + 1 := ⟨n - i - 1, by omega⟩
      have hk' : n - (i + 1) = k := by omega
      rw [hk, firstE] at hx
      refine awp_skip ?_
      refine awp_seq ?_
      refine awp_block ?_
      refine awp_reg_seq fun K hK => ?_
      simp [go_sem, c0, d0, hi, wrap_pred (i := i) (by omega), c1, d1]
      repeat refine ⟨by omega, ?_⟩
      refine hK _ ?_; clear hK K
      refine awp_seq ?_
      refine awp_reg_seq fun K hK => ?_
      simp [go_sem, c0, d0, hi, wrap_pred (i := i) (by omega), c1, d1]
      repeat refine ⟨by omega, ?_⟩
      refine CSk.mk (ref33_Form_cs _ _) ?_
      simp [go_sem, c0, d0, hi, wrap_pred (i := i) (by omega), c1, d1]
      repeat refine ⟨by omega, ?_⟩
      refine hK _ ?_; clear hK K
      refine awp_forget [0, 3, 4, 8, 9, 10, 17] (by simp only [restr, List.contains_cons, List.contains_nil, Nat.reduceBEq, Bool.or_false, Bool.or_true, Bool.true_or, Bool.false_or, if_true, if_false, Bool.false_eq_true]; rfl) ?_
      refine awp_cond rfl (fun c2 => ?_) (fun c2 => ?_)
      · have d2 := c2; try simp at d2
        have he : agrE g i = 2 := by unfold agrE; rw [if_pos d2]
        rw [he] at hx; simp at hx
        refine awp_reg_seq fun K hK => ?_
        simp [go_sem, c0, d0, hi, wrap_pred (i := i) (by omega), c1, d1, c2, d2]
        repeat refine ⟨by omega, ?_⟩
        refine hK _ ?_; clear hK K
        refine awp_ret ?_
        simp [go_sem, Tryz.results59, agrChk, hx, c0, d0, hi, wrap_pred (i := i) (by omega), c1, d1, c2, d2] <;> omega
      · have d2 := c2; try simp at d2
        refine awp_skip ?_
        refine awp_draw_seq 13 T.mixed (by kernel_rfl) fun K hK => ?_
        simp [go_sem, c0, d0, hi, wrap_pred (i := i) (by omega), c1, d1, c2, d2]
        try simp (disch := omega) only [wrapI]
        repeat refine ⟨by omega, ?_⟩
        refine hK _ ?_; clear hK K
        refine awp_forget [0, 8, 9, 10, 30] (by simp only [restr, List.contains_cons, List.contains_nil, Nat.reduceBEq, Bool.or_false, Bool.or_true, Bool.true_or, Bool.false_or, if_true, if_false, Bool.false_eq_true]; rfl) ?_
        refine awp_cond rfl (fun c3 => ?_) (fun c3 => ?_)
        · have d3 := c3; try simp at d3
          have he : agrE g i = 5 := by unfold agrE; rw [if_neg (by simp [d2]), if_pos d3]
          rw [he] at hx; simp at hx
          refine awp_reg_seq fun K hK => ?_
          simp [go_sem, c0, d0, hi, wrap_pred (i := i) (by omega), c1, d1, c2, d2, c3, d3]
          repeat refine ⟨by omega, ?_⟩
          refine hK _ ?_; clear hK K
          refine awp_ret ?_
          simp [go_sem, Tryz.results59, agrChk, hx, c0, d0, hi, wrap_pred (i := i) (by omega), c1, d1, c2, d2, c3, d3] <;> omega
        · have d3 := c3; try simp at d3
          have he : agrE g i = 0 := by unfold agrE; rw [if_neg (by simp [d2]), if_neg (by omega)]
          rw [he] at hx; simp at hx
          refine awp_skip ?_
          refine awp_reg_end fun K hK => ?_
          simp [go_sem, c0, d0, hi, wrap_pred (i := i) (by omega), c1, d1, c2, d2, c3, d3]
          try simp (disch := omega) only [wrapI]
          repeat refine ⟨by omega, ?_⟩
          refine hK _ ?_; clear hK K
          refine ⟨i + 1, back_of' (by simp) (.refl _) (by (simp [go_sem, wrap_succ (i := i) (by omega), c0, d0, hi, wrap_pred (i := i) (by omega), c1, d1, c2, d2, c3, d3] <;> omega)), ⟨by omega, by rw [hx, hk']⟩, by first | omega | (dsimp only; omega)⟩
    · have d1 := c1; try simp at d1
      obtain rfl : i = n := by omega
      rw [Nat.sub_self, firstE] at hx
      refine awp_exit ?_
      refine awp_reg_seq fun K hK => ?_
      simp [go_sem, c0, d0, hi, wrap_pred (i := i) (by omega), c1, d1]
      repeat refine ⟨by omega, ?_⟩
      refine hK _ ?_; clear hK K
      refine awp_ret ?_
      simp [go_sem, Tryz.results59, agrChk, hx, c0, d0, hi, wrap_pred (i := i) (by omega), c1, d1] <;> omega

def agrCl (a : Agr) (k d : Int) : Bool := agrOk a && (a.Accession == k) && decide (a.In.From ≤ d) && decide (d < a.In.Until) && decide (d < a.Until)
theorem agreement_Closes_cs (σ : List Blk) (a : Agr) (k d : Int) : CSF Tryz.prog 142 [.agg (a.enc.map .d), .d (I k), .d (I d)] σ (.d (B (agrCl a k d))) := by
  refine CSF.of_body T.en142 Tryz.func142 rfl (by simp [Tryz.ntmps142]) (by simp [go_sem]) fun hwf => ?_
  refine awp_reg_seq fun K hK => ?_
  simp [go_sem, Tryz.ntmps142]
  repeat refine ⟨by omega, ?_⟩
  refine hK _ ?_; clear hK K
  refine awp_reg_seq fun K hK => ?_
  simp [go_sem]
  repeat refine ⟨by omega, ?_⟩
  refine CSk.mk (agreement_formed_cs _ a) ?_
  simp [go_sem]
  repeat refine ⟨by omega, ?_⟩
  refine hK _ ?_; clear hK K
  refine awp_ret ?_
  simp [go_sem, Tryz.results142, agrCl] <;> omega

theorem ref33_Closes_cs (σ : List Blk) (a : Agr) (k d : Int) : CSF Tryz.prog 131 [.agg (a.enc.map .d), .d (I k), .d (I d)] σ (.d (B (agrCl a k d))) := by
  refine CSF.of_body T.en131 Tryz.func131 rfl (by simp [Tryz.ntmps131]) (by simp [go_sem]) fun hwf => ?_
  refine awp_reg_seq fun K hK => ?_
  simp [go_sem, Tryz.ntmps131]
  repeat refine ⟨by omega, ?_⟩
  refine hK _ ?_; clear hK K
  refine awp_reg_seq fun K hK => ?_
  simp [go_sem]
  repeat refine ⟨by omega, ?_⟩
  refine CSk.mk (ref33_Form_cs _ a) ?_
  simp [go_sem]
  repeat refine ⟨by omega, ?_⟩
  refine hK _ ?_; clear hK K
  refine awp_ret ?_
  simp [go_sem, Tryz.results131, agrCl] <;> omega

theorem agreement_ends_cs (σ : List Blk) (a : Agr) : CSF Tryz.prog 141 [.agg (a.enc.map .d)] σ (.d (I (min a.Until a.In.Until))) := by
  refine CSF.of_body T.en141 Tryz.func141 rfl (by simp [Tryz.ntmps141]) (by simp [go_sem]) fun hwf => ?_
  refine awp_reg_seq fun K hK => ?_
  simp [go_sem, Tryz.ntmps141]
  repeat refine ⟨by omega, ?_⟩
  refine hK _ ?_; clear hK K
  refine awp_reg_seq fun K hK => ?_
  simp [go_sem]
  repeat refine ⟨by omega, ?_⟩
  refine hK _ ?_; clear hK K
  refine awp_ret ?_
  simp [go_sem, Tryz.results141] <;> omega

end Go.Proofs.YtkochmppmpmddaaGreat

/-! Cb -/
namespace Go.Proofs.YtkochmppmpmddaaGreat
open Go.Abs Go.Arch
set_option linter.unusedVariables false
set_option linter.unusedSimpArgs false
set_option maxRecDepth 100000
set_option maxHeartbeats 400000

/-- what is gathered behind some rounds -/
def gather {β : Type} (f : Nat → List β) : Nat → List β
  | 0 => []
  | i + 1 => gather f i ++ f i
theorem gather_len {β : Type} {f : Nat → List β} (h : ∀ i, (f i).length ≤ 1) : ∀ i, (gather f i).length ≤ i
  | 0 => by simp [gather]
  | i + 1 => by have := gather_len h i; have := h i; simp only [gather, List.length_append]; omega
def agrGd (a : Agr) : Ground := ⟨3, a.ID, 0, min a.Until a.In.Until⟩
def agrGf (g : Nat → Agr) (k d : Int) (i : Nat) : List Ground := if agrCl (g i) k d = true then [agrGd (g i)] else []
theorem agrGf_len (g : Nat → Agr) (k d : Int) (i : Nat) : (agrGf g k d i).length ≤ 1 := by unfold agrGf; split <;> simp
def agrGr (n : Nat) (g : Nat → Agr) (k d : Int) : List Ground := if agrChk n g ≠ 0 then [] else gather (agrGf g k d) n
theorem agr_ids {n : Nat} {g : Nat → Agr} (h0 : agrChk n g = 0) : n ≤ 64 ∧ ∀ i, i < n → agrOk (g i) = true ∧ ∀ j, j < i → (g j).ID < (g i).ID := by
  unfold agrChk at h0
  split at h0
  · omega
  · rename_i hn
    refine ⟨by omega, ?_⟩
    have he : ∀ i, i < n → agrOk (g i) = true ∧ (0 < i → (g (i - 1)).ID < (g i).ID) := fun i hi => by
      have := firstE_zero h0 i (by omega) (by omega)
      unfold agrE at this
      split at this
      · omega
      · rename_i h1
        split at this
        · omega
        · exact ⟨by simpa using h1, fun hp => by omega⟩
    intro i
    induction i with
    | zero => intro hi; exact ⟨(he 0 hi).1, fun j hj => by omega⟩
    | succ i ih =>
      intro hi
      refine ⟨(he _ hi).1, fun j hj => ?_⟩
      have h1 := (he (i + 1) hi).2 (by omega)
      simp only [Nat.add_sub_cancel] at h1
      rcases Nat.lt_or_eq_of_le (Nat.le_of_lt_succ hj) with h | h
      · have := (ih (by omega)).2 j h; omega
      · rw [h]; exact h1
def strP (k : Int) (a : Agr) : Bool := (a.ID == k) && a.Strict
def agrStr (n : Nat) (g : Nat → Agr) (k : Int) : Bool := decide (agrChk n g = 0) && (lst n g).any (strP k)
theorem str_at {n : Nat} {g : Nat → Agr} (h0 : agrChk n g = 0) {i : Nat} (hi : i < n) {k : Int} (hk : (g i).ID = k) : agrStr n g k = (g i).Strict := by
  unfold agrStr
  rw [h0]
  simp only [decide_true, Bool.true_and]
  rw [Bool.eq_iff_iff, List.any_eq_true]
  simp only [lst, List.mem_map, List.mem_range, strP, Bool.and_eq_true, beq_iff_eq]
  constructor
  · rintro ⟨a, ⟨j, hj, rfl⟩, h1, h2⟩
    have : j = i := by
      rcases Nat.lt_trichotomy j i with h | h | h
      · have := ((agr_ids h0).2 i hi).2 j h; omega
      · exact h
      · have := ((agr_ids h0).2 j hj).2 i h; omega
    rw [← this]; exact h2
  · intro h; exact ⟨g i, ⟨i, hi, rfl⟩, hk, h⟩
theorem str_no {n : Nat} {g : Nat → Agr} {k : Int} (h : ∀ i, i < n → (g i).ID ≠ k) : agrStr n g k = false := by
  unfold agrStr
  rw [Bool.and_eq_false_iff]
  right
  rw [List.any_eq_false]
  intro a ha
  simp only [lst, List.mem_map, List.mem_range] at ha
  obtain ⟨i, hi, rfl⟩ := ha
  simp [strP, h i hi]
def stepF (g : Nat → Agr) (k d : Int) : Nat → Int
  | 0 => d
  | i + 1 => if agrCl (g i) k d = true then max (stepF g k d i) (min (g i).Until (g i).In.Until) else stepF g k d i
theorem stepF_ge (g : Nat → Agr) (k d : Int) : ∀ i, d ≤ stepF g k d i
  | 0 => Int.le_refl _
  | i + 1 => by have := stepF_ge g k d i; rw [stepF]; split <;> omega
theorem agrOk_iff {a : Agr} : agrOk a = true ↔ 1 ≤ a.ID ∧ a.ID ≤ 1073741824 ∧ 1 ≤ a.Accession ∧ a.Accession ≤ 1073741824 ∧ 0 ≤ a.Until ∧ a.Until ≤ 1048576 ∧ 0 ≤ a.In.From ∧ a.In.From < a.In.Until ∧ a.In.Until ≤ 1048576 := by
  unfold agrOk spanOk; simp; omega
theorem agrCl_ok {a : Agr} {k d : Int} (h : agrCl a k d = true) : agrOk a = true := by unfold agrCl at h; simp at h; exact h.1.1.1.1
theorem stepF_le (g : Nat → Agr) (k d : Int) (hd : d ≤ 1048576) : ∀ i, stepF g k d i ≤ 1048576
  | 0 => hd
  | i + 1 => by
    have := stepF_le g k d hd i
    rw [stepF]
    split
    · rename_i h; have := agrOk_iff.1 (agrCl_ok h); omega
    · exact this
def opA (n : Nat) (g : Nat → Agr) (k d : Int) : Int := if h : d < stepF g k d n ∧ stepF g k d n ≤ 1048576 then opA n g k (stepF g k d n) else d
termination_by (1048576 - d).toNat
decreasing_by omega


theorem indexAgr_cs (σ : List Blk) (c : Option Nat) (n : Nat) (g : Nat → Agr) (f : FuncId) (cap : List AV) (p : Agr → Bool) (hn : n < 1000000000) (hf : ∀ i, i < n → CSF Tryz.prog f (.agg ((g i).enc.map .d) :: cap) σ (.d (B (p (g i))))) : CSF Tryz.prog 150 [.d (SL c 6 Agr.enc n g), .clo (.func f) [] cap] σ (.d (I (idxFrom p (lst n g) 0))) := by
  refine CSF.of_body T.en150 Tryz.func150 rfl (by simp [Tryz.ntmps150]) (by simp [go_sem]) fun hwf => ?_
  refine awp_reg_seq fun K hK => ?_
  simp [go_sem, Tryz.ntmps150]
  repeat refine ⟨by omega, ?_⟩
  refine hK _ ?_; clear hK K
  refine awp_seq ?_
  refine awp_reg_seq fun K hK => ?_
  simp [go_sem]
  repeat refine ⟨by omega, ?_⟩
  refine hK _ ?_; clear hK K
  refine awp_block ?_
  refine awp_forget [0, 1, 7, 8] (by simp [go_sem, restr]; rfl) ?_
  refine awp_loopU (α := Nat) (fun i => [(8, .d (I i))]) (fun i => _) (fun i => i ≤ n ∧ idxFrom p (lst n g) 0 = idxFrom p ((lst n g).drop i) i) (fun i => n - i) 0 (by simp [go_sem]) rfl (by simp) ?_
  rintro i ⟨hi, hx⟩
  refine awp_reg_seq fun K hK => ?_
  simp [go_sem]
  repeat refine ⟨by omega, ?_⟩
  refine hK _ ?_; clear hK K
  refine awp_seq ?_
  refine awp_forget [0, 1, 7, 8, 9] (by simp only [restr, List.contains_cons, List.contains_nil, Nat.reduceBEq, Bool.or_false, Bool.or_true, Bool.true_or, Bool.false_or, if_true, if_false, Bool.false_eq_true]; rfl) ?_
  refine awp_cond rfl (fun c0 => ?_) (fun c0 => ?_)
  · have d0 := c0; try simp at d0
    rw [drop_lst d0, idxFrom] at hx
    refine awp_skip ?_
    refine awp_seq ?_
    refine awp_block ?_
    refine awp_reg_seq fun K hK => ?_
    simp [go_sem, c0, d0]
    repeat refine ⟨by omega, ?_⟩
    refine hK _ ?_; clear hK K
    refine awp_reg_seq fun K hK => ?_
    simp [go_sem, c0, d0]
    repeat refine ⟨by omega, ?_⟩
    refine CSk.mk (hf i d0) ?_
    simp [go_sem, c0, d0]
    repeat refine ⟨by omega, ?_⟩
    refine hK _ ?_; clear hK K
    refine awp_forget [0, 1, 5, 7, 8, 16] (by simp only [restr, List.contains_cons, List.contains_nil, Nat.reduceBEq, Bool.or_false, Bool.or_true, Bool.true_or, Bool.false_or, if_true, if_false, Bool.false_eq_true]; rfl) ?_
    refine awp_cond rfl (fun c1 => ?_) (fun c1 => ?_)
    · have d1 := c1; try simp at d1
      refine awp_reg_seq fun K hK => ?_
      simp [go_sem, c0, d0, c1, d1]
      repeat refine ⟨by omega, ?_⟩
      refine hK _ ?_; clear hK K
      refine awp_ret ?_
      simp [go_sem, Tryz.results150, hx, c0, d0, c1, d1] <;> omega
    · have d1 := c1; try simp at d1
      refine awp_skip ?_
      refine awp_reg_end fun K hK => ?_
      simp [go_sem, c0, d0, c1, d1]
      try simp (disch := omega) only [wrapI]
      repeat refine ⟨by omega, ?_⟩
      refine hK _ ?_; clear hK K
      refine ⟨i + 1, back_of' (by simp) (.refl _) (by (simp [go_sem, wrap_succ (i := i) (by omega), c0, d0, c1, d1] <;> omega)), ⟨by omega, by rw [hx, c1]; simp⟩, by first | omega | (dsimp only; omega)⟩
  · have d0 := c0; try simp at d0
    rw [drop_all d0, idxFrom] at hx
    refine awp_exit ?_
    refine awp_reg_seq fun K hK => ?_
    simp [go_sem, c0, d0]
    repeat refine ⟨by omega, ?_⟩
    refine hK _ ?_; clear hK K
    refine awp_ret ?_
    simp [go_sem, Tryz.results150, hx, c0, d0] <;> omega

theorem containsAgr_cs (σ : List Blk) (c : Option Nat) (n : Nat) (g : Nat → Agr) (f : FuncId) (cap : List AV) (p : Agr → Bool) (hn : n < 1000000000) (hf : ∀ i, i < n → CSF Tryz.prog f (.agg ((g i).enc.map .d) :: cap) σ (.d (B (p (g i))))) : CSF Tryz.prog 126 [.d (SL c 6 Agr.enc n g), .clo (.func f) [] cap] σ (.d (B ((lst n g).any p))) := by
  refine CSF.of_body T.en126 Tryz.func126 rfl (by simp [Tryz.ntmps126]) (by simp [go_sem]) fun hwf => ?_
  refine awp_reg_seq fun K hK => ?_
  simp [go_sem, Tryz.ntmps126]
  repeat refine ⟨by omega, ?_⟩
  refine hK _ ?_; clear hK K
  refine awp_reg_seq fun K hK => ?_
  simp [go_sem]
  repeat refine ⟨by omega, ?_⟩
  refine CSk.mk (indexAgr_cs _ c n g f cap p hn hf) ?_
  simp [go_sem]
  repeat refine ⟨by omega, ?_⟩
  refine hK _ ?_; clear hK K
  refine awp_ret ?_
  simp [go_sem, Tryz.results126, idx_any] <;> omega

theorem agreement_Grounds_1_cs (σ : List Blk) (a : Agr) : CSF Tryz.prog 140 [.agg (a.enc.map .d)] σ (.agg ((agrGd a).enc.map .d)) := by
  refine CSF.of_body T.en140 Tryz.func140 rfl (by simp [Tryz.ntmps140]) (by simp [go_sem]) fun hwf => ?_
  refine awp_reg_seq fun K hK => ?_
  simp [go_sem, Tryz.ntmps140]
  repeat refine ⟨by omega, ?_⟩
  refine hK _ ?_; clear hK K
  refine awp_draw_seq 5 T.mixed (by kernel_rfl) fun K hK => ?_
  simp [go_sem]
  repeat refine ⟨by omega, ?_⟩
  refine CSg.mk (agreement_ends_cs _ _) ?_
  simp [go_sem]
  repeat refine ⟨by omega, ?_⟩
  refine hK _ ?_; clear hK K
  refine awp_ret ?_
  simp [go_sem, Tryz.results140, agrGd] <;> omega

theorem agreement_Grounds_cs (σ : List Blk) (c : Option Nat) (n : Nat) (g : Nat → Agr) (k d : Int) (hn : n < 1000000000) : CSF Tryz.prog 110 [.d (SL c 6 Agr.enc n g), .d (I k), .d (I d)] σ (.d (SL none 4 Ground.enc (agrGr n g k d).length (nth (agrGr n g k d)))) := by
  refine CSF.of_body T.en110 Tryz.func110 rfl (by simp [Tryz.ntmps110]) (by simp [go_sem]) fun hwf => ?_
  refine awp_reg_seq fun K hK => ?_
  simp [go_sem, Tryz.ntmps110]
  repeat refine ⟨by omega, ?_⟩
  refine hK _ ?_; clear hK K
  refine awp_seq ?_
  refine awp_reg_seq fun K hK => ?_
  simp [go_sem]
  repeat refine ⟨by omega, ?_⟩
  refine CSk.mk (agreement_Check_cs _ _ _ _ (by first | assumption | omega | simp_all)) ?_
  simp [go_sem]
  repeat refine ⟨by omega, ?_⟩
  refine hK _ ?_; clear hK K
  refine awp_forget [0, 1, 2, 13] (by simp only [restr, List.contains_cons, List.contains_nil, Nat.reduceBEq, Bool.or_false, Bool.or_true, Bool.true_or, Bool.false_or, if_true, if_false, Bool.false_eq_true]; rfl) ?_
  refine awp_cond rfl (fun c0 => ?_) (fun c0 => ?_)
  · have d0 := c0; try simp at d0
    have hz : agrGr n g k d = [] := by unfold agrGr; rw [if_pos d0]
    refine awp_reg_seq fun K hK => ?_
    simp [go_sem, c0, d0]
    repeat refine ⟨by omega, ?_⟩
    refine hK _ ?_; clear hK K
    refine awp_ret ?_
    rw [hz]; simp [go_sem, Tryz.results110]
  · have d0 := c0; try simp at d0
    have hz : agrGr n g k d = gather (agrGf g k d) n := by unfold agrGr; rw [if_neg (by simp [d0])]
    refine awp_skip ?_
    refine awp_reg_seq fun K hK => ?_
    simp [go_sem, c0, d0]
    repeat refine ⟨by omega, ?_⟩
    refine hK _ ?_; clear hK K
    refine awp_reg_seq fun K hK => ?_
    simp [go_sem, c0, d0]
    repeat refine ⟨by omega, ?_⟩
    refine hK _ ?_; clear hK K
    refine awp_seq ?_
    refine awp_thawT 8 4 (fun i => Ground.enc (nth ([] : List Ground) i)) (by simp [go_sem]) (by simp [go_sem]; rfl) ?_
    refine awp_reg_seq fun K hK => ?_
    simp [go_sem, c0, d0]
    repeat refine ⟨by omega, ?_⟩
    refine hK _ ?_; clear hK K
    refine awp_block ?_
    refine awp_forget [1, 2, 7, 8, 14, 15, 16] (by simp [go_sem, restr]; rfl) ?_
    refine awp_mv [σ.length] (by simp) ?_
    refine awp_loopU (α := Nat) (fun i => [(8, .ms σ.length 4 0 (gather (agrGf g k d) i).length), (16, .d (I i))]) (fun i => σ ++ [.arr 4 (gather (agrGf g k d) i).length (fun q => Ground.enc (nth (gather (agrGf g k d) i) q))]) (fun i => i ≤ n) (fun i => n - i) 0 (by simp [go_sem, gather]) rfl (by simp) ?_
    rintro i hi
    refine awp_reg_seq fun K hK => ?_
    simp [go_sem, c0, d0]
    repeat refine ⟨by omega, ?_⟩
    refine hK _ ?_; clear hK K
    refine awp_seq ?_
    refine awp_forget [1, 2, 7, 8, 14, 15, 16, 17] (by simp only [restr, List.contains_cons, List.contains_nil, Nat.reduceBEq, Bool.or_false, Bool.or_true, Bool.true_or, Bool.false_or, if_true, if_false, Bool.false_eq_true]; rfl) ?_
    refine awp_cond rfl (fun c1 => ?_) (fun c1 => ?_)
    · have d1 := c1; try simp at d1
      have hl := gather_len (agrGf_len g k d) i
      refine awp_skip ?_
      refine awp_seq ?_
      refine awp_block ?_
      refine awp_reg_seq fun K hK => ?_
      simp [go_sem, c0, d0, c1, d1]
      repeat refine ⟨by omega, ?_⟩
      refine hK _ ?_; clear hK K
      refine awp_reg_seq fun K hK => ?_
      simp [go_sem, c0, d0, c1, d1]
      repeat refine ⟨by omega, ?_⟩
      refine CSk.mk (agreement_Closes_cs _ _ _ _) ?_
      simp [go_sem, c0, d0, c1, d1]
      repeat refine ⟨by omega, ?_⟩
      refine hK _ ?_; clear hK K
      refine awp_forget [1, 2, 7, 8, 10, 14, 15, 16, 23] (by simp only [restr, List.contains_cons, List.contains_nil, Nat.reduceBEq, Bool.or_false, Bool.or_true, Bool.true_or, Bool.false_or, if_true, if_false, Bool.false_eq_true]; rfl) ?_
      refine awp_cond rfl (fun c2 => ?_) (fun c2 => ?_)
      · have d2 := c2; try simp at d2
        have ha : gather (agrGf g k d) (i + 1) = gather (agrGf g k d) i ++ [agrGd (g i)] := by rw [gather, agrGf, if_pos c2]
        refine awp_reg_end fun K hK => ?_
        simp [go_sem, c0, d0, c1, d1, c2, d2, ha, hwf.one, hwf.zero]
        repeat refine ⟨by omega, ?_⟩
        refine CSk.mk (agreement_Grounds_1_cs _ (g i)) ?_
        simp [go_sem, c0, d0, c1, d1, c2, d2, ha, hwf.one, hwf.zero]
        repeat refine ⟨by omega, ?_⟩
        refine hK _ ?_; clear hK K
        refine awp_rows σ.length (fun q => Ground.enc (nth (gather (agrGf g k d) i ++ [agrGd (g i)]) q)) (by simp [go_sem]; first | exact ⟨rfl, rfl, rfl⟩ | exact ⟨rfl, rfl⟩ | rfl) (by exact fun q hq => cat_nth (enc := Ground.enc) (x := agrGd (g i)) rfl hq) (by simp [go_sem]; rfl) ?_
        refine awp_reg_end fun K hK => ?_
        simp [go_sem, c0, d0, c1, d1, c2, d2, ha]
        try simp (disch := omega) only [wrapI]
        repeat refine ⟨by omega, ?_⟩
        refine hK _ ?_; clear hK K
        refine ⟨i + 1, back_of' (by simp [go_sem, wrap_succ (i := i) (by omega), c0, d0, c1, d1, c2, d2, ha]) ((leaves_app (by simp [go_sem]))) (by (simp [go_sem, wrap_succ (i := i) (by omega), c0, d0, c1, d1, c2, d2, ha] <;> omega)), by omega, by first | omega | (dsimp only; omega)⟩
      · have d2 := c2; try simp at d2
        have ha : gather (agrGf g k d) (i + 1) = gather (agrGf g k d) i := by rw [gather, agrGf, if_neg (by simp [c2])]; simp
        refine awp_skip ?_
        refine awp_reg_end fun K hK => ?_
        simp [go_sem, c0, d0, c1, d1, c2, d2, ha]
        try simp (disch := omega) only [wrapI]
        repeat refine ⟨by omega, ?_⟩
        refine hK _ ?_; clear hK K
        refine ⟨i + 1, back_of' (by simp [go_sem, wrap_succ (i := i) (by omega), c0, d0, c1, d1, c2, d2, ha]) ((leaves_app (by simp [go_sem]))) (by (simp [go_sem, wrap_succ (i := i) (by omega), c0, d0, c1, d1, c2, d2, ha] <;> omega)), by omega, by first | omega | (dsimp only; omega)⟩
    · have d1 := c1; try simp at d1
      obtain rfl : i = n := by omega
      refine awp_exit ?_
      refine awp_reg_seq fun K hK => ?_
      simp [go_sem, c0, d0, c1, d1]
      repeat refine ⟨by omega, ?_⟩
      refine hK _ ?_; clear hK K
      refine awp_freeze (σ.length) (by simp [go_sem]; first | exact ⟨rfl, rfl, rfl⟩ | exact ⟨rfl, rfl⟩ | rfl) (by simp [go_sem]; rfl) (by simp [go_sem, hwf.frz, hwf.frz0]; rfl) ?_
      refine awp_ret ?_
      rw [hz]; simp [go_sem, Tryz.results110]

theorem ref33_Grounds_cs (σ : List Blk) (c : Option Nat) (n : Nat) (g : Nat → Agr) (k d : Int) (hn : n < 1000000000) : CSF Tryz.prog 99 [.d (SL c 6 Agr.enc n g), .d (I k), .d (I d)] σ (.d (SL none 4 Ground.enc (agrGr n g k d).length (nth (agrGr n g k d)))) := by
  refine CSF.of_body T.en99 Tryz.func99 rfl (by simp [Tryz.ntmps99]) (by simp [go_sem]) fun hwf => ?_
  refine awp_reg_seq fun K hK => ?_
  simp [go_sem, Tryz.ntmps99]
  repeat refine ⟨by omega, ?_⟩
  refine hK _ ?_; clear hK K
  refine awp_seq ?_
  refine awp_reg_seq fun K hK => ?_
  simp [go_sem]
  repeat refine ⟨by omega, ?_⟩
  refine CSk.mk (ref33_Check_cs _ _ _ _ (by first | assumption | omega | simp_all)) ?_
  simp [go_sem]
  repeat refine ⟨by omega, ?_⟩
  refine hK _ ?_; clear hK K
  refine awp_forget [0, 1, 2, 12] (by simp only [restr, List.contains_cons, List.contains_nil, Nat.reduceBEq, Bool.or_false, Bool.or_true, Bool.true_or, Bool.false_or, if_true, if_false, Bool.false_eq_true]; rfl) ?_
  refine awp_cond rfl (fun c0 => ?_) (fun c0 => ?_)
  · have d0 := c0; try simp at d0
    have hz : agrGr n g k d = [] := by unfold agrGr; rw [if_pos d0]
    refine awp_reg_seq fun K hK => ?_
    simp [go_sem, c0, d0]
    repeat refine ⟨by omega, ?_⟩
    refine hK _ ?_; clear hK K
    refine awp_ret ?_
    rw [hz]; simp [go_sem, Tryz.results99]
  · have d0 := c0; try simp at d0
    have hz : agrGr n g k d = gather (agrGf g k d) n := by unfold agrGr; rw [if_neg (by simp [d0])]
    refine awp_skip ?_
    refine awp_reg_seq fun K hK => ?_
    simp [go_sem, c0, d0]
    repeat refine ⟨by omega, ?_⟩
    refine hK _ ?_; clear hK K
    refine awp_seq ?_
    refine awp_thawT 7 4 (fun i => Ground.enc (nth ([] : List Ground) i)) (by simp [go_sem]) (by simp [go_sem]; rfl) ?_
    refine awp_reg_seq fun K hK => ?_
    simp [go_sem, c0, d0]
    repeat refine ⟨by omega, ?_⟩
    refine hK _ ?_; clear hK K
    refine awp_block ?_
    refine awp_forget [1, 2, 7, 13, 14, 15] (by simp [go_sem, restr]; rfl) ?_
    refine awp_mv [σ.length] (by simp) ?_
    refine awp_loopU (α := Nat) (fun i => [(7, .ms σ.length 4 0 (gather (agrGf g k d) i).length), (15, .d (I i))]) (fun i => σ ++ [.arr 4 (gather (agrGf g k d) i).length (fun q => Ground.enc (nth (gather (agrGf g k d) i) q))]) (fun i => i ≤ n) (fun i => n - i) 0 (by simp [go_sem, gather]) rfl (by simp) ?_
    rintro i hi
    refine awp_reg_seq fun K hK => ?_
    simp [go_sem, c0, d0]
    repeat refine ⟨by omega, ?_⟩
    refine hK _ ?_; clear hK K
    refine awp_seq ?_
    refine awp_forget [1, 2, 7, 13, 14, 15, 16] (by simp only [restr, List.contains_cons, List.contains_nil, Nat.reduceBEq, Bool.or_false, Bool.or_true, Bool.true_or, Bool.false_or, if_true, if_false, Bool.false_eq_true]; rfl) ?_
    refine awp_cond rfl (fun c1 => ?_) (fun c1 => ?_)
    · have d1 := c1; try simp at d1
      have hl := gather_len (agrGf_len g k d) i
      refine awp_skip ?_
      refine awp_seq ?_
      refine awp_block ?_
      refine awp_reg_seq fun K hK => ?_
      simp [go_sem, c0, d0, c1, d1]
      repeat refine ⟨by omega, ?_⟩
      refine hK _ ?_; clear hK K
      refine awp_reg_seq fun K hK => ?_
      simp [go_sem, c0, d0, c1, d1]
      repeat refine ⟨by omega, ?_⟩
      refine CSk.mk (ref33_Closes_cs _ _ _ _) ?_
      simp [go_sem, c0, d0, c1, d1]
      repeat refine ⟨by omega, ?_⟩
      refine hK _ ?_; clear hK K
      refine awp_forget [1, 2, 7, 9, 13, 14, 15, 22] (by simp only [restr, List.contains_cons, List.contains_nil, Nat.reduceBEq, Bool.or_false, Bool.or_true, Bool.true_or, Bool.false_or, if_true, if_false, Bool.false_eq_true]; rfl) ?_
      refine awp_cond rfl (fun c2 => ?_) (fun c2 => ?_)
      · have d2 := c2; try simp at d2
        have ha : gather (agrGf g k d) (i + 1) = gather (agrGf g k d) i ++ [agrGd (g i)] := by rw [gather, agrGf, if_pos c2]
        refine awp_reg_end fun K hK => ?_
        simp [go_sem, c0, d0, c1, d1, c2, d2, ha, hwf.one, hwf.zero]
        repeat refine ⟨by omega, ?_⟩
        refine hK _ ?_; clear hK K
        refine awp_rows σ.length (fun q => Ground.enc (nth (gather (agrGf g k d) i ++ [agrGd (g i)]) q)) (by simp [go_sem]; first | exact ⟨rfl, rfl, rfl⟩ | exact ⟨rfl, rfl⟩ | rfl) (by exact fun q hq => cat_nth (enc := Ground.enc) (x := agrGd (g i)) rfl hq) (by simp [go_sem]; rfl) ?_
        refine awp_reg_end fun K hK => ?_
        simp [go_sem, c0, d0, c1, d1, c2, d2, ha]
        try simp (disch := omega) only [wrapI]
        repeat refine ⟨by omega, ?_⟩
        refine hK _ ?_; clear hK K
        refine ⟨i + 1, back_of' (by simp [go_sem, wrap_succ (i := i) (by omega), c0, d0, c1, d1, c2, d2, ha]) ((leaves_app (by simp [go_sem]))) (by (simp [go_sem, wrap_succ (i := i) (by omega), c0, d0, c1, d1, c2, d2, ha] <;> omega)), by omega, by first | omega | (dsimp only; omega)⟩
      · have d2 := c2; try simp at d2
        have ha : gather (agrGf g k d) (i + 1) = gather (agrGf g k d) i := by rw [gather, agrGf, if_neg (by simp [c2])]; simp
        refine awp_skip ?_
        refine awp_reg_end fun K hK => ?_
        simp [go_sem, c0, d0, c1, d1, c2, d2, ha]
        try simp (disch := omega) only [wrapI]
        repeat refine ⟨by omega, ?_⟩
        refine hK _ ?_; clear hK K
        refine ⟨i + 1, back_of' (by simp [go_sem, wrap_succ (i := i) (by omega), c0, d0, c1, d1, c2, d2, ha]) ((leaves_app (by simp [go_sem]))) (by (simp [go_sem, wrap_succ (i := i) (by omega), c0, d0, c1, d1, c2, d2, ha] <;> omega)), by omega, by first | omega | (dsimp only; omega)⟩
    · have d1 := c1; try simp at d1
      obtain rfl : i = n := by omega
      refine awp_exit ?_
      refine awp_reg_seq fun K hK => ?_
      simp [go_sem, c0, d0, c1, d1]
      repeat refine ⟨by omega, ?_⟩
      refine hK _ ?_; clear hK K
      refine awp_freeze (σ.length) (by simp [go_sem]; first | exact ⟨rfl, rfl, rfl⟩ | exact ⟨rfl, rfl⟩ | rfl) (by simp [go_sem]; rfl) (by simp [go_sem, hwf.frz, hwf.frz0]; rfl) ?_
      refine awp_ret ?_
      rw [hz]; simp [go_sem, Tryz.results99]

theorem agreement_Strict_1_cs (σ : List Blk) (τ : List Blk) (a : Agr) (k : Int) : CSF Tryz.prog 127 [.agg (a.enc.map .d), .ptr σ.length 0] (σ ++ .var [.d (I k)] :: τ) (.d (B (strP k a))) := by
  refine CSF.of_body T.en127 Tryz.func127 rfl (by simp [Tryz.ntmps127]) (by simp [go_sem]) fun hwf => ?_
  refine awp_reg_seq fun K hK => ?_
  simp [go_sem, Tryz.ntmps127]
  repeat refine ⟨by omega, ?_⟩
  refine hK _ ?_; clear hK K
  refine awp_reg_seq fun K hK => ?_
  simp [go_sem]
  repeat refine ⟨by omega, ?_⟩
  refine hK _ ?_; clear hK K
  refine awp_ret ?_
  simp [go_sem, Tryz.results127, strP] <;> omega

theorem agreement_Strict_cs (σ : List Blk) (c : Option Nat) (n : Nat) (g : Nat → Agr) (k : Int) (hn : n < 1000000000) : CSF Tryz.prog 96 [.d (SL c 6 Agr.enc n g), .d (I k)] σ (.d (B (agrStr n g k))) := by
  refine CSF.of_body T.en96 Tryz.func96 rfl (by simp [Tryz.ntmps96]) (by simp [go_sem]) fun hwf => ?_
  refine awp_reg_seq fun K hK => ?_
  simp [go_sem, Tryz.ntmps96]
  repeat refine ⟨by omega, ?_⟩
  refine hK _ ?_; clear hK K
  refine awp_reg_seq fun K hK => ?_
  simp [go_sem]
  repeat refine ⟨by omega, ?_⟩
  refine CSk.mk (agreement_Check_cs _ _ _ _ (by first | assumption | omega | simp_all)) ?_
  simp [go_sem]
  repeat refine ⟨by omega, ?_⟩
  refine CSm.mk (containsAgr_cs _ c n g _ _ (strP k) hn (fun i hi => agreement_Strict_1_cs σ [] (g i) k)) ?_
  simp [go_sem]
  repeat refine ⟨by omega, ?_⟩
  refine hK _ ?_; clear hK K
  refine awp_ret ?_
  simp [go_sem, Tryz.results96, agrStr]
  rfl

theorem ref33_Strict_cs (σ : List Blk) (c : Option Nat) (n : Nat) (g : Nat → Agr) (k : Int) (hn : n < 1000000000) : CSF Tryz.prog 69 [.d (SL c 6 Agr.enc n g), .d (I k)] σ (.d (B (agrStr n g k))) := by
  refine CSF.of_body T.en69 Tryz.func69 rfl (by simp [Tryz.ntmps69]) (by simp [go_sem]) fun hwf => ?_
  refine awp_reg_seq fun K hK => ?_
  simp [go_sem, Tryz.ntmps69]
  repeat refine ⟨by omega, ?_⟩
  refine hK _ ?_; clear hK K
  refine awp_seq ?_
  refine awp_reg_seq fun K hK => ?_
  simp [go_sem]
  repeat refine ⟨by omega, ?_⟩
  refine CSk.mk (ref33_Check_cs _ _ _ _ (by first | assumption | omega | simp_all)) ?_
  simp [go_sem]
  repeat refine ⟨by omega, ?_⟩
  refine hK _ ?_; clear hK K
  refine awp_forget [0, 1, 9] (by simp only [restr, List.contains_cons, List.contains_nil, Nat.reduceBEq, Bool.or_false, Bool.or_true, Bool.true_or, Bool.false_or, if_true, if_false, Bool.false_eq_true]; rfl) ?_
  refine awp_cond rfl (fun c0 => ?_) (fun c0 => ?_)
  · have d0 := c0; try simp at d0
    have hz : agrStr n g k = false := by unfold agrStr; simp [d0]
    refine awp_reg_seq fun K hK => ?_
    simp [go_sem, c0, d0]
    repeat refine ⟨by omega, ?_⟩
    refine hK _ ?_; clear hK K
    refine awp_ret ?_
    rw [hz]; simp [go_sem, Tryz.results69]
  · have d0 := c0; try simp at d0
    refine awp_skip ?_
    refine awp_seq ?_
    refine awp_reg_seq fun K hK => ?_
    simp [go_sem, c0, d0]
    repeat refine ⟨by omega, ?_⟩
    refine hK _ ?_; clear hK K
    refine awp_block ?_
    refine awp_forget [1, 10, 11, 12] (by simp [go_sem, restr]; rfl) ?_
    refine awp_loopU (α := Nat) (fun i => [(12, .d (I i))]) (fun i => _) (fun i => i ≤ n ∧ ∀ q, q < i → (g q).ID ≠ k) (fun i => n - i) 0 (by simp [go_sem]) rfl (by simp) ?_
    rintro i ⟨hi, hx⟩
    refine awp_reg_seq fun K hK => ?_
    simp [go_sem, c0, d0]
    repeat refine ⟨by omega, ?_⟩
    refine hK _ ?_; clear hK K
    refine awp_seq ?_
    refine awp_forget [1, 10, 11, 12, 13] (by simp only [restr, List.contains_cons, List.contains_nil, Nat.reduceBEq, Bool.or_false, Bool.or_true, Bool.true_or, Bool.false_or, if_true, if_false, Bool.false_eq_true]; rfl) ?_
    refine awp_cond rfl (fun c1 => ?_) (fun c1 => ?_)
    · have d1 := c1; try simp at d1
      refine awp_skip ?_
      refine awp_seq ?_
      refine awp_block ?_
      refine awp_reg_seq fun K hK => ?_
      simp [go_sem, c0, d0, c1, d1]
      repeat refine ⟨by omega, ?_⟩
      refine hK _ ?_; clear hK K
      refine awp_reg_seq fun K hK => ?_
      simp [go_sem, c0, d0, c1, d1]
      repeat refine ⟨by omega, ?_⟩
      refine hK _ ?_; clear hK K
      refine awp_forget [1, 6, 10, 11, 12, 19] (by simp only [restr, List.contains_cons, List.contains_nil, Nat.reduceBEq, Bool.or_false, Bool.or_true, Bool.true_or, Bool.false_or, if_true, if_false, Bool.false_eq_true]; rfl) ?_
      refine awp_cond rfl (fun c2 => ?_) (fun c2 => ?_)
      · have d2 := c2; try simp at d2
        refine awp_reg_seq fun K hK => ?_
        simp [go_sem, c0, d0, c1, d1, c2, d2]
        repeat refine ⟨by omega, ?_⟩
        refine hK _ ?_; clear hK K
        refine awp_ret ?_
        rw [str_at d0 d1 d2]; simp [go_sem, Tryz.results69]
      · have d2 := c2; try simp at d2
        refine awp_skip ?_
        refine awp_reg_end fun K hK => ?_
        simp [go_sem, c0, d0, c1, d1, c2, d2]
        try simp (disch := omega) only [wrapI]
        repeat refine ⟨by omega, ?_⟩
        refine hK _ ?_; clear hK K
        refine ⟨i + 1, back_of' (by simp) (.refl _) (by (simp [go_sem, wrap_succ (i := i) (by omega), c0, d0, c1, d1, c2, d2] <;> omega)), ⟨by omega, fun q hq => by rcases Nat.lt_or_eq_of_le (Nat.le_of_lt_succ hq) with h | h; exact hx q h; rw [h]; simpa using d2⟩, by first | omega | (dsimp only; omega)⟩
    · have d1 := c1; try simp at d1
      obtain rfl : i = n := by omega
      refine awp_exit ?_
      refine awp_reg_seq fun K hK => ?_
      simp [go_sem, c0, d0, c1, d1]
      repeat refine ⟨by omega, ?_⟩
      refine hK _ ?_; clear hK K
      refine awp_ret ?_
      rw [str_no hx]; simp [go_sem, Tryz.results69]

theorem agreement_agreements_step_cs (σ : List Blk) (c : Option Nat) (n : Nat) (g : Nat → Agr) (k d : Int) (hn : n < 1000000000) : CSF Tryz.prog 159 [.d (SL c 6 Agr.enc n g), .d (I k), .d (I d)] σ (.d (I (stepF g k d n))) := by
  refine CSF.of_body T.en159 Tryz.func159 rfl (by simp [Tryz.ntmps159]) (by simp [go_sem]) fun hwf => ?_
  refine awp_reg_seq fun K hK => ?_
  simp [go_sem, Tryz.ntmps159]
  repeat refine ⟨by omega, ?_⟩
  refine hK _ ?_; clear hK K
  refine awp_reg_seq fun K hK => ?_
  simp [go_sem]
  repeat refine ⟨by omega, ?_⟩
  refine hK _ ?_; clear hK K
  refine awp_seq ?_
  refine awp_reg_seq fun K hK => ?_
  simp [go_sem]
  repeat refine ⟨by omega, ?_⟩
  refine hK _ ?_; clear hK K
  refine awp_block ?_
  refine awp_forget [1, 2, 7, 11, 12, 13] (by simp [go_sem, restr]; rfl) ?_
  refine awp_loopU (α := Nat) (fun i => [(7, .d (I (stepF g k d i))), (13, .d (I i))]) (fun i => _) (fun i => i ≤ n) (fun i => n - i) 0 (by simp [go_sem, stepF]) rfl (by simp) ?_
  rintro i hi
  refine awp_reg_seq fun K hK => ?_
  simp [go_sem]
  repeat refine ⟨by omega, ?_⟩
  refine hK _ ?_; clear hK K
  refine awp_seq ?_
  refine awp_forget [1, 2, 7, 11, 12, 13, 14] (by simp only [restr, List.contains_cons, List.contains_nil, Nat.reduceBEq, Bool.or_false, Bool.or_true, Bool.true_or, Bool.false_or, if_true, if_false, Bool.false_eq_true]; rfl) ?_
  refine awp_cond rfl (fun c0 => ?_) (fun c0 => ?_)
  · have d0 := c0; try simp at d0
    refine awp_skip ?_
    refine awp_seq ?_
    refine awp_block ?_
    refine awp_reg_seq fun K hK => ?_
    simp [go_sem, c0, d0]
    repeat refine ⟨by omega, ?_⟩
    refine hK _ ?_; clear hK K
    refine awp_reg_seq fun K hK => ?_
    simp [go_sem, c0, d0]
    repeat refine ⟨by omega, ?_⟩
    refine CSk.mk (agreement_Closes_cs _ _ _ _) ?_
    simp [go_sem, c0, d0]
    repeat refine ⟨by omega, ?_⟩
    refine hK _ ?_; clear hK K
    refine awp_forget [1, 2, 7, 9, 11, 12, 13, 20] (by simp only [restr, List.contains_cons, List.contains_nil, Nat.reduceBEq, Bool.or_false, Bool.or_true, Bool.true_or, Bool.false_or, if_true, if_false, Bool.false_eq_true]; rfl) ?_
    refine awp_cond rfl (fun c1 => ?_) (fun c1 => ?_)
    · have d1 := c1; try simp at d1
      have ha : stepF g k d (i + 1) = max (stepF g k d i) (min (g i).Until (g i).In.Until) := by rw [stepF, if_pos c1]
      refine awp_reg_end fun K hK => ?_
      simp [go_sem, c0, d0, c1, d1, ha]
      repeat refine ⟨by omega, ?_⟩
      refine CSk.mk (agreement_ends_cs _ _) ?_
      simp [go_sem, c0, d0, c1, d1, ha]
      repeat refine ⟨by omega, ?_⟩
      refine hK _ ?_; clear hK K
      refine awp_reg_end fun K hK => ?_
      simp [go_sem, c0, d0, c1, d1, ha]
      try simp (disch := omega) only [wrapI]
      repeat refine ⟨by omega, ?_⟩
      refine hK _ ?_; clear hK K
      refine ⟨i + 1, back_of' (by simp) (.refl _) (by (simp [go_sem, wrap_succ (i := i) (by omega), c0, d0, c1, d1, ha] <;> omega)), by omega, by first | omega | (dsimp only; omega)⟩
    · have d1 := c1; try simp at d1
      have ha : stepF g k d (i + 1) = stepF g k d i := by rw [stepF, if_neg (by simp [c1])]
      refine awp_skip ?_
      refine awp_reg_end fun K hK => ?_
      simp [go_sem, c0, d0, c1, d1, ha]
      try simp (disch := omega) only [wrapI]
      repeat refine ⟨by omega, ?_⟩
      refine hK _ ?_; clear hK K
      refine ⟨i + 1, back_of' (by simp) (.refl _) (by (simp [go_sem, wrap_succ (i := i) (by omega), c0, d0, c1, d1, ha] <;> omega)), by omega, by first | omega | (dsimp only; omega)⟩
  · have d0 := c0; try simp at d0
    obtain rfl : i = n := by omega
    refine awp_exit ?_
    refine awp_reg_seq fun K hK => ?_
    simp [go_sem, c0, d0]
    repeat refine ⟨by omega, ?_⟩
    refine hK _ ?_; clear hK K
    refine awp_ret ?_
    simp [go_sem, Tryz.results159, c0, d0] <;> omega

theorem agreement_agreements_opens_cs (σ : List Blk) (c : Option Nat) (n : Nat) (g : Nat → Agr) (k d : Int) (hn : n < 1000000000) (hd : d ≤ 1048576) : CSF Tryz.prog 143 [.d (SL c 6 Agr.enc n g), .d (I k), .d (I d)] σ (.d (I (opA n g k d))) := by
  refine CSF.of_body T.en143 Tryz.func143 rfl (by simp [Tryz.ntmps143]) (by simp [go_sem]) fun hwf => ?_
  refine awp_reg_seq fun K hK => ?_
  simp [go_sem, Tryz.ntmps143]
  repeat refine ⟨by omega, ?_⟩
  refine hK _ ?_; clear hK K
  refine awp_reg_seq fun K hK => ?_
  simp [go_sem]
  repeat refine ⟨by omega, ?_⟩
  refine hK _ ?_; clear hK K
  refine awp_seq ?_
  refine awp_reg_seq fun K hK => ?_
  simp [go_sem]
  repeat refine ⟨by omega, ?_⟩
  refine CSk.mk (agreement_agreements_step_cs _ c n g k d hn) ?_
  simp [go_sem]
  repeat refine ⟨by omega, ?_⟩
  refine hK _ ?_; clear hK K
  refine awp_block ?_
  refine awp_forget [0, 1, 2, 7, 8] (by simp [go_sem, restr]; rfl) ?_
  refine awp_loopU (α := Int) (fun x => [(2, .d (I x)), (8, .d (I (stepF g k x n)))]) (fun x => _) (fun x => x ≤ 1048576 ∧ opA n g k d = opA n g k x) (fun x => (1048576 - x).toNat) d (by simp [go_sem]) rfl (⟨hd, rfl⟩) ?_
  rintro x ⟨hx, ho⟩
  have h1 := stepF_ge g k x n; have h2 := stepF_le g k x hx n
  refine awp_seq ?_
  refine awp_reg_seq fun K hK => ?_
  simp [go_sem]
  repeat refine ⟨by omega, ?_⟩
  refine hK _ ?_; clear hK K
  refine awp_forget [0, 1, 2, 7, 8, 16] (by simp only [restr, List.contains_cons, List.contains_nil, Nat.reduceBEq, Bool.or_false, Bool.or_true, Bool.true_or, Bool.false_or, if_true, if_false, Bool.false_eq_true]; rfl) ?_
  refine awp_cond rfl (fun c0 => ?_) (fun c0 => ?_)
  · have d0 := c0; try simp at d0
    refine awp_skip ?_
    refine awp_seq ?_
    refine awp_block ?_
    refine awp_reg_end fun K hK => ?_
    simp [go_sem, c0, d0]
    repeat refine ⟨by omega, ?_⟩
    refine hK _ ?_; clear hK K
    refine awp_reg_end fun K hK => ?_
    simp [go_sem, c0, d0]
    repeat refine ⟨by omega, ?_⟩
    refine CSk.mk (agreement_agreements_step_cs _ c n g k (stepF g k x n) hn) ?_
    simp [go_sem, c0, d0]
    repeat refine ⟨by omega, ?_⟩
    refine hK _ ?_; clear hK K
    refine ⟨stepF g k x n, back_of' (by simp) (.refl _) (by (simp [go_sem, c0, d0] <;> omega)), ⟨h2, by rw [ho, opA, dif_pos (by omega)]⟩, by first | omega | (dsimp only; omega)⟩
  · have d0 := c0; try simp at d0
    have hs : opA n g k x = x := by rw [opA, dif_neg (by omega)]
    rw [hs] at ho
    refine awp_exit ?_
    refine awp_reg_seq fun K hK => ?_
    simp [go_sem, c0, d0]
    repeat refine ⟨by omega, ?_⟩
    refine hK _ ?_; clear hK K
    refine awp_ret ?_
    rw [ho]; simp [go_sem, Tryz.results143]

def agrOp (n : Nat) (g : Nat → Agr) (k d : Int) : Int × Int := if agrChk n g ≠ 0 then (0, 1) else if k < 1 ∨ 1073741824 < k ∨ d < 0 ∨ 1048575 < d then (0, 2) else if opA n g k d = 1048576 then (0, 23) else (opA n g k d, 0)
theorem agreement_Opens_cs (σ : List Blk) (c : Option Nat) (n : Nat) (g : Nat → Agr) (k d : Int) (hn : n < 1000000000) : CSF Tryz.prog 112 [.d (SL c 6 Agr.enc n g), .d (I k), .d (I d)] σ (.tup [.d (I (agrOp n g k d).1), .d (I (agrOp n g k d).2)]) := by
  refine CSF.of_body T.en112 Tryz.func112 rfl (by simp [Tryz.ntmps112]) (by simp [go_sem]) fun hwf => ?_
  refine awp_reg_seq fun K hK => ?_
  simp [go_sem, Tryz.ntmps112]
  repeat refine ⟨by omega, ?_⟩
  refine hK _ ?_; clear hK K
  refine awp_seq ?_
  refine awp_block ?_
  refine awp_reg_seq fun K hK => ?_
  simp [go_sem]
  repeat refine ⟨by omega, ?_⟩
  refine CSk.mk (agreement_Check_cs _ _ _ _ (by first | assumption | omega | simp_all)) ?_
  simp [go_sem]
  repeat refine ⟨by omega, ?_⟩
  refine hK _ ?_; clear hK K
  refine awp_forget [0, 1, 2, 9] (by simp only [restr, List.contains_cons, List.contains_nil, Nat.reduceBEq, Bool.or_false, Bool.or_true, Bool.true_or, Bool.false_or, if_true, if_false, Bool.false_eq_true]; rfl) ?_
  refine awp_cond rfl (fun c0 => ?_) (fun c0 => ?_)
  · have d0 := c0; try simp at d0
    have hz : agrOp n g k d = (0, 1) := by unfold agrOp; rw [if_pos d0]
    refine awp_reg_seq fun K hK => ?_
    simp [go_sem, c0, d0]
    repeat refine ⟨by omega, ?_⟩
    refine hK _ ?_; clear hK K
    refine awp_ret ?_
    rw [hz]; simp [go_sem, Tryz.results112]
  · have d0 := c0; try simp at d0
    refine awp_reg_seq fun K hK => ?_
    simp [go_sem, c0, d0]
    repeat refine ⟨by omega, ?_⟩
    refine hK _ ?_; clear hK K
    refine awp_forget [0, 1, 2, 13] (by simp only [restr, List.contains_cons, List.contains_nil, Nat.reduceBEq, Bool.or_false, Bool.or_true, Bool.true_or, Bool.false_or, if_true, if_false, Bool.false_eq_true]; rfl) ?_
    refine awp_cond rfl (fun c1 => ?_) (fun c1 => ?_)
    · have d1 := c1; try simp at d1
      have hz : agrOp n g k d = (0, 2) := by unfold agrOp; rw [if_neg (by simp [d0]), if_pos (by omega)]
      refine awp_reg_seq fun K hK => ?_
      simp [go_sem, c0, d0, c1, d1]
      repeat refine ⟨by omega, ?_⟩
      refine hK _ ?_; clear hK K
      refine awp_ret ?_
      rw [hz]; simp [go_sem, Tryz.results112]
    · have d1 := c1; try simp at d1
      refine awp_skip ?_
      refine awp_reg_seq fun K hK => ?_
      simp [go_sem, c0, d0, c1, d1]
      repeat refine ⟨by omega, ?_⟩
      refine CSk.mk (agreement_agreements_opens_cs _ c n g k d hn (by omega)) ?_
      simp [go_sem, c0, d0, c1, d1]
      repeat refine ⟨by omega, ?_⟩
      refine hK _ ?_; clear hK K
      refine awp_seq ?_
      refine awp_reg_seq fun K hK => ?_
      simp [go_sem, c0, d0, c1, d1]
      repeat refine ⟨by omega, ?_⟩
      refine hK _ ?_; clear hK K
      refine awp_forget [8, 33] (by simp only [restr, List.contains_cons, List.contains_nil, Nat.reduceBEq, Bool.or_false, Bool.or_true, Bool.true_or, Bool.false_or, if_true, if_false, Bool.false_eq_true]; rfl) ?_
      refine awp_cond rfl (fun c2 => ?_) (fun c2 => ?_)
      · have d2 := c2; try simp at d2
        have hz : agrOp n g k d = (0, 23) := by unfold agrOp; rw [if_neg (by simp [d0]), if_neg (by omega), if_pos d2]
        refine awp_reg_seq fun K hK => ?_
        simp [go_sem, c0, d0, c1, d1, c2, d2]
        repeat refine ⟨by omega, ?_⟩
        refine hK _ ?_; clear hK K
        refine awp_ret ?_
        rw [hz]; simp [go_sem, Tryz.results112]
      · have d2 := c2; try simp at d2
        have hz : agrOp n g k d = (opA n g k d, 0) := by unfold agrOp; rw [if_neg (by simp [d0]), if_neg (by omega), if_neg d2]
        refine awp_skip ?_
        refine awp_reg_seq fun K hK => ?_
        simp [go_sem, c0, d0, c1, d1, c2, d2]
        repeat refine ⟨by omega, ?_⟩
        refine hK _ ?_; clear hK K
        refine awp_ret ?_
        rw [hz]; simp [go_sem, Tryz.results112]

end Go.Proofs.YtkochmppmpmddaaGreat

/-! Cc -/
namespace Go.Proofs.YtkochmppmpmddaaGreat
open Go.Abs Go.Arch
set_option linter.unusedVariables false
set_option linter.unusedSimpArgs false
set_option maxRecDepth 100000
set_option maxHeartbeats 400000

structure Pmt where
  ID : Int
  Reader : Int
  Unit : Int
  Kinds : Int
  In : Span
instance : Inhabited Pmt := ⟨⟨0, 0, 0, 0, ⟨0, 0⟩⟩⟩
def Pmt.enc (r : Pmt) : List D := [I r.ID, I r.Reader, I r.Unit, I r.Kinds, I r.In.From, I r.In.Until]
def encI (x : Int) : List D := [I x]
attribute [go_sem] Pmt.enc encI
def idOk (n : Int) : Bool := decide (1 ≤ n) && decide (n ≤ 1073741824)
def pmtOk (a : Pmt) : Bool := idOk a.ID && idOk a.Reader && idOk a.Unit && decide (1 ≤ a.Kinds) && decide (a.Kinds ≤ 7) && spanOk a.In
def pmtE (g : Nat → Pmt) (i : Nat) : Int := if pmtOk (g i) = false then 2 else if 0 < i ∧ (g i).ID ≤ (g (i - 1)).ID then 5 else 0
def pmtChk (n : Nat) (g : Nat → Pmt) : Int := if 64 < n then 8 else firstE (pmtE g) 0 n


theorem permit_id_cs (σ : List Blk) (n : Int) : CSF Tryz.prog 119 [.d (I n)] σ (.d (B (idOk n))) := by
  refine CSF.of_body T.en119 Tryz.func119 rfl (by simp [Tryz.ntmps119]) (by simp [go_sem]) fun hwf => ?_
  refine awp_reg_seq fun K hK => ?_
  simp [go_sem, Tryz.ntmps119]
  repeat refine ⟨by omega, ?_⟩
  refine hK _ ?_; clear hK K
  refine awp_reg_seq fun K hK => ?_
  simp [go_sem]
  repeat refine ⟨by omega, ?_⟩
  refine hK _ ?_; clear hK K
  refine awp_ret ?_
  simp [go_sem, Tryz.results119, idOk] <;> omega

theorem policy_id_cs (σ : List Blk) (n : Int) : CSF Tryz.prog 45 [.d (I n)] σ (.d (B (idOk n))) := by
  refine CSF.of_body T.en45 Tryz.func45 rfl (by simp [Tryz.ntmps45]) (by simp [go_sem]) fun hwf => ?_
  refine awp_reg_seq fun K hK => ?_
  simp [go_sem, Tryz.ntmps45]
  repeat refine ⟨by omega, ?_⟩
  refine hK _ ?_; clear hK K
  refine awp_reg_seq fun K hK => ?_
  simp [go_sem]
  repeat refine ⟨by omega, ?_⟩
  refine hK _ ?_; clear hK K
  refine awp_ret ?_
  simp [go_sem, Tryz.results45, idOk] <;> omega

theorem permit_formed_cs (σ : List Blk) (a : Pmt) : CSF Tryz.prog 83 [.agg (a.enc.map .d)] σ (.d (B (pmtOk a))) := by
  refine CSF.of_body T.en83 Tryz.func83 rfl (by simp [Tryz.ntmps83]) (by simp [go_sem]) fun hwf => ?_
  refine awp_reg_seq fun K hK => ?_
  simp [go_sem, Tryz.ntmps83]
  repeat refine ⟨by omega, ?_⟩
  refine hK _ ?_; clear hK K
  refine awp_reg_seq fun K hK => ?_
  simp [go_sem]
  repeat refine ⟨by omega, ?_⟩
  refine CSk.mk (permit_id_cs _ _) ?_
  simp [go_sem]
  repeat refine ⟨by omega, ?_⟩
  refine CSm.mk (permit_id_cs _ _) ?_
  simp [go_sem]
  repeat refine ⟨by omega, ?_⟩
  refine CSm.mk (permit_id_cs _ _) ?_
  simp [go_sem]
  repeat refine ⟨by omega, ?_⟩
  refine hK _ ?_; clear hK K
  refine awp_ret ?_
  simp [go_sem, Tryz.results83, pmtOk, spanOk, Bool.and_assoc] <;> omega

theorem ref34_Form_cs (σ : List Blk) (a : Pmt) : CSF Tryz.prog 91 [.agg (a.enc.map .d)] σ (.d (B (pmtOk a))) := by
  refine CSF.of_body T.en91 Tryz.func91 rfl (by simp [Tryz.ntmps91]) (by simp [go_sem]) fun hwf => ?_
  refine awp_reg_seq fun K hK => ?_
  simp [go_sem, Tryz.ntmps91]
  repeat refine ⟨by omega, ?_⟩
  refine hK _ ?_; clear hK K
  refine awp_reg_seq fun K hK => ?_
  simp [go_sem]
  repeat refine ⟨by omega, ?_⟩
  refine CSm.mk (ref31_Spanned_cs _ a.In) ?_
  simp [go_sem]
  repeat refine ⟨by omega, ?_⟩
  refine hK _ ?_; clear hK K
  refine awp_ret ?_
  simp [go_sem, Tryz.results91, pmtOk, idOk, Bool.and_assoc] <;> omega

theorem permit_Check_cs (σ : List Blk) (c : Option Nat) (n : Nat) (g : Nat → Pmt) (hn : n < 1000000000) : CSF Tryz.prog 50 [.d (SL c 6 Pmt.enc n g)] σ (.d (I (pmtChk n g))) := by
  refine CSF.of_body T.en50 Tryz.func50 rfl (by simp [Tryz.ntmps50]) (by simp [go_sem]) fun hwf => ?_
  refine awp_reg_seq fun K hK => ?_
  simp [go_sem, Tryz.ntmps50]
  repeat refine ⟨by omega, ?_⟩
  refine hK _ ?_; clear hK K
  refine awp_seq ?_
  refine awp_reg_seq fun K hK => ?_
  simp [go_sem]
  repeat refine ⟨by omega, ?_⟩
  refine hK _ ?_; clear hK K
  refine awp_forget [0, 7] (by simp only [restr, List.contains_cons, List.contains_nil, Nat.reduceBEq, Bool.or_false, Bool.or_true, Bool.true_or, Bool.false_or, if_true, if_false, Bool.false_eq_true]; rfl) ?_
  refine awp_cond rfl (fun c0 => ?_) (fun c0 => ?_)
  · have d0 := c0; try simp at d0
    refine awp_reg_seq fun K hK => ?_
    simp [go_sem, c0, d0]
    repeat refine ⟨by omega, ?_⟩
    refine hK _ ?_; clear hK K
    refine awp_ret ?_
    simp [go_sem, Tryz.results50, pmtChk, c0, d0] <;> omega
  · have d0 := c0; try simp at d0
    refine awp_skip ?_
    refine awp_seq ?_
    refine awp_reg_seq fun K hK => ?_
    simp [go_sem, c0, d0]
    repeat refine ⟨by omega, ?_⟩
    refine hK _ ?_; clear hK K
    refine awp_block ?_
    refine awp_forget [0, 8, 9, 10] (by simp [go_sem, restr]; rfl) ?_
    refine awp_loopU (α := Nat) (fun i => [(10, .d (I i))]) (fun i => _) (fun i => i ≤ n ∧ firstE (pmtE g) 0 n = firstE (pmtE g) i (n - i)) (fun i => n - i) 0 (by simp [go_sem]) rfl (by simp) ?_
    rintro i ⟨hi, hx⟩
    refine awp_reg_seq fun K hK => ?_
    simp [go_sem, c0, d0, hi, wrap_pred (i := i) (by omega)]
    repeat refine ⟨by omega, ?_⟩
    refine hK _ ?_; clear hK K
    refine awp_seq ?_
    refine awp_forget [0, 8, 9, 10, 11] (by simp only [restr, List.contains_cons, List.contains_nil, Nat.reduceBEq, Bool.or_false, Bool.or_true, Bool.true_or, Bool.false_or, if_true, if_false, Bool.false_eq_true]; rfl) ?_
    refine awp_cond rfl (fun c1 => ?_) (fun c1 => ?_)
    · have d1 := c1; try simp at d1
      obtain ⟨k, hk⟩ : ∃ k, n - i = k + 1 := ⟨n - i - 1, by omega⟩
      have hk' : n - (i + 1) = k := by omega
      rw [hk, firstE] at hx
      refine awp_skip ?_
      refine awp_seq ?_
      refine awp_block ?_
      refine awp_reg_seq fun K hK => ?_
      simp [go_sem, c0, d0, hi, wrap_pred (i := i) (by omega), c1, d1]
      repeat refine ⟨by omega, ?_⟩
      refine hK _ ?_; clear hK K
      refine awp_block ?_
      refine awp_reg_seq fun K hK => ?_
      simp [go_sem, c0, d0, hi, wrap_pred (i := i) (by omega), c1, d1]
      repeat refine ⟨by omega, ?_⟩
      refine CSk.mk (permit_formed_cs _ _) ?_
      simp [go_sem, c0, d0, hi, wrap_pred (i := i) (by omega), c1, d1]
      repeat refine ⟨by omega, ?_⟩
      refine hK _ ?_; clear hK K
      refine awp_forget [0, 3, 4, 8, 9, 10, 15] (by simp only [restr, List.contains_cons, List.contains_nil, Nat.reduceBEq, Bool.or_false, Bool.or_true, Bool.true_or, Bool.false_or, if_true, if_false, Bool.false_eq_true]; rfl) ?_
      refine awp_cond rfl (fun c2 => ?_) (fun c2 => ?_)
      · have d2 := c2; try simp at d2
        have he : pmtE g i = 2 := by unfold pmtE; rw [if_pos d2]
        rw [he] at hx; simp at hx
        refine awp_reg_seq fun K hK => ?_
        simp [go_sem, c0, d0, hi, wrap_pred (i := i) (by omega), c1, d1, c2, d2]
        repeat refine ⟨by omega, ?_⟩
        refine hK _ ?_; clear hK K
        refine awp_ret ?_
        simp [go_sem, Tryz.results50, pmtChk, hx, c0, d0, hi, wrap_pred (i := i) (by omega), c1, d1, c2, d2] <;> omega
      · have d2 := c2; try simp at d2
        refine awp_draw_seq 14 T.mixed (by kernel_rfl) fun K hK => ?_
        simp [go_sem, c0, d0, hi, wrap_pred (i := i) (by omega), c1, d1, c2, d2]
        try simp (disch := omega) only [wrapI]
        repeat refine ⟨by omega, ?_⟩
        refine hK _ ?_; clear hK K
        refine awp_forget [0, 8, 9, 10, 19] (by simp only [restr, List.contains_cons, List.contains_nil, Nat.reduceBEq, Bool.or_false, Bool.or_true, Bool.true_or, Bool.false_or, if_true, if_false, Bool.false_eq_true]; rfl) ?_
        refine awp_cond rfl (fun c3 => ?_) (fun c3 => ?_)
        · have d3 := c3; try simp at d3
          have he : pmtE g i = 5 := by unfold pmtE; rw [if_neg (by simp [d2]), if_pos d3]
          rw [he] at hx; simp at hx
          refine awp_reg_seq fun K hK => ?_
          simp [go_sem, c0, d0, hi, wrap_pred (i := i) (by omega), c1, d1, c2, d2, c3, d3]
          repeat refine ⟨by omega, ?_⟩
          refine hK _ ?_; clear hK K
          refine awp_ret ?_
          simp [go_sem, Tryz.results50, pmtChk, hx, c0, d0, hi, wrap_pred (i := i) (by omega), c1, d1, c2, d2, c3, d3] <;> omega
        · have d3 := c3; try simp at d3
          have he : pmtE g i = 0 := by unfold pmtE; rw [if_neg (by simp [d2]), if_neg (by omega)]
          rw [he] at hx; simp at hx
          refine awp_skip ?_
          refine awp_reg_end fun K hK => ?_
          simp [go_sem, c0, d0, hi, wrap_pred (i := i) (by omega), c1, d1, c2, d2, c3, d3]
          try simp (disch := omega) only [wrapI]
          repeat refine ⟨by omega, ?_⟩
          refine hK _ ?_; clear hK K
          refine ⟨i + 1, back_of' (by simp) (.refl _) (by (simp [go_sem, wrap_succ (i := i) (by omega), c0, d0, hi, wrap_pred (i := i) (by omega), c1, d1, c2, d2, c3, d3] <;> omega)), ⟨by omega, by rw [hx, hk']⟩, by first | omega | (dsimp only; omega)⟩
    · have d1 := c1; try simp at d1
      obtain rfl : i = n := by omega
      rw [Nat.sub_self, firstE] at hx
      refine awp_exit ?_
      refine awp_reg_seq fun K hK => ?_
      simp [go_sem, c0, d0, hi, wrap_pred (i := i) (by omega), c1, d1]
      repeat refine ⟨by omega, ?_⟩
      refine hK _ ?_; clear hK K
      refine awp_ret ?_
      simp [go_sem, Tryz.results50, pmtChk, hx, c0, d0, hi, wrap_pred (i := i) (by omega), c1, d1] <;> omega

theorem ref34_Check_cs (σ : List Blk) (c : Option Nat) (n : Nat) (g : Nat → Pmt) (hn : n < 1000000000) : CSF Tryz.prog 60 [.d (SL c 6 Pmt.enc n g)] σ (.d (I (pmtChk n g))) := by
  refine CSF.of_body T.en60 Tryz.func60 rfl (by simp [Tryz.ntmps60]) (by simp [go_sem]) fun hwf => ?_
  refine awp_reg_seq fun K hK => ?_
  simp [go_sem, Tryz.ntmps60]
  repeat refine ⟨by omega, ?_⟩
  refine hK _ ?_; clear hK K
  refine awp_seq ?_
  refine awp_reg_seq fun K hK => ?_
  simp [go_sem]
  repeat refine ⟨by omega, ?_⟩
  refine hK _ ?_; clear hK K
  refine awp_forget [0, 7] (by simp only [restr, List.contains_cons, List.contains_nil, Nat.reduceBEq, Bool.or_false, Bool.or_true, Bool.true_or, Bool.false_or, if_true, if_false, Bool.false_eq_true]; rfl) ?_
  refine awp_cond rfl (fun c0 => ?_) (fun c0 => ?_)
  · have d0 := c0; try simp at d0
    refine awp_reg_seq fun K hK => ?_
    simp [go_sem, c0, d0]
    repeat refine ⟨by omega, ?_⟩
    refine hK _ ?_; clear hK K
    refine awp_ret ?_
    simp [go_sem, Tryz.results60, pmtChk, c0, d0] <;> omega
  · have d0 := c0; try simp at d0
    refine awp_skip ?_
    refine awp_seq ?_
    refine awp_reg_seq fun K hK => ?_
    simp [go_sem, c0, d0]
    repeat refine ⟨by omega, ?_⟩
    refine hK _ ?_; clear hK K
    refine awp_block ?_
    refine awp_forget [0, 8, 9, 10] (by simp [go_sem, restr]; rfl) ?_
    refine awp_loopU (α := Nat) (fun i => [(10, .d (I i))]) (fun i => _) (fun i => i ≤ n ∧ firstE (pmtE g) 0 n = firstE (pmtE g) i (n - i)) (fun i => n - i) 0 (by simp [go_sem]) rfl (by simp) ?_
    rintro i ⟨hi, hx⟩
    refine awp_reg_seq fun K hK => ?_
    simp [go_sem, c0, d0, hi, wrap_pred (i := i) (by omega)]
    repeat refine ⟨by omega, ?_⟩
    refine hK _ ?_; clear hK K
    refine awp_seq ?_
    refine awp_forget [0, 8, 9, 10, 11] (by simp only [restr, List.contains_cons, List.contains_nil, Nat.reduceBEq, Bool.or_false, Bool.or_true, Bool.true_or, Bool.false_or, if_true, if_false, Bool.false_eq_true]; rfl) ?_
    refine awp_cond rfl (fun c1 => ?_) (fun c1 => ?_)
    · have d1 := c1; try simp at d1
      obtain ⟨k, hk⟩ : ∃ k, n - i = k + 1 := ⟨n - i - 1, by omega⟩
      have hk' : n - (i + 1) = k := by omega
      rw [hk, firstE] at hx
      refine awp_skip ?_
      refine awp_seq ?_
      refine awp_block ?_
      refine awp_reg_seq fun K hK => ?_
      simp [go_sem, c0, d0, hi, wrap_pred (i := i) (by omega), c1, d1]
      repeat refine ⟨by omega, ?_⟩
      refine hK _ ?_; clear hK K
      refine awp_seq ?_
      refine awp_reg_seq fun K hK => ?_
      simp [go_sem, c0, d0, hi, wrap_pred (i := i) (by omega), c1, d1]
      repeat refine ⟨by omega, ?_⟩
      refine CSk.mk (ref34_Form_cs _ _) ?_
      simp [go_sem, c0, d0, hi, wrap_pred (i := i) (by omega), c1, d1]
      repeat refine ⟨by omega, ?_⟩
      refine hK _ ?_; clear hK K
      refine awp_forget [0, 3, 4, 8, 9, 10, 17] (by simp only [restr, List.contains_cons, List.contains_nil, Nat.reduceBEq, Bool.or_false, Bool.or_true, Bool.true_or, Bool.false_or, if_true, if_false, Bool.false_eq_true]; rfl) ?_
      refine awp_cond rfl (fun c2 => ?_) (fun c2 => ?_)
      · have d2 := c2; try simp at d2
        have he : pmtE g i = 2 := by unfold pmtE; rw [if_pos d2]
        rw [he] at hx; simp at hx
        refine awp_reg_seq fun K hK => ?_
        simp [go_sem, c0, d0, hi, wrap_pred (i := i) (by omega), c1, d1, c2, d2]
        repeat refine ⟨by omega, ?_⟩
        refine hK _ ?_; clear hK K
        refine awp_ret ?_
        simp [go_sem, Tryz.results60, pmtChk, hx, c0, d0, hi, wrap_pred (i := i) (by omega), c1, d1, c2, d2] <;> omega
      · have d2 := c2; try simp at d2
        refine awp_skip ?_
        refine awp_draw_seq 13 T.mixed (by kernel_rfl) fun K hK => ?_
        simp [go_sem, c0, d0, hi, wrap_pred (i := i) (by omega), c1, d1, c2, d2]
        try simp (disch := omega) only [wrapI]
        repeat refine ⟨by omega, ?_⟩
        refine hK _ ?_; clear hK K
        refine awp_forget [0, 8, 9, 10, 30] (by simp only [restr, List.contains_cons, List.contains_nil, Nat.reduceBEq, Bool.or_false, Bool.or_true, Bool.true_or, Bool.false_or, if_true, if_false, Bool.false_eq_true]; rfl) ?_
        refine awp_cond rfl (fun c3 => ?_) (fun c3 => ?_)
        · have d3 := c3; try simp at d3
          have he : pmtE g i = 5 := by unfold pmtE; rw [if_neg (by simp [d2]), if_pos d3]
          rw [he] at hx; simp at hx
          refine awp_reg_seq fun K hK => ?_
          simp [go_sem, c0, d0, hi, wrap_pred (i := i) (by omega), c1, d1, c2, d2, c3, d3]
          repeat refine ⟨by omega, ?_⟩
          refine hK _ ?_; clear hK K
          refine awp_ret ?_
          simp [go_sem, Tryz.results60, pmtChk, hx, c0, d0, hi, wrap_pred (i := i) (by omega), c1, d1, c2, d2, c3, d3] <;> omega
        · have d3 := c3; try simp at d3
          have he : pmtE g i = 0 := by unfold pmtE; rw [if_neg (by simp [d2]), if_neg (by omega)]
          rw [he] at hx; simp at hx
          refine awp_skip ?_
          refine awp_reg_end fun K hK => ?_
          simp [go_sem, c0, d0, hi, wrap_pred (i := i) (by omega), c1, d1, c2, d2, c3, d3]
          try simp (disch := omega) only [wrapI]
          repeat refine ⟨by omega, ?_⟩
          refine hK _ ?_; clear hK K
          refine ⟨i + 1, back_of' (by simp) (.refl _) (by (simp [go_sem, wrap_succ (i := i) (by omega), c0, d0, hi, wrap_pred (i := i) (by omega), c1, d1, c2, d2, c3, d3] <;> omega)), ⟨by omega, by rw [hx, hk']⟩, by first | omega | (dsimp only; omega)⟩
    · have d1 := c1; try simp at d1
      obtain rfl : i = n := by omega
      rw [Nat.sub_self, firstE] at hx
      refine awp_exit ?_
      refine awp_reg_seq fun K hK => ?_
      simp [go_sem, c0, d0, hi, wrap_pred (i := i) (by omega), c1, d1]
      repeat refine ⟨by omega, ?_⟩
      refine hK _ ?_; clear hK K
      refine awp_ret ?_
      simp [go_sem, Tryz.results60, pmtChk, hx, c0, d0, hi, wrap_pred (i := i) (by omega), c1, d1] <;> omega

theorem ref34_Few_cs (σ : List Blk) (c c' : Option Nat) (n n' : Nat) (g : Nat → Pmt) (g' : Nat → Int) : CSF Tryz.prog 41 [.d (SL c 6 Pmt.enc n g), .d (SL c' 1 encI n' g')] σ (.d (B (decide ((n : Int) ≤ 20) && decide ((n' : Int) ≤ 20)))) := by
  refine CSF.of_body T.en41 Tryz.func41 rfl (by simp [Tryz.ntmps41]) (by simp [go_sem]) fun hwf => ?_
  refine awp_reg_seq fun K hK => ?_
  simp [go_sem, Tryz.ntmps41]
  repeat refine ⟨by omega, ?_⟩
  refine hK _ ?_; clear hK K
  refine awp_reg_seq fun K hK => ?_
  simp [go_sem]
  repeat refine ⟨by omega, ?_⟩
  refine hK _ ?_; clear hK K
  refine awp_ret ?_
  simp [go_sem, Tryz.results41] <;> omega

end Go.Proofs.YtkochmppmpmddaaGreat

/-! Cd -/
namespace Go.Proofs.YtkochmppmpmddaaGreat
open Go.Abs Go.Arch
set_option linter.unusedVariables false
set_option linter.unusedSimpArgs false
set_option maxRecDepth 100000
set_option maxHeartbeats 400000


theorem indexOf_cs (σ : List Blk) (c : Option Nat) (n : Nat) (g : Nat → Int) (k : Int) (hn : n < 1000000000) : CSF Tryz.prog 178 [.d (SL c 1 encI n g), .d (I k)] σ (.d (I (idxFrom (fun x => k == x) (lst n g) 0))) := by
  refine CSF.of_body T.en178 Tryz.func178 rfl (by simp [Tryz.ntmps178]) (by simp [go_sem]) fun hwf => ?_
  refine awp_reg_seq fun K hK => ?_
  simp [go_sem, Tryz.ntmps178]
  repeat refine ⟨by omega, ?_⟩
  refine hK _ ?_; clear hK K
  refine awp_seq ?_
  refine awp_reg_seq fun K hK => ?_
  simp [go_sem]
  repeat refine ⟨by omega, ?_⟩
  refine hK _ ?_; clear hK K
  refine awp_block ?_
  refine awp_forget [0, 1, 7, 8] (by simp [go_sem, restr]; rfl) ?_
  refine awp_loopU (α := Nat) (fun i => [(8, .d (I i))]) (fun i => _) (fun i => i ≤ n ∧ idxFrom (fun x => k == x) (lst n g) 0 = idxFrom (fun x => k == x) ((lst n g).drop i) i) (fun i => n - i) 0 (by simp [go_sem]) rfl (by simp) ?_
  rintro i ⟨hi, hx⟩
  refine awp_reg_seq fun K hK => ?_
  simp [go_sem]
  repeat refine ⟨by omega, ?_⟩
  refine hK _ ?_; clear hK K
  refine awp_seq ?_
  refine awp_forget [0, 1, 7, 8, 9] (by simp only [restr, List.contains_cons, List.contains_nil, Nat.reduceBEq, Bool.or_false, Bool.or_true, Bool.true_or, Bool.false_or, if_true, if_false, Bool.false_eq_true]; rfl) ?_
  refine awp_cond rfl (fun c0 => ?_) (fun c0 => ?_)
  · have d0 := c0; try simp at d0
    rw [drop_lst d0, idxFrom] at hx
    refine awp_skip ?_
    refine awp_seq ?_
    refine awp_block ?_
    refine awp_reg_seq fun K hK => ?_
    simp [go_sem, c0, d0]
    repeat refine ⟨by omega, ?_⟩
    refine hK _ ?_; clear hK K
    refine awp_reg_seq fun K hK => ?_
    simp [go_sem, c0, d0]
    repeat refine ⟨by omega, ?_⟩
    refine hK _ ?_; clear hK K
    refine awp_forget [0, 1, 5, 7, 8, 16] (by simp only [restr, List.contains_cons, List.contains_nil, Nat.reduceBEq, Bool.or_false, Bool.or_true, Bool.true_or, Bool.false_or, if_true, if_false, Bool.false_eq_true]; rfl) ?_
    refine awp_cond rfl (fun c1 => ?_) (fun c1 => ?_)
    · have d1 := c1; try simp at d1
      refine awp_reg_seq fun K hK => ?_
      simp [go_sem, c0, d0, c1, d1]
      repeat refine ⟨by omega, ?_⟩
      refine hK _ ?_; clear hK K
      refine awp_ret ?_
      rw [hx, if_pos c1]; simp [go_sem, Tryz.results178]
    · have d1 := c1; try simp at d1
      refine awp_skip ?_
      refine awp_reg_end fun K hK => ?_
      simp [go_sem, c0, d0, c1, d1]
      try simp (disch := omega) only [wrapI]
      repeat refine ⟨by omega, ?_⟩
      refine hK _ ?_; clear hK K
      refine ⟨i + 1, back_of' (by simp) (.refl _) (by (simp [go_sem, wrap_succ (i := i) (by omega), c0, d0, c1, d1] <;> omega)), ⟨by omega, by rw [hx, c1]; simp⟩, by first | omega | (dsimp only; omega)⟩
  · have d0 := c0; try simp at d0
    rw [drop_all d0, idxFrom] at hx
    refine awp_exit ?_
    refine awp_reg_seq fun K hK => ?_
    simp [go_sem, c0, d0]
    repeat refine ⟨by omega, ?_⟩
    refine hK _ ?_; clear hK K
    refine awp_ret ?_
    simp [go_sem, Tryz.results178, hx, c0, d0] <;> omega

theorem containsOf_cs (σ : List Blk) (c : Option Nat) (n : Nat) (g : Nat → Int) (k : Int) (hn : n < 1000000000) : CSF Tryz.prog 162 [.d (SL c 1 encI n g), .d (I k)] σ (.d (B ((lst n g).any fun x => k == x))) := by
  refine CSF.of_body T.en162 Tryz.func162 rfl (by simp [Tryz.ntmps162]) (by simp [go_sem]) fun hwf => ?_
  refine awp_reg_seq fun K hK => ?_
  simp [go_sem, Tryz.ntmps162]
  repeat refine ⟨by omega, ?_⟩
  refine hK _ ?_; clear hK K
  refine awp_reg_seq fun K hK => ?_
  simp [go_sem]
  repeat refine ⟨by omega, ?_⟩
  refine CSk.mk (indexOf_cs _ _ _ _ _ (by first | assumption | omega | simp_all)) ?_
  simp [go_sem]
  repeat refine ⟨by omega, ?_⟩
  refine hK _ ?_; clear hK K
  refine awp_ret ?_
  simp [go_sem, Tryz.results162, idx_any] <;> omega

theorem inOf_cs (σ : List Blk) (c : Option Nat) (n : Nat) (g : Nat → Int) (k : Int) (hn : n < 1000000000) : CSF Tryz.prog 132 [.d (SL c 1 encI n g), .d (I k)] σ (.d (B ((lst n g).any fun x => k == x))) := by
  have hq := idx_any (fun x => k == x) (lst n g) 0
  refine CSF.of_body T.en132 Tryz.func132 rfl (by simp [Tryz.ntmps132]) (by simp [go_sem]) fun hwf => ?_
  refine awp_reg_seq fun K hK => ?_
  simp [go_sem, Tryz.ntmps132]
  repeat refine ⟨by omega, ?_⟩
  refine hK _ ?_; clear hK K
  refine awp_seq ?_
  refine awp_reg_seq fun K hK => ?_
  simp [go_sem]
  repeat refine ⟨by omega, ?_⟩
  refine hK _ ?_; clear hK K
  refine awp_block ?_
  refine awp_forget [1, 7, 8, 9] (by simp [go_sem, restr]; rfl) ?_
  refine awp_loopU (α := Nat) (fun i => [(9, .d (I i))]) (fun i => _) (fun i => i ≤ n ∧ idxFrom (fun x => k == x) (lst n g) 0 = idxFrom (fun x => k == x) ((lst n g).drop i) i) (fun i => n - i) 0 (by simp [go_sem]) rfl (by simp) ?_
  rintro i ⟨hi, hx⟩
  refine awp_reg_seq fun K hK => ?_
  simp [go_sem]
  repeat refine ⟨by omega, ?_⟩
  refine hK _ ?_; clear hK K
  refine awp_seq ?_
  refine awp_forget [1, 7, 8, 9, 10] (by simp only [restr, List.contains_cons, List.contains_nil, Nat.reduceBEq, Bool.or_false, Bool.or_true, Bool.true_or, Bool.false_or, if_true, if_false, Bool.false_eq_true]; rfl) ?_
  refine awp_cond rfl (fun c0 => ?_) (fun c0 => ?_)
  · have d0 := c0; try simp at d0
    rw [drop_lst d0, idxFrom] at hx
    refine awp_skip ?_
    refine awp_seq ?_
    refine awp_block ?_
    refine awp_reg_seq fun K hK => ?_
    simp [go_sem, c0, d0]
    repeat refine ⟨by omega, ?_⟩
    refine hK _ ?_; clear hK K
    refine awp_reg_seq fun K hK => ?_
    simp [go_sem, c0, d0]
    repeat refine ⟨by omega, ?_⟩
    refine hK _ ?_; clear hK K
    refine awp_forget [1, 7, 8, 9, 15] (by simp only [restr, List.contains_cons, List.contains_nil, Nat.reduceBEq, Bool.or_false, Bool.or_true, Bool.true_or, Bool.false_or, if_true, if_false, Bool.false_eq_true]; rfl) ?_
    refine awp_cond rfl (fun c1 => ?_) (fun c1 => ?_)
    · have d1 := c1; try simp at d1
      refine awp_reg_seq fun K hK => ?_
      simp [go_sem, c0, d0, c1, d1]
      repeat refine ⟨by omega, ?_⟩
      refine hK _ ?_; clear hK K
      refine awp_ret ?_
      rw [← hq, hx, if_pos (by simp [d1])]; simp [go_sem, Tryz.results132]
    · have d1 := c1; try simp at d1
      refine awp_skip ?_
      refine awp_reg_end fun K hK => ?_
      simp [go_sem, c0, d0, c1, d1]
      try simp (disch := omega) only [wrapI]
      repeat refine ⟨by omega, ?_⟩
      refine hK _ ?_; clear hK K
      refine ⟨i + 1, back_of' (by simp) (.refl _) (by (simp [go_sem, wrap_succ (i := i) (by omega), c0, d0, c1, d1] <;> omega)), ⟨by omega, by rw [hx, if_neg (fun h => d1 (beq_iff_eq.1 h).symm)]⟩, by first | omega | (dsimp only; omega)⟩
  · have d0 := c0; try simp at d0
    rw [drop_all d0, idxFrom] at hx
    refine awp_exit ?_
    refine awp_reg_seq fun K hK => ?_
    simp [go_sem, c0, d0]
    repeat refine ⟨by omega, ?_⟩
    refine hK _ ?_; clear hK K
    refine awp_ret ?_
    rw [← hq, hx]; simp [go_sem, Tryz.results132]

def pmtOpen (a : Pmt) (n : Nat) (g : Nat → Int) (d : Int) : Bool := pmtOk a && ((lst n g).any fun x => a.Unit == x) && decide (a.In.From ≤ d) && decide (d < a.In.Until)
theorem permit_open_cs (σ : List Blk) (a : Pmt) (c : Option Nat) (n : Nat) (g : Nat → Int) (d : Int) (hn : n < 1000000000) : CSF Tryz.prog 148 [.agg (a.enc.map .d), .d (SL c 1 encI n g), .d (I d)] σ (.d (B (pmtOpen a n g d))) := by
  refine CSF.of_body T.en148 Tryz.func148 rfl (by simp [Tryz.ntmps148]) (by simp [go_sem]) fun hwf => ?_
  refine awp_reg_seq fun K hK => ?_
  simp [go_sem, Tryz.ntmps148]
  repeat refine ⟨by omega, ?_⟩
  refine hK _ ?_; clear hK K
  refine awp_reg_seq fun K hK => ?_
  simp [go_sem]
  repeat refine ⟨by omega, ?_⟩
  refine CSk.mk (permit_formed_cs _ a) ?_
  simp [go_sem]
  repeat refine ⟨by omega, ?_⟩
  refine CSm.mk (containsOf_cs _ c n g a.Unit hn) ?_
  simp [go_sem]
  repeat refine ⟨by omega, ?_⟩
  refine hK _ ?_; clear hK K
  refine awp_ret ?_
  simp [go_sem, Tryz.results148, pmtOpen] <;> omega

def kindBit (K k : Int) : Int := IntKind.i64.wrap ↑(BitVec.ofInt 64 (K.fdiv (2 ^ min (IntKind.i64.wrap (k - 1)).toNat 64)) &&& 1#64).toNat
def isForB (a : Pmt) (k : Int) : Bool := decide (1 ≤ k) && decide (k ≤ 3) && (kindBit a.Kinds k == 1)
theorem permit_isFor_cs (σ : List Blk) (a : Pmt) (k : Int) : CSF Tryz.prog 149 [.agg (a.enc.map .d), .d (I k)] σ (.d (B (isForB a k))) := by
  refine CSF.of_body T.en149 Tryz.func149 rfl (by simp [Tryz.ntmps149]) (by simp [go_sem]) fun hwf => ?_
  refine awp_reg_seq fun K hK => ?_
  simp [go_sem, Tryz.ntmps149]
  repeat refine ⟨by omega, ?_⟩
  refine hK _ ?_; clear hK K
  refine awp_reg_seq fun K hK => ?_
  simp [go_sem]
  try simp (disch := omega) only [wrapI]
  refine ⟨fun h1 h2 => by rw [wrapI (by omega) (by omega)]; omega, ?_⟩
  repeat refine ⟨by omega, ?_⟩
  refine hK _ ?_; clear hK K
  refine awp_ret ?_
  simp [go_sem, Tryz.results149]
  rfl

def covB (a : Pmt) (r : Int) (n : Nat) (g : Nat → Int) (k d : Int) : Bool := (a.Reader == r) && pmtOpen a n g d && isForB a k
theorem permit_Covers_cs (σ : List Blk) (a : Pmt) (r : Int) (c : Option Nat) (n : Nat) (g : Nat → Int) (k d : Int) (hn : n < 1000000000) : CSF Tryz.prog 125 [.agg (a.enc.map .d), .d (I r), .d (SL c 1 encI n g), .d (I k), .d (I d)] σ (.d (B (covB a r n g k d))) := by
  refine CSF.of_body T.en125 Tryz.func125 rfl (by simp [Tryz.ntmps125]) (by simp [go_sem]) fun hwf => ?_
  refine awp_reg_seq fun K hK => ?_
  simp [go_sem, Tryz.ntmps125]
  repeat refine ⟨by omega, ?_⟩
  refine hK _ ?_; clear hK K
  refine awp_reg_seq fun K hK => ?_
  simp [go_sem]
  repeat refine ⟨by omega, ?_⟩
  refine CSm.mk (permit_open_cs _ a c n g d hn) ?_
  simp [go_sem]
  repeat refine ⟨by omega, ?_⟩
  refine CSm.mk (permit_isFor_cs _ a k) ?_
  simp [go_sem]
  repeat refine ⟨by omega, ?_⟩
  refine hK _ ?_; clear hK K
  refine awp_ret ?_
  simp [go_sem, Tryz.results125, covB] <;> omega

theorem indexPmt_cs (σ : List Blk) (c : Option Nat) (n : Nat) (g : Nat → Pmt) (f : FuncId) (cap : List AV) (p : Pmt → Bool) (hn : n < 1000000000) (hf : ∀ i, i < n → CSF Tryz.prog f (.agg ((g i).enc.map .d) :: cap) σ (.d (B (p (g i))))) : CSF Tryz.prog 123 [.d (SL c 6 Pmt.enc n g), .clo (.func f) [] cap] σ (.d (I (idxFrom p (lst n g) 0))) := by
  refine CSF.of_body T.en123 Tryz.func123 rfl (by simp [Tryz.ntmps123]) (by simp [go_sem]) fun hwf => ?_
  refine awp_reg_seq fun K hK => ?_
  simp [go_sem, Tryz.ntmps123]
  repeat refine ⟨by omega, ?_⟩
  refine hK _ ?_; clear hK K
  refine awp_seq ?_
  refine awp_reg_seq fun K hK => ?_
  simp [go_sem]
  repeat refine ⟨by omega, ?_⟩
  refine hK _ ?_; clear hK K
  refine awp_block ?_
  refine awp_forget [0, 1, 7, 8] (by simp [go_sem, restr]; rfl) ?_
  refine awp_loopU (α := Nat) (fun i => [(8, .d (I i))]) (fun i => _) (fun i => i ≤ n ∧ idxFrom p (lst n g) 0 = idxFrom p ((lst n g).drop i) i) (fun i => n - i) 0 (by simp [go_sem]) rfl (by simp) ?_
  rintro i ⟨hi, hx⟩
  refine awp_reg_seq fun K hK => ?_
  simp [go_sem]
  repeat refine ⟨by omega, ?_⟩
  refine hK _ ?_; clear hK K
  refine awp_seq ?_
  refine awp_forget [0, 1, 7, 8, 9] (by simp only [restr, List.contains_cons, List.contains_nil, Nat.reduceBEq, Bool.or_false, Bool.or_true, Bool.true_or, Bool.false_or, if_true, if_false, Bool.false_eq_true]; rfl) ?_
  refine awp_cond rfl (fun c0 => ?_) (fun c0 => ?_)
  · have d0 := c0; try simp at d0
    rw [drop_lst d0, idxFrom] at hx
    refine awp_skip ?_
    refine awp_seq ?_
    refine awp_block ?_
    refine awp_reg_seq fun K hK => ?_
    simp [go_sem, c0, d0]
    repeat refine ⟨by omega, ?_⟩
    refine hK _ ?_; clear hK K
    refine awp_reg_seq fun K hK => ?_
    simp [go_sem, c0, d0]
    repeat refine ⟨by omega, ?_⟩
    refine CSk.mk (hf i d0) ?_
    simp [go_sem, c0, d0]
    repeat refine ⟨by omega, ?_⟩
    refine hK _ ?_; clear hK K
    refine awp_forget [0, 1, 5, 7, 8, 16] (by simp only [restr, List.contains_cons, List.contains_nil, Nat.reduceBEq, Bool.or_false, Bool.or_true, Bool.true_or, Bool.false_or, if_true, if_false, Bool.false_eq_true]; rfl) ?_
    refine awp_cond rfl (fun c1 => ?_) (fun c1 => ?_)
    · have d1 := c1; try simp at d1
      refine awp_reg_seq fun K hK => ?_
      simp [go_sem, c0, d0, c1, d1]
      repeat refine ⟨by omega, ?_⟩
      refine hK _ ?_; clear hK K
      refine awp_ret ?_
      simp [go_sem, Tryz.results123, hx, c0, d0, c1, d1] <;> omega
    · have d1 := c1; try simp at d1
      refine awp_skip ?_
      refine awp_reg_end fun K hK => ?_
      simp [go_sem, c0, d0, c1, d1]
      try simp (disch := omega) only [wrapI]
      repeat refine ⟨by omega, ?_⟩
      refine hK _ ?_; clear hK K
      refine ⟨i + 1, back_of' (by simp) (.refl _) (by (simp [go_sem, wrap_succ (i := i) (by omega), c0, d0, c1, d1] <;> omega)), ⟨by omega, by rw [hx, c1]; simp⟩, by first | omega | (dsimp only; omega)⟩
  · have d0 := c0; try simp at d0
    rw [drop_all d0, idxFrom] at hx
    refine awp_exit ?_
    refine awp_reg_seq fun K hK => ?_
    simp [go_sem, c0, d0]
    repeat refine ⟨by omega, ?_⟩
    refine hK _ ?_; clear hK K
    refine awp_ret ?_
    simp [go_sem, Tryz.results123, hx, c0, d0] <;> omega

theorem permit_First_1_cs (σ : List Blk) (τ : List Blk) (a : Pmt) (r : Int) (c : Option Nat) (n : Nat) (g : Nat → Int) (k d : Int) (hn : n < 1000000000) : CSF Tryz.prog 124 [.agg (a.enc.map .d), .ptr σ.length 0, .ptr (σ.length + 1) 0, .ptr (σ.length + 2) 0, .ptr (σ.length + 3) 0] (σ ++ .var [.d (I r)] :: .var [.d (SL c 1 encI n g)] :: .var [.d (I k)] :: .var [.d (I d)] :: τ) (.d (B (covB a r n g k d))) := by
  refine CSF.of_body T.en124 Tryz.func124 rfl (by simp [Tryz.ntmps124]) (by simp [go_sem]) fun hwf => ?_
  refine awp_reg_seq fun K hK => ?_
  simp [go_sem, Tryz.ntmps124]
  repeat refine ⟨by omega, ?_⟩
  refine hK _ ?_; clear hK K
  refine awp_reg_seq fun K hK => ?_
  simp [go_sem]
  repeat refine ⟨by omega, ?_⟩
  refine CSk.mk (permit_Covers_cs _ a r c n g k d hn) ?_
  simp [go_sem]
  repeat refine ⟨by omega, ?_⟩
  refine hK _ ?_; clear hK K
  refine awp_ret ?_
  simp [go_sem, Tryz.results124] <;> omega

def firstR (N : Nat) (G : Nat → Pmt) (r : Int) (n : Nat) (g : Nat → Int) (k d : Int) : Int × Bool :=
  if idxFrom (fun a => covB a r n g k d) (lst N G) 0 < 0 ∨ pmtChk N G ≠ 0 then (0, false) else ((G (idxFrom (fun a => covB a r n g k d) (lst N G) 0).toNat).ID, true)
theorem permit_First_cs (σ : List Blk) (C : Option Nat) (N : Nat) (G : Nat → Pmt) (r : Int) (c : Option Nat) (n : Nat) (g : Nat → Int) (k d : Int) (hN : N < 1000000000) (hn : n < 1000000000) : CSF Tryz.prog 95 [.d (SL C 6 Pmt.enc N G), .d (I r), .d (SL c 1 encI n g), .d (I k), .d (I d)] σ (.tup [.d (I (firstR N G r n g k d).1), .d (B (firstR N G r n g k d).2)]) := by
  have hlt := idx_lt' (fun a => covB a r n g k d) N G
  refine CSF.of_body T.en95 Tryz.func95 rfl (by simp [Tryz.ntmps95]) (by simp [go_sem]) fun hwf => ?_
  refine awp_reg_seq fun K hK => ?_
  simp [go_sem, Tryz.ntmps95]
  repeat refine ⟨by omega, ?_⟩
  refine hK _ ?_; clear hK K
  refine awp_reg_seq fun K hK => ?_
  simp [go_sem]
  repeat refine ⟨by omega, ?_⟩
  refine CSk.mk (indexPmt_cs _ C N G _ _ (fun a => covB a r n g k d) hN (fun i hi => permit_First_1_cs σ [] (G i) r c n g k d hn)) ?_
  simp [go_sem]
  repeat refine ⟨by omega, ?_⟩
  refine hK _ ?_; clear hK K
  refine awp_seq ?_
  refine awp_reg_seq fun K hK => ?_
  simp [go_sem]
  repeat refine ⟨by omega, ?_⟩
  refine CSm.mk (permit_Check_cs _ C N G hN) ?_
  simp [go_sem]
  repeat refine ⟨by omega, ?_⟩
  refine hK _ ?_; clear hK K
  refine awp_forget [0, 12, 22] (by simp only [restr, List.contains_cons, List.contains_nil, Nat.reduceBEq, Bool.or_false, Bool.or_true, Bool.true_or, Bool.false_or, if_true, if_false, Bool.false_eq_true]; rfl) ?_
  refine awp_cond rfl (fun c0 => ?_) (fun c0 => ?_)
  · have d0 := c0; try simp at d0
    have hz : firstR N G r n g k d = (0, false) := by unfold firstR; rw [if_pos d0]
    refine awp_reg_seq fun K hK => ?_
    simp [go_sem, c0, d0]
    repeat refine ⟨by omega, ?_⟩
    refine hK _ ?_; clear hK K
    refine awp_ret ?_
    rw [hz]; simp [go_sem, Tryz.results95]
  · have d0 := c0; try simp at d0
    have hz : firstR N G r n g k d = ((G (idxFrom (fun a => covB a r n g k d) (lst N G) 0).toNat).ID, true) := by unfold firstR; rw [if_neg (by omega)]
    refine awp_skip ?_
    refine awp_reg_seq fun K hK => ?_
    simp [go_sem, c0, d0]
    repeat refine ⟨by omega, ?_⟩
    refine hK _ ?_; clear hK K
    refine awp_ret ?_
    rw [hz]; simp [go_sem, Tryz.results95]

theorem kind_bit {K k : Int} (h1 : 1 ≤ K) (h2 : K ≤ 7) (h3 : 1 ≤ k) (h4 : k ≤ 3) : kindBit K k = K / (if k = 1 then 1 else if k = 2 then 2 else 4) % 2 := by
  have hK : K = 1 ∨ K = 2 ∨ K = 3 ∨ K = 4 ∨ K = 5 ∨ K = 6 ∨ K = 7 := by omega
  have hk : k = 1 ∨ k = 2 ∨ k = 3 := by omega
  rcases hK with rfl | rfl | rfl | rfl | rfl | rfl | rfl <;> rcases hk with rfl | rfl | rfl <;> decide
def kd (k : Int) : Int := if k = 1 then 1 else if k = 2 then 2 else 4
theorem pmtOk_iff {a : Pmt} : pmtOk a = true ↔ 1 ≤ a.ID ∧ a.ID ≤ 1073741824 ∧ 1 ≤ a.Reader ∧ a.Reader ≤ 1073741824 ∧ 1 ≤ a.Unit ∧ a.Unit ≤ 1073741824 ∧ 1 ≤ a.Kinds ∧ a.Kinds ≤ 7 ∧ 0 ≤ a.In.From ∧ a.In.From < a.In.Until ∧ a.In.Until ≤ 1048576 := by
  unfold pmtOk idOk spanOk; simp; omega
theorem kind_at {K k : Int} (h1 : 1 ≤ K) (h2 : K ≤ 7) (h3 : 1 ≤ k) (h4 : k ≤ 3) : (IntKind.i64.wrap (K.tdiv (kd k))).tmod 2 = kindBit K k := by
  have hK : K = 1 ∨ K = 2 ∨ K = 3 ∨ K = 4 ∨ K = 5 ∨ K = 6 ∨ K = 7 := by omega
  have hk : k = 1 ∨ k = 2 ∨ k = 3 := by omega
  rcases hK with rfl | rfl | rfl | rfl | rfl | rfl | rfl <;> rcases hk with rfl | rfl | rfl <;> decide
theorem ref34_Covers_cs (σ : List Blk) (a : Pmt) (r : Int) (c : Option Nat) (n : Nat) (g : Nat → Int) (k d : Int) (hn : n < 1000000000) : CSF Tryz.prog 100 [.agg (a.enc.map .d), .d (I r), .d (SL c 1 encI n g), .d (I k), .d (I d)] σ (.d (B (covB a r n g k d))) := by
  refine CSF.of_body T.en100 Tryz.func100 rfl (by simp [Tryz.ntmps100]) (by simp [go_sem]) fun hwf => ?_
  refine awp_reg_seq fun K hK => ?_
  simp [go_sem, Tryz.ntmps100]
  repeat refine ⟨by omega, ?_⟩
  refine hK _ ?_; clear hK K
  refine awp_seq ?_
  refine awp_reg_seq fun K hK => ?_
  simp [go_sem]
  repeat refine ⟨by omega, ?_⟩
  refine CSk.mk (ref34_Form_cs _ a) ?_
  simp [go_sem]
  repeat refine ⟨by omega, ?_⟩
  refine hK _ ?_; clear hK K
  refine awp_forget [1, 2, 3, 4, 5, 21] (by simp only [restr, List.contains_cons, List.contains_nil, Nat.reduceBEq, Bool.or_false, Bool.or_true, Bool.true_or, Bool.false_or, if_true, if_false, Bool.false_eq_true]; rfl) ?_
  refine awp_cond rfl (fun c0 => ?_) (fun c0 => ?_)
  · have d0 := c0; try simp at d0
    have hz : covB a r n g k d = false := by unfold covB pmtOpen isForB; rcases d0 with (h | h) | h <;> simp [h] <;> omega
    refine awp_reg_seq fun K hK => ?_
    simp [go_sem, c0, d0]
    repeat refine ⟨by omega, ?_⟩
    refine hK _ ?_; clear hK K
    refine awp_ret ?_
    rw [hz]; simp [go_sem, Tryz.results100]
  · have d0 := c0; try simp at d0
    have hpo := d0.1.1
    have hp := pmtOk_iff.1 d0.1.1
    have hrow : rowsOf 1 [D.v (Value.int IntKind.i64 1), D.v (Value.int IntKind.i64 2), D.v (Value.int IntKind.i64 4)] (k.toNat - 1) = [I (kd k)] := by
      have hk : k = 1 ∨ k = 2 ∨ k = 3 := by omega
      rcases hk with rfl | rfl | rfl <;> rfl
    have hkd : 1 ≤ kd k ∧ kd k ≤ 4 := by unfold kd; split <;> (try split) <;> omega
    have hwk : IntKind.i64.wrap (k - 1) = k - 1 := wrapI (by omega) (by omega)
    have hb := kind_at hp.2.2.2.2.2.2.1 hp.2.2.2.2.2.2.2.1 d0.1.2 d0.2
    refine awp_skip ?_
    refine awp_draw_seq 36 T.mixed (by kernel_rfl) fun K hK => ?_
    simp [go_sem, c0, d0, hwk, hrow, hb, hpo]
    try simp (disch := omega) only [tdivI, tmodI, wrapI]
    repeat refine ⟨by omega, ?_⟩
    refine CSg.mk (inOf_cs _ c n g a.Unit hn) ?_
    simp [go_sem, c0, d0, hwk, hrow, hb, hpo]
    try simp (disch := omega) only [tdivI, tmodI, wrapI]
    refine ⟨fun h1 h2 => by omega, ?_⟩
    repeat refine ⟨by omega, ?_⟩
    refine hK _ ?_; clear hK K
    refine awp_ret ?_
    simp [go_sem, Tryz.results100, covB, pmtOpen, isForB, hpo, d0, Bool.and_assoc, Bool.and_comm, Bool.and_left_comm]

theorem ref34_First_cs (σ : List Blk) (C : Option Nat) (N : Nat) (G : Nat → Pmt) (r : Int) (c : Option Nat) (n : Nat) (g : Nat → Int) (k d : Int) (hN : N < 1000000000) (hn : n < 1000000000) : CSF Tryz.prog 68 [.d (SL C 6 Pmt.enc N G), .d (I r), .d (SL c 1 encI n g), .d (I k), .d (I d)] σ (.tup [.d (I (firstR N G r n g k d).1), .d (B (firstR N G r n g k d).2)]) := by
  refine CSF.of_body T.en68 Tryz.func68 rfl (by simp [Tryz.ntmps68]) (by simp [go_sem]) fun hwf => ?_
  refine awp_reg_seq fun K hK => ?_
  simp [go_sem, Tryz.ntmps68]
  repeat refine ⟨by omega, ?_⟩
  refine hK _ ?_; clear hK K
  refine awp_seq ?_
  refine awp_reg_seq fun K hK => ?_
  simp [go_sem]
  repeat refine ⟨by omega, ?_⟩
  refine CSk.mk (ref34_Check_cs _ C N G hN) ?_
  simp [go_sem]
  repeat refine ⟨by omega, ?_⟩
  refine hK _ ?_; clear hK K
  refine awp_forget [0, 1, 2, 3, 4, 16] (by simp only [restr, List.contains_cons, List.contains_nil, Nat.reduceBEq, Bool.or_false, Bool.or_true, Bool.true_or, Bool.false_or, if_true, if_false, Bool.false_eq_true]; rfl) ?_
  refine awp_cond rfl (fun c0 => ?_) (fun c0 => ?_)
  · have d0 := c0; try simp at d0
    have hz : firstR N G r n g k d = (0, false) := by unfold firstR; rw [if_pos (.inr d0)]
    refine awp_reg_seq fun K hK => ?_
    simp [go_sem, c0, d0]
    repeat refine ⟨by omega, ?_⟩
    refine hK _ ?_; clear hK K
    refine awp_ret ?_
    rw [hz]; simp [go_sem, Tryz.results68]
  · have d0 := c0; try simp at d0
    refine awp_skip ?_
    refine awp_seq ?_
    refine awp_reg_seq fun K hK => ?_
    simp [go_sem, c0, d0]
    repeat refine ⟨by omega, ?_⟩
    refine hK _ ?_; clear hK K
    refine awp_block ?_
    refine awp_forget [1, 2, 3, 4, 17, 18, 19] (by simp [go_sem, restr]; rfl) ?_
    refine awp_loopU (α := Nat) (fun i => [(19, .d (I i))]) (fun i => _) (fun i => i ≤ N ∧ idxFrom (fun a => covB a r n g k d) (lst N G) 0 = idxFrom (fun a => covB a r n g k d) ((lst N G).drop i) i) (fun i => N - i) 0 (by simp [go_sem]) rfl (by simp) ?_
    rintro i ⟨hi, hx⟩
    refine awp_reg_seq fun K hK => ?_
    simp [go_sem, c0, d0]
    repeat refine ⟨by omega, ?_⟩
    refine hK _ ?_; clear hK K
    refine awp_seq ?_
    refine awp_forget [1, 2, 3, 4, 17, 18, 19, 20] (by simp only [restr, List.contains_cons, List.contains_nil, Nat.reduceBEq, Bool.or_false, Bool.or_true, Bool.true_or, Bool.false_or, if_true, if_false, Bool.false_eq_true]; rfl) ?_
    refine awp_cond rfl (fun c1 => ?_) (fun c1 => ?_)
    · have d1 := c1; try simp at d1
      rw [drop_lst d1, idxFrom] at hx
      refine awp_skip ?_
      refine awp_seq ?_
      refine awp_block ?_
      refine awp_reg_seq fun K hK => ?_
      simp [go_sem, c0, d0, c1, d1]
      repeat refine ⟨by omega, ?_⟩
      refine hK _ ?_; clear hK K
      refine awp_reg_seq fun K hK => ?_
      simp [go_sem, c0, d0, c1, d1]
      repeat refine ⟨by omega, ?_⟩
      refine CSk.mk (ref34_Covers_cs _ (G i) r c n g k d hn) ?_
      simp [go_sem, c0, d0, c1, d1]
      repeat refine ⟨by omega, ?_⟩
      refine hK _ ?_; clear hK K
      refine awp_forget [1, 2, 3, 4, 13, 17, 18, 19, 28] (by simp only [restr, List.contains_cons, List.contains_nil, Nat.reduceBEq, Bool.or_false, Bool.or_true, Bool.true_or, Bool.false_or, if_true, if_false, Bool.false_eq_true]; rfl) ?_
      refine awp_cond rfl (fun c2 => ?_) (fun c2 => ?_)
      · have d2 := c2; try simp at d2
        rw [if_pos c2] at hx
        have hz : firstR N G r n g k d = ((G i).ID, true) := by unfold firstR; rw [hx, if_neg (by omega)]; simp
        refine awp_reg_seq fun K hK => ?_
        simp [go_sem, c0, d0, c1, d1, c2, d2]
        repeat refine ⟨by omega, ?_⟩
        refine hK _ ?_; clear hK K
        refine awp_ret ?_
        rw [hz]; simp [go_sem, Tryz.results68]
      · have d2 := c2; try simp at d2
        refine awp_skip ?_
        refine awp_reg_end fun K hK => ?_
        simp [go_sem, c0, d0, c1, d1, c2, d2]
        try simp (disch := omega) only [wrapI]
        repeat refine ⟨by omega, ?_⟩
        refine hK _ ?_; clear hK K
        refine ⟨i + 1, back_of' (by simp) (.refl _) (by (simp [go_sem, wrap_succ (i := i) (by omega), c0, d0, c1, d1, c2, d2] <;> omega)), ⟨by omega, by rw [hx, if_neg (by simp [d2])]⟩, by first | omega | (dsimp only; omega)⟩
    · have d1 := c1; try simp at d1
      rw [drop_all d1, idxFrom] at hx
      refine awp_exit ?_
      refine awp_reg_seq fun K hK => ?_
      simp [go_sem, c0, d0, c1, d1]
      repeat refine ⟨by omega, ?_⟩
      refine hK _ ?_; clear hK K
      refine awp_ret ?_
      have hz : firstR N G r n g k d = (0, false) := by unfold firstR; rw [hx, if_pos (by omega)]
      rw [hz]; simp [go_sem, Tryz.results68]

end Go.Proofs.YtkochmppmpmddaaGreat

/-! Ce -/
namespace Go.Proofs.YtkochmppmpmddaaGreat
open Go.Abs Go.Arch
set_option linter.unusedVariables false
set_option linter.unusedSimpArgs false
set_option maxRecDepth 100000
set_option maxHeartbeats 400000

structure Row where
  Unit : Int
  Parent : Int
  Accession : Int
instance : Inhabited Row := ⟨⟨0, 0, 0⟩⟩
def Row.enc (r : Row) : List D := [I r.Unit, I r.Parent, I r.Accession]
attribute [go_sem] Row.enc
def findR (n : Nat) (g : Nat → Row) (u : Int) : Int := idxFrom (fun r => r.Unit == u) (lst n g) 0


theorem indexRow_cs (σ : List Blk) (c : Option Nat) (n : Nat) (g : Nat → Row) (f : FuncId) (cap : List AV) (p : Row → Bool) (hn : n < 1000000000) (hf : ∀ i, i < n → CSF Tryz.prog f (.agg ((g i).enc.map .d) :: cap) σ (.d (B (p (g i))))) : CSF Tryz.prog 75 [.d (SL c 3 Row.enc n g), .clo (.func f) [] cap] σ (.d (I (idxFrom p (lst n g) 0))) := by
  refine CSF.of_body T.en75 Tryz.func75 rfl (by simp [Tryz.ntmps75]) (by simp [go_sem]) fun hwf => ?_
  refine awp_reg_seq fun K hK => ?_
  simp [go_sem, Tryz.ntmps75]
  repeat refine ⟨by omega, ?_⟩
  refine hK _ ?_; clear hK K
  refine awp_seq ?_
  refine awp_reg_seq fun K hK => ?_
  simp [go_sem]
  repeat refine ⟨by omega, ?_⟩
  refine hK _ ?_; clear hK K
  refine awp_block ?_
  refine awp_forget [0, 1, 7, 8] (by simp [go_sem, restr]; rfl) ?_
  refine awp_loopU (α := Nat) (fun i => [(8, .d (I i))]) (fun i => _) (fun i => i ≤ n ∧ idxFrom p (lst n g) 0 = idxFrom p ((lst n g).drop i) i) (fun i => n - i) 0 (by simp [go_sem]) rfl (by simp) ?_
  rintro i ⟨hi, hx⟩
  refine awp_reg_seq fun K hK => ?_
  simp [go_sem]
  repeat refine ⟨by omega, ?_⟩
  refine hK _ ?_; clear hK K
  refine awp_seq ?_
  refine awp_forget [0, 1, 7, 8, 9] (by simp only [restr, List.contains_cons, List.contains_nil, Nat.reduceBEq, Bool.or_false, Bool.or_true, Bool.true_or, Bool.false_or, if_true, if_false, Bool.false_eq_true]; rfl) ?_
  refine awp_cond rfl (fun c0 => ?_) (fun c0 => ?_)
  · have d0 := c0; try simp at d0
    rw [drop_lst d0, idxFrom] at hx
    refine awp_skip ?_
    refine awp_seq ?_
    refine awp_block ?_
    refine awp_reg_seq fun K hK => ?_
    simp [go_sem, c0, d0]
    repeat refine ⟨by omega, ?_⟩
    refine hK _ ?_; clear hK K
    refine awp_reg_seq fun K hK => ?_
    simp [go_sem, c0, d0]
    repeat refine ⟨by omega, ?_⟩
    refine CSk.mk (hf i d0) ?_
    simp [go_sem, c0, d0]
    repeat refine ⟨by omega, ?_⟩
    refine hK _ ?_; clear hK K
    refine awp_forget [0, 1, 5, 7, 8, 16] (by simp only [restr, List.contains_cons, List.contains_nil, Nat.reduceBEq, Bool.or_false, Bool.or_true, Bool.true_or, Bool.false_or, if_true, if_false, Bool.false_eq_true]; rfl) ?_
    refine awp_cond rfl (fun c1 => ?_) (fun c1 => ?_)
    · have d1 := c1; try simp at d1
      refine awp_reg_seq fun K hK => ?_
      simp [go_sem, c0, d0, c1, d1]
      repeat refine ⟨by omega, ?_⟩
      refine hK _ ?_; clear hK K
      refine awp_ret ?_
      simp [go_sem, Tryz.results75, hx, c0, d0, c1, d1] <;> omega
    · have d1 := c1; try simp at d1
      refine awp_skip ?_
      refine awp_reg_end fun K hK => ?_
      simp [go_sem, c0, d0, c1, d1]
      try simp (disch := omega) only [wrapI]
      repeat refine ⟨by omega, ?_⟩
      refine hK _ ?_; clear hK K
      refine ⟨i + 1, back_of' (by simp) (.refl _) (by (simp [go_sem, wrap_succ (i := i) (by omega), c0, d0, c1, d1] <;> omega)), ⟨by omega, by rw [hx, c1]; simp⟩, by first | omega | (dsimp only; omega)⟩
  · have d0 := c0; try simp at d0
    rw [drop_all d0, idxFrom] at hx
    refine awp_exit ?_
    refine awp_reg_seq fun K hK => ?_
    simp [go_sem, c0, d0]
    repeat refine ⟨by omega, ?_⟩
    refine hK _ ?_; clear hK K
    refine awp_ret ?_
    simp [go_sem, Tryz.results75, hx, c0, d0] <;> omega

theorem cloneRow_cs (σ : List Blk) (c : Option Nat) (n : Nat) (g : Nat → Row) (hn : n < 1000000000) : CSF Tryz.prog 14 [.d (SL c 3 Row.enc n g)] σ (.d (SL none 3 Row.enc n g)) := by
  refine CSF.of_body T.en14 Tryz.func14 rfl (by simp [Tryz.ntmps14]) (by simp [go_sem]) fun hwf => ?_
  refine awp_reg_seq fun K hK => ?_
  simp [go_sem, Tryz.ntmps14]
  repeat refine ⟨by omega, ?_⟩
  refine hK _ ?_; clear hK K
  refine awp_seq ?_
  refine awp_reg_seq fun K hK => ?_
  simp [go_sem, -Bool.forall_bool]
  intro b1 hb1
  repeat refine ⟨by omega, ?_⟩
  refine hK _ ?_; clear hK K
  refine awp_cond rfl (fun c0 => ?_) (fun c0 => ?_)
  · have d0 := c0; try simp at d0
    refine awp_reg_seq fun K hK => ?_
    simp [go_sem, c0, d0]
    repeat refine ⟨by omega, ?_⟩
    refine hK _ ?_; clear hK K
    refine awp_ret ?_
    have := hb1 c0
    simp [go_sem, Tryz.results14, this]
  · have d0 := c0; try simp at d0
    refine awp_skip ?_
    refine awp_reg_seq fun K hK => ?_
    simp [go_sem, c0, d0, hwf.one, hwf.zero]
    repeat refine ⟨by omega, ?_⟩
    refine hK _ ?_; clear hK K
    refine awp_freeze (σ.length) (by simp [go_sem]; first | exact ⟨rfl, rfl, rfl⟩ | exact ⟨rfl, rfl⟩ | rfl) (by simp [go_sem]; rfl) (by simp [go_sem, hwf.frz, hwf.frz0]; rfl) ?_
    refine awp_ret ?_
    simp [go_sem, Tryz.results14, c0, d0] <;> omega

theorem policy_find_1_cs (σ : List Blk) (τ : List Blk) (r : Row) (u : Int) : CSF Tryz.prog 76 [.agg (r.enc.map .d), .ptr σ.length 0] (σ ++ .var [.d (I u)] :: τ) (.d (B (r.Unit == u))) := by
  refine CSF.of_body T.en76 Tryz.func76 rfl (by simp [Tryz.ntmps76]) (by simp [go_sem]) fun hwf => ?_
  refine awp_reg_seq fun K hK => ?_
  simp [go_sem, Tryz.ntmps76]
  repeat refine ⟨by omega, ?_⟩
  refine hK _ ?_; clear hK K
  refine awp_reg_seq fun K hK => ?_
  simp [go_sem]
  repeat refine ⟨by omega, ?_⟩
  refine hK _ ?_; clear hK K
  refine awp_ret ?_
  simp [go_sem, Tryz.results76] <;> omega

theorem policy_find_cs (σ : List Blk) (c : Option Nat) (n : Nat) (g : Nat → Row) (u : Int) (hn : n < 1000000000) : CSF Tryz.prog 42 [.d (SL c 3 Row.enc n g), .d (I u)] σ (.d (I (findR n g u))) := by
  refine CSF.of_body T.en42 Tryz.func42 rfl (by simp [Tryz.ntmps42]) (by simp [go_sem]) fun hwf => ?_
  refine awp_reg_seq fun K hK => ?_
  simp [go_sem, Tryz.ntmps42]
  repeat refine ⟨by omega, ?_⟩
  refine hK _ ?_; clear hK K
  refine awp_reg_seq fun K hK => ?_
  simp [go_sem]
  repeat refine ⟨by omega, ?_⟩
  refine CSk.mk (indexRow_cs _ c n g _ _ (fun r => r.Unit == u) hn (fun i hi => policy_find_1_cs σ [] (g i) u)) ?_
  simp [go_sem]
  repeat refine ⟨by omega, ?_⟩
  refine hK _ ?_; clear hK K
  refine awp_ret ?_
  simp [go_sem, Tryz.results42, findR] <;> omega

theorem ref35_index_cs (σ : List Blk) (c : Option Nat) (n : Nat) (g : Nat → Row) (u : Int) (hn : n < 1000000000) : CSF Tryz.prog 44 [.d (SL c 3 Row.enc n g), .d (I u)] σ (.d (I (findR n g u))) := by
  refine CSF.of_body T.en44 Tryz.func44 rfl (by simp [Tryz.ntmps44]) (by simp [go_sem]) fun hwf => ?_
  refine awp_reg_seq fun K hK => ?_
  simp [go_sem, Tryz.ntmps44]
  repeat refine ⟨by omega, ?_⟩
  refine hK _ ?_; clear hK K
  refine awp_seq ?_
  refine awp_reg_seq fun K hK => ?_
  simp [go_sem]
  repeat refine ⟨by omega, ?_⟩
  refine hK _ ?_; clear hK K
  refine awp_block ?_
  refine awp_forget [1, 7, 8, 9] (by simp [go_sem, restr]; rfl) ?_
  refine awp_loopU (α := Nat) (fun i => [(9, .d (I i))]) (fun i => _) (fun i => i ≤ n ∧ idxFrom (fun r => r.Unit == u) (lst n g) 0 = idxFrom (fun r => r.Unit == u) ((lst n g).drop i) i) (fun i => n - i) 0 (by simp [go_sem]) rfl (by simp) ?_
  rintro i ⟨hi, hx⟩
  refine awp_reg_seq fun K hK => ?_
  simp [go_sem]
  repeat refine ⟨by omega, ?_⟩
  refine hK _ ?_; clear hK K
  refine awp_seq ?_
  refine awp_forget [1, 7, 8, 9, 10] (by simp only [restr, List.contains_cons, List.contains_nil, Nat.reduceBEq, Bool.or_false, Bool.or_true, Bool.true_or, Bool.false_or, if_true, if_false, Bool.false_eq_true]; rfl) ?_
  refine awp_cond rfl (fun c0 => ?_) (fun c0 => ?_)
  · have d0 := c0; try simp at d0
    rw [drop_lst d0, idxFrom] at hx
    refine awp_skip ?_
    refine awp_seq ?_
    refine awp_block ?_
    refine awp_reg_seq fun K hK => ?_
    simp [go_sem, c0, d0]
    repeat refine ⟨by omega, ?_⟩
    refine hK _ ?_; clear hK K
    refine awp_reg_seq fun K hK => ?_
    simp [go_sem, c0, d0]
    repeat refine ⟨by omega, ?_⟩
    refine hK _ ?_; clear hK K
    refine awp_forget [1, 5, 7, 8, 9, 17] (by simp only [restr, List.contains_cons, List.contains_nil, Nat.reduceBEq, Bool.or_false, Bool.or_true, Bool.true_or, Bool.false_or, if_true, if_false, Bool.false_eq_true]; rfl) ?_
    refine awp_cond rfl (fun c1 => ?_) (fun c1 => ?_)
    · have d1 := c1; try simp at d1
      refine awp_reg_seq fun K hK => ?_
      simp [go_sem, c0, d0, c1, d1]
      repeat refine ⟨by omega, ?_⟩
      refine hK _ ?_; clear hK K
      refine awp_ret ?_
      unfold findR; rw [hx, if_pos (by simp [d1])]; simp [go_sem, Tryz.results44]
    · have d1 := c1; try simp at d1
      refine awp_skip ?_
      refine awp_reg_end fun K hK => ?_
      simp [go_sem, c0, d0, c1, d1]
      try simp (disch := omega) only [wrapI]
      repeat refine ⟨by omega, ?_⟩
      refine hK _ ?_; clear hK K
      refine ⟨i + 1, back_of' (by simp) (.refl _) (by (simp [go_sem, wrap_succ (i := i) (by omega), c0, d0, c1, d1] <;> omega)), ⟨by omega, by rw [hx, if_neg (by simp [d1])]⟩, by first | omega | (dsimp only; omega)⟩
  · have d0 := c0; try simp at d0
    rw [drop_all d0, idxFrom] at hx
    refine awp_exit ?_
    refine awp_reg_seq fun K hK => ?_
    simp [go_sem, c0, d0]
    repeat refine ⟨by omega, ?_⟩
    refine hK _ ?_; clear hK K
    refine awp_ret ?_
    unfold findR; rw [hx]; simp [go_sem, Tryz.results44]

theorem policy_above_cs (σ : List Blk) (c : Option Nat) (n : Nat) (g : Nat → Row) (u : Int) : CS Tryz.prog 46 [.d (SL c 3 Row.enc n g), .d (I u)] σ (fun r σ' X => r = .clo (.func 77) [] [.ptr σ.length 0, .ptr (σ.length + 1) 0] ∧ σ' = σ ++ [.var [.d (SL c 3 Row.enc n g)], .var [.d (I u)]] ∧ X = []) := by
  refine CS.of_bodyW T.en46 Tryz.func46 rfl (by simp [Tryz.ntmps46]) fun hwf => ?_
  refine awp_reg_seq fun K hK => ?_
  simp [go_sem, Tryz.ntmps46]
  repeat refine ⟨by omega, ?_⟩
  refine hK _ ?_; clear hK K
  refine awp_reg_seq fun K hK => ?_
  simp [go_sem]
  repeat refine ⟨by omega, ?_⟩
  refine hK _ ?_; clear hK K
  refine awp_ret ?_
  simp [go_sem, Tryz.results46] <;> omega

end Go.Proofs.YtkochmppmpmddaaGreat

/-! Cf -/
namespace Go.Proofs.YtkochmppmpmddaaGreat
open Go.Abs Go.Arch
set_option linter.unusedVariables false
set_option linter.unusedSimpArgs false
set_option maxRecDepth 100000
set_option maxHeartbeats 400000

/-- what the rounds of a range over above do: K rounds over the rows x 0, x 1, ..; t: what the last one answers -/
structure Ways (S : Nat → List Blk) (c : Option Nat) (n : Nat) (g : Nat → Row) (u : Int) (K : Nat) (x : Nat → Nat) (t : Bool) (y a b o : Nat) : Prop where
  ha : ∀ i, (S i)[a]? = some (.var [.d (SL c 3 Row.enc n g)])
  ha0 : ∀ i, (S i)[a]? = some (.var [.d (SL c 3 Row.enc n g)])
  hb : ∀ i, (S i)[b]? = some (.var [.d (I u)])
  hb0 : ∀ i, (S i)[b]? = some (.var [.d (I u)])
  hlv : ∀ i, Abs.Leaves (S 0) (S i)
  hls : ∀ i, Abs.Leaves (S i) (S (i + 1))
  hol : ∀ i, ¬ (S i).length = o
  hyo : ¬ y = o
  hao : ¬ a = o
  hbo : ¬ b = o
  first : findR n g u = if 0 = K then -1 else (x 0 : Int)
  lt : ∀ i, i < K → x i < n
  mid : ∀ i, i + 1 < K → (g (x i)).Parent ≠ 0 ∧ findR n g (g (x i)).Parent = (x (i + 1) : Int)
  yes : ∀ i, i + 1 < K → YS Tryz.prog y [.agg ((g (x i)).enc.map .d)] (S i) (fun r σ' X => X = [o] ∧ r = .d (B true) ∧ σ' = S (i + 1))
  last : ∀ i, i + 1 = K → YS Tryz.prog y [.agg ((g (x i)).enc.map .d)] (S i) (fun r σ' X => X = [o] ∧ r = .d (B t) ∧ σ' = S (i + 1))
  fin : ∀ i, i + 1 = K → t = true → (g (x i)).Parent ≠ 0 → findR n g (g (x i)).Parent = -1


theorem policy_above_1_cs (σ : List Blk) (S : Nat → List Blk) (c : Option Nat) (n : Nat) (g : Nat → Row) (u : Int) (K' : Nat) (x : Nat → Nat) (t : Bool) (y a b o : Nat) (h : Ways S c n g u K' x t y a b o) (hn : n < 1000000000) : CS Tryz.prog 77 [.yld y, .ptr a 0, .ptr b 0] (S 0) (fun r σ' X' => X' = [o] ∧ r = .tup [] ∧ σ' = S K') := by
  refine CS.of_bodyD [o] T.en77 Tryz.func77 rfl (by simp [Tryz.ntmps77]) fun hwf => ?_
  refine awp_reg_seq fun K hK => ?_
  simp [go_sem, Tryz.ntmps77, h.hol, h.ha, h.ha0, h.hb, h.hb0, h.hyo, h.hao, h.hbo]
  repeat refine ⟨by omega, ?_⟩
  refine CSk.mk (policy_find_cs _ c n g u hn) ?_
  simp [go_sem, h.hol, h.ha, h.ha0, h.hb, h.hb0, h.hyo, h.hao, h.hbo]
  repeat refine ⟨by omega, ?_⟩
  refine hK _ ?_; clear hK K
  refine awp_block ?_
  refine awp_forget [0, 1, 4] (by simp [go_sem, restr]; rfl) ?_
  refine awp_mv [o] (by simp) ?_
  refine awp_loopU (α := Nat) (fun i => [(4, .d (I (if i = K' then -1 else (x i : Int))))]) (fun i => S i) (fun i => i ≤ K') (fun i => K' - i) 0 (by simp [go_sem, h.hol, h.ha, h.ha0, h.hb, h.hb0, h.hyo, h.hao, h.hbo, h.first]) rfl (by simp) ?_
  rintro i hi
  refine awp_seq ?_
  refine awp_reg_seq fun K hK => ?_
  simp [go_sem, h.hol, h.ha, h.ha0, h.hb, h.hb0, h.hyo, h.hao, h.hbo]
  repeat refine ⟨by omega, ?_⟩
  refine hK _ ?_; clear hK K
  refine awp_forget [0, 1, 4, 9] (by simp only [restr, List.contains_cons, List.contains_nil, Nat.reduceBEq, Bool.or_false, Bool.or_true, Bool.true_or, Bool.false_or, if_true, if_false, Bool.false_eq_true]; rfl) ?_
  refine awp_cond rfl (fun c0 => ?_) (fun c0 => ?_)
  · have hik : ¬ i = K' := fun he => by rw [if_pos he] at c0; simp at c0
    have hxl := h.lt i (by omega)
    refine awp_skip ?_
    refine awp_seq ?_
    refine awp_block ?_
    refine awp_reg_seq fun K hK => ?_
    simp [go_sem, h.hol, h.ha, h.ha0, h.hb, h.hb0, h.hyo, h.hao, h.hbo, c0, hik]
    repeat refine ⟨by omega, ?_⟩
    by_cases hl : i + 1 = K'
    · have hl1 := h.last i hl
      refine YSk.gen hl1 ?_
      rintro r σ' X ⟨rfl, rfl, rfl⟩
      simp [go_sem, h.hol, h.ha, h.ha0, h.hb, h.hb0, h.hyo, h.hao, h.hbo, c0, hik]
      repeat refine ⟨by omega, ?_⟩
      refine hK _ ?_; clear hK K
      refine awp_forget [0, 1, 4, 31] (by simp only [restr, List.contains_cons, List.contains_nil, Nat.reduceBEq, Bool.or_false, Bool.or_true, Bool.true_or, Bool.false_or, if_true, if_false, Bool.false_eq_true]; rfl) ?_
      refine awp_cond rfl (fun c1 => ?_) (fun c1 => ?_)
      · refine awp_ret ?_
        rw [hl]
        simp [go_sem, Tryz.results77]
        exact h.hlv _
      · have d1 := c1; simp at d1
        have hf := h.fin i hl d1.1 d1.2
        refine awp_skip ?_
        refine awp_draw_end 7 T.mixed (by kernel_rfl) fun K hK => ?_
        simp [go_sem, h.hol, h.ha, h.ha0, h.hb, h.hb0, h.hyo, h.hao, h.hbo, c0, hik]
        repeat refine ⟨by omega, ?_⟩
        refine CSg.mk (policy_find_cs _ c n g _ hn) ?_
        simp [go_sem, h.hol, h.ha, h.ha0, h.hb, h.hb0, h.hyo, h.hao, h.hbo, c0, hik, hf]
        repeat refine ⟨by omega, ?_⟩
        refine hK _ ?_; clear hK K
        refine ⟨i + 1, back_of' (by simp) (h.hls i) (by (simp [go_sem, h.hol, h.ha, h.ha0, h.hb, h.hb0, h.hyo, h.hao, h.hbo, c0, hik, hf, hl] <;> omega)), by omega, by first | omega | (dsimp only; omega)⟩
    · obtain ⟨hp, hf⟩ := h.mid i (by omega)
      have hl1 := h.yes i (by omega)
      refine YSk.gen hl1 ?_
      rintro r σ' X ⟨rfl, rfl, rfl⟩
      simp [go_sem, h.hol, h.ha, h.ha0, h.hb, h.hb0, h.hyo, h.hao, h.hbo, c0, hik, hp]
      repeat refine ⟨by omega, ?_⟩
      refine hK _ ?_; clear hK K
      refine awp_forget [0, 1, 4, 31] (by simp only [restr, List.contains_cons, List.contains_nil, Nat.reduceBEq, Bool.or_false, Bool.or_true, Bool.true_or, Bool.false_or, if_true, if_false, Bool.false_eq_true]; rfl) ?_
      refine awp_cond rfl (fun c1 => ?_) (fun c1 => ?_)
      · simp [hp] at c1
      · refine awp_skip ?_
        refine awp_draw_end 7 T.mixed (by kernel_rfl) fun K hK => ?_
        simp [go_sem, h.hol, h.ha, h.ha0, h.hb, h.hb0, h.hyo, h.hao, h.hbo, c0, hik]
        repeat refine ⟨by omega, ?_⟩
        refine CSg.mk (policy_find_cs _ c n g _ hn) ?_
        simp [go_sem, h.hol, h.ha, h.ha0, h.hb, h.hb0, h.hyo, h.hao, h.hbo, c0, hik, hf]
        repeat refine ⟨by omega, ?_⟩
        refine hK _ ?_; clear hK K
        refine ⟨i + 1, back_of' (by simp) (h.hls i) (by (simp [go_sem, h.hol, h.ha, h.ha0, h.hb, h.hb0, h.hyo, h.hao, h.hbo, c0, hik, hf, hl] <;> omega)), by omega, by first | omega | (dsimp only; omega)⟩
  · have he : i = K' := Classical.byContradiction fun hn => by rw [if_neg hn] at c0; simp at c0
    subst he
    refine awp_exit ?_
    simp [go_sem, Tryz.results77]
    exact h.hlv _

end Go.Proofs.YtkochmppmpmddaaGreat

/-! Cg -/
namespace Go.Proofs.YtkochmppmpmddaaGreat
open Go.Abs Go.Arch
set_option linter.unusedVariables false
set_option linter.unusedSimpArgs false
set_option maxRecDepth 100000
set_option maxHeartbeats 400000

/-- the way upwards from a unit: the rows x 0, x 1, .. x (K - 1) -/
structure PathOf (n : Nat) (g : Nat → Row) (u : Int) (K : Nat) (x : Nat → Nat) : Prop where
  first : findR n g u = if 0 = K then -1 else (x 0 : Int)
  lt : ∀ i, i < K → x i < n
  mid : ∀ i, i + 1 < K → (g (x i)).Parent ≠ 0 ∧ findR n g (g (x i)).Parent = (x (i + 1) : Int)
  fin : ∀ i, i + 1 = K → (g (x i)).Parent ≠ 0 → findR n g (g (x i)).Parent = -1

theorem cat_fun {f : Nat → Int} {k : Nat} {ds : List D} (h : ds.take 1 = encI (f k)) {q : Nat} (hq : q < k + 1) : catRows k (fun q => encI (f q)) (rowsOf 1 ds) q = encI (f q) := by
  unfold catRows
  split
  · rfl
  · have : q = k := by omega
    subst this
    simp [rowsOf, h]

theorem policy_path_cs (σ : List Blk) (c : Option Nat) (n : Nat) (g : Nat → Row) (u : Int) (K' : Nat) (x : Nat → Nat) (hP : PathOf n g u K' x) (hn : n < 1000000000) (hK : K' < 1000000000) : CSF Tryz.prog 43 [.d (SL c 3 Row.enc n g), .d (I u)] σ (.d (SL none 1 encI K' (fun i => (g (x i)).Unit))) := by
  refine CSF.of_body T.en43 Tryz.func43 rfl (by simp [Tryz.ntmps43]) (by simp [go_sem]) fun hwf => ?_
  refine awp_reg_seq fun K hK => ?_
  simp [go_sem, Tryz.ntmps43]
  refine hK _ ?_; clear hK K
  refine awp_reg_seq fun K hK => ?_
  simp [go_sem]
  refine hK _ ?_; clear hK K
  refine awp_thawV σ.length 1 (fun i => encI (g (x i)).Unit) (by simp [go_sem]) (by simp [go_sem]; rfl) ?_
  refine awp_seq ?_
  refine awp_reg_seq fun K hK => ?_
  simp [go_sem]
  have hcl := policy_above_cs (σ ++ [.var [.ms (σ.length + 1) 1 0 0], .arr 1 0 (fun i => encI (g (x i)).Unit)]) c n g u
  simp only [List.append_assoc, List.cons_append, List.nil_append, List.length_append, List.length_cons, List.length_nil, Nat.zero_add, Nat.reduceAdd] at hcl
  refine CSk.gen hcl ?_
  rintro r σ' X ⟨rfl, rfl, rfl⟩
  simp [go_sem]
  refine hK _ ?_; clear hK K
  refine awp_block ?_
  refine awp_rangeL rfl [(5, .ptr σ.length 0)] (by simp [go_sem]) ?_
  intro La hLa
  have hround : ∀ i, i < K' → YS Tryz.prog (σ.length + 4) [.agg ((g (x i)).enc.map .d)] (σ ++ [.var [.ms (σ.length + 1) 1 0 i], .arr 1 i (fun q => encI (g (x q)).Unit), .var [.d (SL c 3 Row.enc n g)], .var [.d (I u)], .lp La .ready none]) (fun r σ' X => X = [σ.length + 1] ∧ r = .d (B true) ∧ σ' = σ ++ [.var [.ms (σ.length + 1) 1 0 (i + 1)], .arr 1 (i + 1) (fun q => encI (g (x q)).Unit), .var [.d (SL c 3 Row.enc n g)], .var [.d (I u)], .lp La .ready none]) := by
    intro i hi
    refine YS.of_awp (L := La) (pd := none) (by simp [go_sem]) (by rw [hLa]; rfl) ?_
    intro hwf'
    have eN := congrArg LoopA.N hLa
    have et := congrArg LoopA.t hLa
    have ep := congrArg LoopA.ps hLa
    have ea := congrArg LoopA.assign hLa
    have eb := congrArg LoopA.body hLa
    dsimp only at eN et ep ea eb
    have h1 : scrub' [σ.length + 1] La.t = La.t := by rw [et]; simp [scrub', AV.avoids]
    rw [eN, et, ep, ea, eb]
    clear eN et ep ea eb hLa hcl
    refine awp_reg_end fun K hK => ?_
    simp [go_sem, St.putL]
    refine hK _ ?_; clear hK K
    simp [begunQ, go_sem, mvNot]
    refine awp_block ?_
    refine awp_post ?_
    refine awp_reg_end fun K hK => ?_
    simp [go_sem, hwf.one, hwf.zero, h1]
    repeat refine ⟨by omega, ?_⟩
    refine hK _ ?_; clear hK K
    refine ⟨_, sub_rows (σ.length + 1) (fun q => encI (g (x q)).Unit) (by simp [go_sem]; first | exact ⟨rfl, rfl, rfl⟩ | exact ⟨rfl, rfl⟩ | rfl) (by exact fun q hq => cat_fun (f := fun q => (g (x q)).Unit) rfl hq) (by simp [go_sem]; rfl), ?_⟩
    simp [go_sem, roundQ, jumpOf, mvNot, mvIn]
    exact leaves_app (by simp [go_sem, leavesL_refl])
  have hR : Ways (fun i => σ ++ [.var [.ms (σ.length + 1) 1 0 i], .arr 1 i (fun q => encI (g (x q)).Unit), .var [.d (SL c 3 Row.enc n g)], .var [.d (I u)], .lp La .ready none]) c n g u K' x true (σ.length + 4) (σ.length + 2) (σ.length + 3) (σ.length + 1) := by
    refine ⟨fun i => by simp [go_sem], fun i => by simp [go_sem], fun i => by simp [go_sem], fun i => by simp [go_sem], fun i => leaves_app (by simp [go_sem]), fun i => leaves_app (by simp [go_sem]), fun i => by simp, by omega, by omega, by omega, hP.first, hP.lt, hP.mid, fun i hi => hround i (by omega), fun i hi => hround i (by omega), fun i hi _ => hP.fin i hi⟩
  have h3 := policy_above_1_cs σ _ c n g u K' x true _ _ _ _ hR hn
  refine CS.mono (Q := fun r σ' X' => X' = [σ.length + 1] ∧ r = .tup [] ∧ σ' = _) (by simpa [go_sem] using h3) ?_
  rintro r σ' X ⟨rfl, rfl, rfl⟩
  clear h3 hR hround hLa hcl
  refine ⟨σ ++ [.var [.ms (σ.length + 1) 1 0 K'], .arr 1 K' (fun q => encI (g (x q)).Unit), .var [.d (SL c 3 Row.enc n g)], .var [.d (I u)]], La, .ready, none, by simp [go_sem], leaves_app (by simp [go_sem]), by simp, by simp [mvNot], ?_⟩
  simp [jumpQ, go_sem, scrub', AV.avoids, avoidsL]
  refine awp_reg_seq fun K hK => ?_
  simp [go_sem]
  refine hK _ ?_; clear hK K
  refine awp_freeze (σ.length + 1) (by simp [go_sem]; first | exact ⟨rfl, rfl, rfl⟩ | exact ⟨rfl, rfl⟩ | rfl) (by simp [go_sem]; rfl) (by simp [go_sem, hwf.frz, hwf.frz0]; rfl) ?_
  refine awp_ret ?_
  simp [go_sem, Tryz.results43]

end Go.Proofs.YtkochmppmpmddaaGreat

/-! Ch -/
namespace Go.Proofs.YtkochmppmpmddaaGreat
open Go.Abs Go.Arch
set_option linter.unusedVariables false
set_option linter.unusedSimpArgs false
set_option maxRecDepth 100000
set_option maxHeartbeats 400000

/-- numbers ascend up to a place -/
def ascB (g : Nat → Int) : Nat → Bool
  | 0 => true
  | 1 => true
  | i + 2 => ascB g (i + 1) && decide (g i < g (i + 1))
theorem ascB_iff (g : Nat → Int) : ∀ n, ascB g n = true ↔ ∀ i, 0 < i → i < n → g (i - 1) < g i
  | 0 => by simp [ascB]
  | 1 => by simp only [ascB, true_iff]; intro i h1 h2; omega
  | n + 2 => by
    rw [ascB, Bool.and_eq_true, ascB_iff g (n + 1)]
    constructor
    · rintro ⟨h1, h2⟩ i hp hi
      by_cases he : i = n + 1
      · subst he; simpa using h2
      · exact h1 i hp (by omega)
    · intro h
      exact ⟨fun i hp hi => h i hp (by omega), by simpa using h (n + 1) (by omega) (by omega)⟩
theorem asc_step {g : Nat → Int} {i : Nat} (hx : ∀ q, 0 < q → q < i → g (q - 1) < g q) (h : 0 < i → g (i - 1) < g i) : ∀ q, 0 < q → q < i + 1 → g (q - 1) < g q := by
  intro q hp hq
  by_cases hqi : q = i
  · subst hqi; exact h hp
  · exact hx q hp (by omega)
theorem asc_yes {g : Nat → Int} {n : Nat} (h : ∀ q, 0 < q → q < n → g (q - 1) < g q) : ascB g n = true := (ascB_iff g n).2 h
theorem asc_no {g : Nat → Int} {n i : Nat} (hi : i < n) (hp : 0 < i) (h : g i ≤ g (i - 1)) : ascB g n = false := by
  cases hb : ascB g n with
  | false => rfl
  | true => have := (ascB_iff g n).1 hb i hp hi; omega


theorem policy_increase_cs (σ : List Blk) (c : Option Nat) (n : Nat) (g : Nat → Int) (hn : n < 1000000000) : CSF Tryz.prog 84 [.d (SL c 1 encI n g)] σ (.d (B (ascB g n))) := by
  refine CSF.of_body T.en84 Tryz.func84 rfl (by simp [Tryz.ntmps84]) (by simp [go_sem]) fun hwf => ?_
  refine awp_reg_seq fun K hK => ?_
  simp [go_sem, Tryz.ntmps84]
  repeat refine ⟨by omega, ?_⟩
  refine hK _ ?_; clear hK K
  refine awp_seq ?_
  refine awp_reg_seq fun K hK => ?_
  simp [go_sem]
  repeat refine ⟨by omega, ?_⟩
  refine hK _ ?_; clear hK K
  refine awp_block ?_
  refine awp_forget [0, 5, 6] (by simp [go_sem, restr]; rfl) ?_
  refine awp_loopU (α := Nat) (fun i => [(6, .d (I i))]) (fun i => _) (fun i => i ≤ n ∧ ∀ q, 0 < q → q < i → g (q - 1) < g q) (fun i => n - i) 0 (by simp [go_sem]) rfl (by simp) ?_
  rintro i ⟨hi, hx⟩
  refine awp_reg_seq fun K hK => ?_
  simp [go_sem, wrap_pred (i := i) (by omega)]
  repeat refine ⟨by omega, ?_⟩
  refine hK _ ?_; clear hK K
  refine awp_seq ?_
  refine awp_forget [0, 5, 6, 7] (by simp only [restr, List.contains_cons, List.contains_nil, Nat.reduceBEq, Bool.or_false, Bool.or_true, Bool.true_or, Bool.false_or, if_true, if_false, Bool.false_eq_true]; rfl) ?_
  refine awp_cond rfl (fun c0 => ?_) (fun c0 => ?_)
  · have d0 := c0; try simp at d0
    refine awp_skip ?_
    refine awp_seq ?_
    refine awp_block ?_
    refine awp_reg_seq fun K hK => ?_
    simp [go_sem, wrap_pred (i := i) (by omega), c0, d0]
    repeat refine ⟨by omega, ?_⟩
    refine hK _ ?_; clear hK K
    refine awp_draw_seq 14 T.mixed (by kernel_rfl) fun K hK => ?_
    simp [go_sem, wrap_pred (i := i) (by omega), c0, d0]
    try simp (disch := omega) only [wrapI]
    repeat refine ⟨by omega, ?_⟩
    refine hK _ ?_; clear hK K
    refine awp_forget [0, 5, 6, 22] (by simp only [restr, List.contains_cons, List.contains_nil, Nat.reduceBEq, Bool.or_false, Bool.or_true, Bool.true_or, Bool.false_or, if_true, if_false, Bool.false_eq_true]; rfl) ?_
    refine awp_cond rfl (fun c1 => ?_) (fun c1 => ?_)
    · have d1 := c1; try simp at d1
      refine awp_reg_seq fun K hK => ?_
      simp [go_sem, wrap_pred (i := i) (by omega), c0, d0, c1, d1]
      repeat refine ⟨by omega, ?_⟩
      refine hK _ ?_; clear hK K
      refine awp_ret ?_
      rw [asc_no d0 d1.1 d1.2]; simp [go_sem, Tryz.results84]
    · have d1 := c1; try simp at d1
      refine awp_skip ?_
      refine awp_reg_end fun K hK => ?_
      simp [go_sem, wrap_pred (i := i) (by omega), c0, d0, c1, d1]
      try simp (disch := omega) only [wrapI]
      repeat refine ⟨by omega, ?_⟩
      refine hK _ ?_; clear hK K
      refine ⟨i + 1, back_of' (by simp) (.refl _) (by (simp [go_sem, wrap_succ (i := i) (by omega), wrap_pred (i := i) (by omega), c0, d0, c1, d1] <;> omega)), ⟨by omega, asc_step hx d1⟩, by first | omega | (dsimp only; omega)⟩
  · have d0 := c0; try simp at d0
    obtain rfl : i = n := by omega
    refine awp_exit ?_
    refine awp_reg_seq fun K hK => ?_
    simp [go_sem, wrap_pred (i := i) (by omega), c0, d0]
    repeat refine ⟨by omega, ?_⟩
    refine hK _ ?_; clear hK K
    refine awp_ret ?_
    rw [asc_yes hx]; simp [go_sem, Tryz.results84]

theorem ref35_rising_cs (σ : List Blk) (c : Option Nat) (n : Nat) (g : Nat → Int) (hn : n < 1000000000) : CSF Tryz.prog 93 [.d (SL c 1 encI n g)] σ (.d (B (ascB g n))) := by
  refine CSF.of_body T.en93 Tryz.func93 rfl (by simp [Tryz.ntmps93]) (by simp [go_sem]) fun hwf => ?_
  refine awp_reg_seq fun K hK => ?_
  simp [go_sem, Tryz.ntmps93]
  repeat refine ⟨by omega, ?_⟩
  refine hK _ ?_; clear hK K
  refine awp_seq ?_
  refine awp_reg_seq fun K hK => ?_
  simp [go_sem]
  repeat refine ⟨by omega, ?_⟩
  refine hK _ ?_; clear hK K
  refine awp_block ?_
  refine awp_forget [0, 5, 6] (by simp [go_sem, restr]; rfl) ?_
  refine awp_loopU (α := Nat) (fun i => [(6, .d (I i))]) (fun i => _) (fun i => i ≤ n ∧ ∀ q, 0 < q → q < i → g (q - 1) < g q) (fun i => n - i) 0 (by simp [go_sem]) rfl (by simp) ?_
  rintro i ⟨hi, hx⟩
  refine awp_reg_seq fun K hK => ?_
  simp [go_sem, wrap_pred (i := i) (by omega)]
  repeat refine ⟨by omega, ?_⟩
  refine hK _ ?_; clear hK K
  refine awp_seq ?_
  refine awp_forget [0, 5, 6, 7] (by simp only [restr, List.contains_cons, List.contains_nil, Nat.reduceBEq, Bool.or_false, Bool.or_true, Bool.true_or, Bool.false_or, if_true, if_false, Bool.false_eq_true]; rfl) ?_
  refine awp_cond rfl (fun c0 => ?_) (fun c0 => ?_)
  · have d0 := c0; try simp at d0
    refine awp_skip ?_
    refine awp_seq ?_
    refine awp_block ?_
    refine awp_reg_seq fun K hK => ?_
    simp [go_sem, wrap_pred (i := i) (by omega), c0, d0]
    repeat refine ⟨by omega, ?_⟩
    refine hK _ ?_; clear hK K
    refine awp_draw_seq 14 T.mixed (by kernel_rfl) fun K hK => ?_
    simp [go_sem, wrap_pred (i := i) (by omega), c0, d0]
    try simp (disch := omega) only [wrapI]
    repeat refine ⟨by omega, ?_⟩
    refine hK _ ?_; clear hK K
    refine awp_forget [0, 5, 6, 22] (by simp only [restr, List.contains_cons, List.contains_nil, Nat.reduceBEq, Bool.or_false, Bool.or_true, Bool.true_or, Bool.false_or, if_true, if_false, Bool.false_eq_true]; rfl) ?_
    refine awp_cond rfl (fun c1 => ?_) (fun c1 => ?_)
    · have d1 := c1; try simp at d1
      refine awp_reg_seq fun K hK => ?_
      simp [go_sem, wrap_pred (i := i) (by omega), c0, d0, c1, d1]
      repeat refine ⟨by omega, ?_⟩
      refine hK _ ?_; clear hK K
      refine awp_ret ?_
      rw [asc_no d0 d1.1 d1.2]; simp [go_sem, Tryz.results93]
    · have d1 := c1; try simp at d1
      refine awp_skip ?_
      refine awp_reg_end fun K hK => ?_
      simp [go_sem, wrap_pred (i := i) (by omega), c0, d0, c1, d1]
      try simp (disch := omega) only [wrapI]
      repeat refine ⟨by omega, ?_⟩
      refine hK _ ?_; clear hK K
      refine ⟨i + 1, back_of' (by simp) (.refl _) (by (simp [go_sem, wrap_succ (i := i) (by omega), wrap_pred (i := i) (by omega), c0, d0, c1, d1] <;> omega)), ⟨by omega, asc_step hx d1⟩, by first | omega | (dsimp only; omega)⟩
  · have d0 := c0; try simp at d0
    obtain rfl : i = n := by omega
    refine awp_exit ?_
    refine awp_reg_seq fun K hK => ?_
    simp [go_sem, wrap_pred (i := i) (by omega), c0, d0]
    repeat refine ⟨by omega, ?_⟩
    refine hK _ ?_; clear hK K
    refine awp_ret ?_
    rw [asc_yes hx]; simp [go_sem, Tryz.results93]

theorem cloneAgr_cs (σ : List Blk) (c : Option Nat) (n : Nat) (g : Nat → Agr) (hn : n < 1000000000) : CSF Tryz.prog 55 [.d (SL c 6 Agr.enc n g)] σ (.d (SL none 6 Agr.enc n g)) := by
  refine CSF.of_body T.en55 Tryz.func55 rfl (by simp [Tryz.ntmps55]) (by simp [go_sem]) fun hwf => ?_
  refine awp_reg_seq fun K hK => ?_
  simp [go_sem, Tryz.ntmps55]
  repeat refine ⟨by omega, ?_⟩
  refine hK _ ?_; clear hK K
  refine awp_seq ?_
  refine awp_reg_seq fun K hK => ?_
  simp [go_sem, -Bool.forall_bool]
  intro b1 hb1
  repeat refine ⟨by omega, ?_⟩
  refine hK _ ?_; clear hK K
  refine awp_cond rfl (fun c0 => ?_) (fun c0 => ?_)
  · have d0 := c0; try simp at d0
    refine awp_reg_seq fun K hK => ?_
    simp [go_sem, c0, d0]
    repeat refine ⟨by omega, ?_⟩
    refine hK _ ?_; clear hK K
    refine awp_ret ?_
    have := hb1 c0
    simp [go_sem, Tryz.results55, this]
  · have d0 := c0; try simp at d0
    refine awp_skip ?_
    refine awp_reg_seq fun K hK => ?_
    simp [go_sem, c0, d0, hwf.one, hwf.zero]
    repeat refine ⟨by omega, ?_⟩
    refine hK _ ?_; clear hK K
    refine awp_freeze (σ.length) (by simp [go_sem]; first | exact ⟨rfl, rfl, rfl⟩ | exact ⟨rfl, rfl⟩ | rfl) (by simp [go_sem]; rfl) (by simp [go_sem, hwf.frz, hwf.frz0]; rfl) ?_
    refine awp_ret ?_
    simp [go_sem, Tryz.results55, c0, d0] <;> omega

theorem clonePmt_cs (σ : List Blk) (c : Option Nat) (n : Nat) (g : Nat → Pmt) (hn : n < 1000000000) : CSF Tryz.prog 56 [.d (SL c 6 Pmt.enc n g)] σ (.d (SL none 6 Pmt.enc n g)) := by
  refine CSF.of_body T.en56 Tryz.func56 rfl (by simp [Tryz.ntmps56]) (by simp [go_sem]) fun hwf => ?_
  refine awp_reg_seq fun K hK => ?_
  simp [go_sem, Tryz.ntmps56]
  repeat refine ⟨by omega, ?_⟩
  refine hK _ ?_; clear hK K
  refine awp_seq ?_
  refine awp_reg_seq fun K hK => ?_
  simp [go_sem, -Bool.forall_bool]
  intro b1 hb1
  repeat refine ⟨by omega, ?_⟩
  refine hK _ ?_; clear hK K
  refine awp_cond rfl (fun c0 => ?_) (fun c0 => ?_)
  · have d0 := c0; try simp at d0
    refine awp_reg_seq fun K hK => ?_
    simp [go_sem, c0, d0]
    repeat refine ⟨by omega, ?_⟩
    refine hK _ ?_; clear hK K
    refine awp_ret ?_
    have := hb1 c0
    simp [go_sem, Tryz.results56, this]
  · have d0 := c0; try simp at d0
    refine awp_skip ?_
    refine awp_reg_seq fun K hK => ?_
    simp [go_sem, c0, d0, hwf.one, hwf.zero]
    repeat refine ⟨by omega, ?_⟩
    refine hK _ ?_; clear hK K
    refine awp_freeze (σ.length) (by simp [go_sem]; first | exact ⟨rfl, rfl, rfl⟩ | exact ⟨rfl, rfl⟩ | rfl) (by simp [go_sem]; rfl) (by simp [go_sem, hwf.frz, hwf.frz0]; rfl) ?_
    refine awp_ret ?_
    simp [go_sem, Tryz.results56, c0, d0] <;> omega

theorem cloneInt_cs (σ : List Blk) (c : Option Nat) (n : Nat) (g : Nat → Int) (hn : n < 1000000000) : CSF Tryz.prog 53 [.d (SL c 1 encI n g)] σ (.d (SL none 1 encI n g)) := by
  refine CSF.of_body T.en53 Tryz.func53 rfl (by simp [Tryz.ntmps53]) (by simp [go_sem]) fun hwf => ?_
  refine awp_reg_seq fun K hK => ?_
  simp [go_sem, Tryz.ntmps53]
  repeat refine ⟨by omega, ?_⟩
  refine hK _ ?_; clear hK K
  refine awp_seq ?_
  refine awp_reg_seq fun K hK => ?_
  simp [go_sem, -Bool.forall_bool]
  intro b1 hb1
  repeat refine ⟨by omega, ?_⟩
  refine hK _ ?_; clear hK K
  refine awp_cond rfl (fun c0 => ?_) (fun c0 => ?_)
  · have d0 := c0; try simp at d0
    refine awp_reg_seq fun K hK => ?_
    simp [go_sem, c0, d0]
    repeat refine ⟨by omega, ?_⟩
    refine hK _ ?_; clear hK K
    refine awp_ret ?_
    have := hb1 c0
    simp [go_sem, Tryz.results53, this]
  · have d0 := c0; try simp at d0
    refine awp_skip ?_
    refine awp_reg_seq fun K hK => ?_
    simp [go_sem, c0, d0, hwf.one, hwf.zero]
    repeat refine ⟨by omega, ?_⟩
    refine hK _ ?_; clear hK K
    refine awp_freeze (σ.length) (by simp [go_sem]; first | exact ⟨rfl, rfl, rfl⟩ | exact ⟨rfl, rfl⟩ | rfl) (by simp [go_sem]; rfl) (by simp [go_sem, hwf.frz, hwf.frz0]; rfl) ?_
    refine awp_ret ?_
    simp [go_sem, Tryz.results53, c0, d0] <;> omega

end Go.Proofs.YtkochmppmpmddaaGreat

/-! Ci -/
namespace Go.Proofs.YtkochmppmpmddaaGreat
open Go.Abs Go.Arch
set_option linter.unusedVariables false
set_option linter.unusedSimpArgs false
set_option maxRecDepth 100000
set_option maxHeartbeats 400000

/-- numbers below n, all different, are at most n -/
theorem pigeon : ∀ (n K : Nat) (x : Nat → Nat), (∀ i, i < K → x i < n) → (∀ i j, i < j → j < K → x i ≠ x j) → K ≤ n
  | 0, K, x, h1, _ => by
    cases K with
    | zero => omega
    | succ K => exact absurd (h1 0 (by omega)) (by omega)
  | n + 1, K, x, h1, h2 => by
    by_cases he : ∃ i, i < K ∧ x i = n
    · obtain ⟨i, hi, hx⟩ := he
      have := pigeon n (K - 1) (fun k => if k < i then x k else x (k + 1)) (fun k hk => by
        by_cases hki : k < i
        · simp only [hki, if_true]
          have := h1 k (by omega); have := h2 k i hki hi; omega
        · simp only [hki, if_false]
          have := h1 (k + 1) (by omega); have := h2 i (k + 1) (by omega) (by omega); omega) (fun a b hab hb => by
        by_cases ha : a < i
        · by_cases hbi : b < i
          · simp only [ha, hbi, if_true]; exact h2 a b hab (by omega)
          · simp only [ha, hbi, if_true, if_false]; exact h2 a (b + 1) (by omega) (by omega)
        · simp only [ha, show ¬ b < i by omega, if_false]; exact h2 (a + 1) (b + 1) (by omega) (by omega))
      omega
    · have := pigeon n K x (fun k hk => by
        have := h1 k hk
        have : x k ≠ n := fun h => he ⟨k, hk, h⟩
        omega) h2
      omega

/-- the row above -/
def parI (n : Nat) (g : Nat → Row) (i : Nat) : Nat := (findR n g (g i).Parent).toNat
/-- the rows upwards from row i -/
def chainX (n : Nat) (g : Nat → Row) (i : Nat) : Nat → Nat
  | 0 => i
  | k + 1 => parI n g (chainX n g i k)
theorem chain_add (n : Nat) (g : Nat → Row) (i a : Nat) : ∀ b, chainX n g i (a + b) = chainX n g (chainX n g i a) b
  | 0 => rfl
  | b + 1 => by rw [← Nat.add_assoc, chainX, chain_add n g i a b, chainX]
def rowOk (r : Row) : Bool := idOk r.Unit && decide (0 ≤ r.Parent) && decide (r.Parent ≤ 1073741824) && decide (0 ≤ r.Accession) && decide (r.Accession ≤ 1073741824)
def rowE (g : Nat → Row) (i : Nat) : Int := if rowOk (g i) = false then 2 else if 0 < i ∧ (g i).Unit ≤ (g (i - 1)).Unit then 5 else 0
def parE (n : Nat) (g : Nat → Row) (i : Nat) : Int := if (g i).Parent ≠ 0 ∧ findR n g (g i).Parent < 0 then 7 else 0
/-- the way upwards never ends -/
def Cyc (n : Nat) (g : Nat → Row) (i : Nat) : Prop := ∀ k, k ≤ n → (g (chainX n g i k)).Parent ≠ 0
open Classical in
noncomputable def rowsChk (n : Nat) (g : Nat → Row) : Int :=
  if 256 < n then 8 else if firstE (rowE g) 0 n ≠ 0 then firstE (rowE g) 0 n else if firstE (parE n g) 0 n ≠ 0 then firstE (parE n g) 0 n
  else if ∃ i, i < n ∧ Cyc n g i then 17 else 0

theorem findR_lt (n : Nat) (g : Nat → Row) (u : Int) : findR n g u < n := idx_lt' _ n g
theorem findR_at {n : Nat} {g : Nat → Row} {u : Int} (h : 0 ≤ findR n g u) : (findR n g u).toNat < n ∧ (g (findR n g u).toNat).Unit = u ∧ findR n g u = ((findR n g u).toNat : Int) := by
  have h1 := findR_lt n g u
  refine ⟨by omega, ?_, by omega⟩
  rcases idx_spec (fun r : Row => r.Unit == u) (lst n g) 0 with ⟨h2, _⟩ | ⟨q, h2, h3, x, h4, h5, _⟩
  · unfold findR at h; omega
  · have e : (findR n g u).toNat = q := by unfold findR; rw [h3]; omega
    rw [lst_length] at h2
    rw [lst_get h2] at h4
    rw [e]; cases h4; simpa using h5
theorem findR_ge (n : Nat) (g : Nat → Row) (u : Int) : -1 ≤ findR n g u := by
  rcases idx_spec (fun r : Row => r.Unit == u) (lst n g) 0 with ⟨h2, _⟩ | ⟨q, h2, h3, _⟩ <;> unfold findR <;> omega

/-- rows in order, whose parents are there -/
structure Good (n : Nat) (g : Nat → Row) : Prop where
  le : n ≤ 256
  ok : ∀ i, i < n → rowOk (g i) = true
  asc : ∀ i j, j < i → i < n → (g j).Unit < (g i).Unit
  par : ∀ i, i < n → (g i).Parent ≠ 0 → 0 ≤ findR n g (g i).Parent

theorem good_of {n : Nat} {g : Nat → Row} (h0 : n ≤ 256) (h1 : firstE (rowE g) 0 n = 0) (h2 : firstE (parE n g) 0 n = 0) : Good n g := by
  have he : ∀ i, i < n → rowOk (g i) = true ∧ (0 < i → (g (i - 1)).Unit < (g i).Unit) := fun i hi => by
    have := firstE_zero h1 i (by omega) (by omega)
    unfold rowE at this
    split at this
    · omega
    · rename_i h1
      split at this
      · omega
      · exact ⟨by simpa using h1, fun hp => by omega⟩
  refine ⟨h0, fun i hi => (he i hi).1, ?_, fun i hi hp => ?_⟩
  · intro i
    induction i with
    | zero => intro j hj; omega
    | succ i ih =>
      intro j hj hi
      have h1 := (he (i + 1) hi).2 (by omega)
      simp only [Nat.add_sub_cancel] at h1
      rcases Nat.lt_or_eq_of_le (Nat.le_of_lt_succ hj) with h | h
      · have := ih j h (by omega); omega
      · rw [h]; exact h1
  · have := firstE_zero h2 i (by omega) (by omega)
    unfold parE at this
    split at this
    · omega
    · rename_i h; omega

theorem Good.find {n : Nat} {g : Nat → Row} (h : Good n g) {i : Nat} (hi : i < n) : findR n g (g i).Unit = (i : Int) := by
  have h1 : 0 ≤ findR n g (g i).Unit := by
    rcases idx_spec (fun r : Row => r.Unit == (g i).Unit) (lst n g) 0 with ⟨h2, h3⟩ | ⟨q, h2, h3, _⟩
    · have := h3 (g i) (by simp only [lst, List.mem_map, List.mem_range]; exact ⟨i, hi, rfl⟩)
      simp at this
    · unfold findR; omega
  obtain ⟨h2, h3, h4⟩ := findR_at h1
  rw [h4]
  congr 1
  rcases Nat.lt_trichotomy (findR n g (g i).Unit).toNat i with h5 | h5 | h5
  · have := h.asc _ _ h5 hi; omega
  · exact h5
  · have := h.asc _ _ h5 h2; omega

theorem Good.chain_lt {n : Nat} {g : Nat → Row} (h : Good n g) {i : Nat} (hi : i < n) : ∀ k, (∀ q, q < k → (g (chainX n g i q)).Parent ≠ 0) → chainX n g i k < n
  | 0, _ => hi
  | k + 1, hk => by
    have h1 := h.chain_lt hi k fun q hq => hk q (by omega)
    rw [chainX, parI]
    exact (findR_at (h.par _ h1 (hk k (by omega)))).1

theorem Good.chain_next {n : Nat} {g : Nat → Row} (h : Good n g) {i : Nat} (hi : i < n) {k : Nat} (hk : ∀ q, q ≤ k → (g (chainX n g i q)).Parent ≠ 0) : findR n g (g (chainX n g i k)).Parent = (chainX n g i (k + 1) : Int) ∧ (g (chainX n g i (k + 1))).Unit = (g (chainX n g i k)).Parent := by
  have h1 := h.chain_lt hi k fun q hq => hk q (by omega)
  have h2 := findR_at (h.par _ h1 (hk k (by omega)))
  exact ⟨h2.2.2, h2.2.1⟩

/-- the first that has a property -/
theorem first_of {p : Nat → Prop} : ∀ (k : Nat), p k → ∃ q, q ≤ k ∧ p q ∧ ∀ r, r < q → ¬ p r
  | 0, h => ⟨0, by omega, h, fun r hr => by omega⟩
  | k + 1, h => by
    by_cases h0 : ∃ r, r ≤ k ∧ p r
    · obtain ⟨r, hr, hp⟩ := h0
      obtain ⟨q, h1, h2, h3⟩ := first_of (p := fun j => p j ∧ j ≤ r) r ⟨hp, by omega⟩
      exact ⟨q, by omega, h2.1, fun j hj hpj => h3 j hj ⟨hpj, by omega⟩⟩
    · exact ⟨k + 1, by omega, h, fun r hr hp => h0 ⟨r, by omega, hp⟩⟩

/-- a way that ends has at most n rows -/
theorem Good.ends {n : Nat} {g : Nat → Row} (h : Good n g) {i : Nat} (hi : i < n) {k : Nat} (hk : (g (chainX n g i k)).Parent = 0) : ∃ K, K < n ∧ K ≤ k ∧ (g (chainX n g i K)).Parent = 0 ∧ ∀ q, q < K → (g (chainX n g i q)).Parent ≠ 0 := by
  obtain ⟨K, h1, h2, h3⟩ := first_of (p := fun k => (g (chainX n g i k)).Parent = 0) k hk
  refine ⟨K, ?_, h1, h2, h3⟩
  have := pigeon n (K + 1) (chainX n g i) (fun q hq => h.chain_lt hi q fun r hr => h3 r (by omega)) (fun a b hab hb he => by
    have e1 := chain_add n g i b (K - b)
    have e2 := chain_add n g i a (K - b)
    rw [← he, ← e2, show b + (K - b) = K by omega] at e1
    rw [e1] at h2
    exact h3 _ (by omega) h2)
  omega

theorem rows_good {n : Nat} {g : Nat → Row} (h : rowsChk n g = 0) : Good n g ∧ ∀ i, i < n → ∃ K, K < n ∧ (g (chainX n g i K)).Parent = 0 ∧ ∀ q, q < K → (g (chainX n g i q)).Parent ≠ 0 := by
  unfold rowsChk at h
  split at h
  · omega
  rename_i h0
  split at h
  · omega
  rename_i h1
  split at h
  · omega
  rename_i h2
  split at h
  · omega
  rename_i h3
  have hg := good_of (by omega) (Decidable.not_not.1 h1) (Decidable.not_not.1 h2)
  refine ⟨hg, fun i hi => ?_⟩
  apply Classical.byContradiction
  intro hn
  refine h3 ⟨i, hi, fun k hk he => ?_⟩
  obtain ⟨K, h4, _, h5, h6⟩ := hg.ends hi he
  exact hn ⟨K, h4, h5, h6⟩

def wayX (n : Nat) (g : Nat → Row) (u : Int) : Nat → Nat := chainX n g (findR n g u).toNat
noncomputable def wayK (n : Nat) (g : Nat → Row) (u : Int) : Nat := Classical.epsilon fun K => K ≤ n ∧ PathOf n g u K (wayX n g u)

theorem way_of {n : Nat} {g : Nat → Row} (h : rowsChk n g = 0) (u : Int) : wayK n g u ≤ n ∧ PathOf n g u (wayK n g u) (wayX n g u) := by
  obtain ⟨hg, hc⟩ := rows_good h
  refine Classical.epsilon_spec (p := fun K => K ≤ n ∧ PathOf n g u K (wayX n g u)) ?_
  by_cases hf : 0 ≤ findR n g u
  · obtain ⟨h1, h2, h3⟩ := findR_at hf
    obtain ⟨K, h4, h5, h6⟩ := hc _ h1
    refine ⟨K + 1, by omega, ?_, fun i hi => hg.chain_lt h1 i fun q hq => h6 q (by omega), fun i hi => ⟨h6 i (by omega), (hg.chain_next h1 fun q hq => h6 q (by omega)).1⟩, fun i hi he => ?_⟩
    · rw [if_neg (by omega)]; exact h3
    · obtain rfl : i = K := by omega
      exact absurd h5 he
  · have := findR_ge n g u
    refine ⟨0, by omega, by rw [if_pos rfl]; omega, fun i hi => by omega, fun i hi => by omega, fun i hi => by omega⟩

theorem way_zero {n : Nat} {g : Nat → Row} (h : rowsChk n g = 0) (u : Int) : wayK n g u = 0 ↔ findR n g u < 0 := by
  have h1 := (way_of h u).2.first
  by_cases hk : 0 = wayK n g u
  · rw [if_pos hk] at h1; omega
  · rw [if_neg hk] at h1; omega

/-- the units of the way -/
theorem way_units {n : Nat} {g : Nat → Row} (h : rowsChk n g = 0) (u : Int) : (0 < wayK n g u → (g (wayX n g u 0)).Unit = u) ∧ (∀ i, i + 1 < wayK n g u → (g (wayX n g u (i + 1))).Unit = (g (wayX n g u i)).Parent ∧ (g (wayX n g u i)).Parent ≠ 0) ∧ ∀ i, i + 1 = wayK n g u → (g (wayX n g u i)).Parent = 0 := by
  obtain ⟨hk, hp⟩ := way_of h u
  obtain ⟨hg, hc⟩ := rows_good h
  refine ⟨fun h0 => ?_, fun i hi => ?_, fun i hi => ?_⟩
  · have h1 := hp.first
    rw [if_neg (by omega)] at h1
    have h2 := findR_at (n := n) (g := g) (u := u) (by omega)
    have : wayX n g u 0 = (findR n g u).toNat := by omega
    rw [this]; exact h2.2.1
  · have h1 := hp.mid i hi
    have h2 := findR_at (n := n) (g := g) (u := (g (wayX n g u i)).Parent) (by omega)
    have : wayX n g u (i + 1) = (findR n g (g (wayX n g u i)).Parent).toNat := by omega
    rw [this]; exact ⟨h2.2.1, h1.1⟩
  · apply Classical.byContradiction
    intro hn
    have h1 := hp.fin i hi hn
    have h2 := hg.par _ (hp.lt i (by omega)) hn
    omega

end Go.Proofs.YtkochmppmpmddaaGreat

/-! St -/
namespace Go.Proofs
open Go.Shelf
def Tryz.strContains_ren : Go.Shelf.Ren := ⟨fun | 144 => 146 | 143 => 160 | 219 => 176 | 217 => 186 | 225 => 187 | 224 => 188 | 267 => 189 | 266 => 200 | 314 => 201 | n => n, fun | 9 => 9 | 4 => 4 | 3 => 3 | 5 => 5 | 46 => 206 | 146 => 219 | 51 => 216 | n => n, fun | 1 => 0 | n => n⟩
theorem Tryz.strContains : Go.Proofs.Lays.n144 Tryz.prog Tryz.strContains_ren := {
  mixed := by kernel_rfl
  f143 := Tryz.func160.trans (congrArg some (by kernel_rfl))
  f144 := Tryz.func146.trans (congrArg some (by kernel_rfl))
  f217 := Tryz.func186.trans (congrArg some (by kernel_rfl))
  f219 := Tryz.func176.trans (congrArg some (by kernel_rfl))
  f224 := Tryz.func188.trans (congrArg some (by kernel_rfl))
  f225 := Tryz.func187.trans (congrArg some (by kernel_rfl))
  f266 := Tryz.func200.trans (congrArg some (by kernel_rfl))
  f267 := Tryz.func189.trans (congrArg some (by kernel_rfl))
  f314 := Tryz.func201.trans (congrArg some (by kernel_rfl))
  t3 := Tryz.underlying3
  a3 := Tryz.isAgg3
  z3 := Tryz.sizeOf3
  v3 := Tryz.zeroValue3
  t4 := Tryz.underlying4
  a4 := Tryz.isAgg4
  z4 := Tryz.sizeOf4
  v4 := Tryz.zeroValue4
  t5 := Tryz.underlying5
  a5 := Tryz.isAgg5
  z5 := Tryz.sizeOf5
  v5 := Tryz.zeroValue5
  t9 := Tryz.underlying9
  a9 := Tryz.isAgg9
  z9 := Tryz.sizeOf9
  v9 := Tryz.zeroValue9
  t46 := Tryz.underlying206
  a46 := Tryz.isAgg206
  z46 := Tryz.sizeOf206
  v46 := Tryz.zeroValue206
  t51 := Tryz.underlying216
  a51 := Tryz.isAgg216
  z51 := Tryz.sizeOf216
  v51 := Tryz.zeroValue216
  t146 := Tryz.underlying219
  a146 := Tryz.isAgg219
  z146 := Tryz.sizeOf219
  v146 := Tryz.zeroValue219
  g1 := by kernel_rfl }
def Tryz.strContainsFunc_ren : Go.Shelf.Ren := ⟨fun | 17 => 147 | 15 => 161 | 20 => 177 | n => n, fun | 9 => 9 | 23 => 178 | 4 => 4 | 3 => 3 | 0 => 0 | 21 => 21 | n => n, fun | n => n⟩
theorem Tryz.strContainsFunc : Go.Proofs.LaysGw.n17 Tryz.prog Tryz.strContainsFunc_ren := {
  mixed := by kernel_rfl
  f15 := Tryz.func161.trans (congrArg some (by kernel_rfl))
  f17 := Tryz.func147.trans (congrArg some (by kernel_rfl))
  f20 := Tryz.func177.trans (congrArg some (by kernel_rfl))
  t0 := Tryz.underlying0
  a0 := Tryz.isAgg0
  z0 := Tryz.sizeOf0
  v0 := Tryz.zeroValue0
  i0 := by kernel_rfl
  t3 := Tryz.underlying3
  a3 := Tryz.isAgg3
  z3 := Tryz.sizeOf3
  v3 := Tryz.zeroValue3
  i3 := by kernel_rfl
  t4 := Tryz.underlying4
  a4 := Tryz.isAgg4
  z4 := Tryz.sizeOf4
  v4 := Tryz.zeroValue4
  i4 := by kernel_rfl
  t9 := Tryz.underlying9
  a9 := Tryz.isAgg9
  z9 := Tryz.sizeOf9
  v9 := Tryz.zeroValue9
  i9 := by kernel_rfl
  t21 := Tryz.underlying21
  a21 := Tryz.isAgg21
  z21 := Tryz.sizeOf21
  v21 := Tryz.zeroValue21
  i21 := by kernel_rfl
  t23 := Tryz.underlying178
  a23 := Tryz.isAgg178
  z23 := Tryz.sizeOf178
  v23 := Tryz.zeroValue178
  i23 := by kernel_rfl }
end Go.Proofs

/-! Pn -/
namespace Go.Arch
set_option linter.unusedVariables false
set_option linter.unusedSimpArgs false

/-- a byte of a string -/
def bt (s : ByteArray) (i : Nat) : Nat := ((s[i]?).getD 0).toNat
theorem bt_lt {s : ByteArray} {i : Nat} (h : i < s.size) : bt s i = (s[i]'h).toNat := by unfold bt; rw [getElem?_pos s i h]; rfl
def outB (c : Nat) : Bool := decide (c < 32) || decide (126 < c)

theorem idx_out (s : ByteArray) : ∀ f pos, s.size ≤ pos + f → (0 ≤ Lib.idxFuncFrom outB true s f pos ↔ ∃ i, pos ≤ i ∧ i < s.size ∧ outB (bt s i) = true)
  | 0, pos, h => by
    simp only [Lib.idxFuncFrom]
    constructor
    · intro h0; omega
    · rintro ⟨i, h1, h2, _⟩; omega
  | f + 1, pos, h => by
    simp only [Lib.idxFuncFrom]
    by_cases hp : pos < s.size
    · rw [if_pos hp]
      by_cases ha : (s[pos]'hp).toNat < 128
      · rw [Go.decode_ascii s pos hp ha]
        simp only
        rw [← bt_lt hp]
        by_cases ho : outB (bt s pos) = true
        · rw [if_pos ho]
          exact ⟨fun _ => ⟨pos, Nat.le_refl _, hp, ho⟩, fun _ => by omega⟩
        · rw [if_neg ho, idx_out s f (pos + 1) (by omega)]
          constructor
          · rintro ⟨i, h1, h2, h3⟩; exact ⟨i, by omega, h2, h3⟩
          · rintro ⟨i, h1, h2, h3⟩
            have : i ≠ pos := fun e => ho (e ▸ h3)
            exact ⟨i, by omega, h2, h3⟩
      · have hd := (Go.decode_high s pos hp (by omega)).1
        have ho : outB (Utf8.decode s pos).1 = true := by unfold outB; simp; omega
        rw [if_pos ho]
        refine ⟨fun _ => ⟨pos, Nat.le_refl _, hp, ?_⟩, fun _ => by omega⟩
        rw [bt_lt hp]; unfold outB; simp; omega
    · rw [if_neg hp]
      constructor
      · intro h0; omega
      · rintro ⟨i, h1, h2, _⟩; omega

theorem idx_two : ∀ (l : List UInt8) (c : UInt8), 0 ≤ Lib.index l [c, c] ↔ ∃ i, l[i]? = some c ∧ l[i + 1]? = some c
  | [], c => by simp [Lib.index]
  | b :: l, c => by
    have ih := idx_two l c
    rw [Lib.index]
    by_cases hp : [c, c].isPrefixOf (b :: l) = true
    · rw [if_pos hp]
      simp only [Int.le_refl, true_iff]
      cases l with
      | nil => simp [List.isPrefixOf] at hp
      | cons d l =>
        simp [List.isPrefixOf] at hp
        exact ⟨0, by simp [hp.1], by simp [hp.2]⟩
    · rw [if_neg hp]
      have hge : ∀ (l : List UInt8) (sub : List UInt8), -1 ≤ Lib.index l sub := by
        intro l sub
        induction l with
        | nil => rw [Lib.index]; split <;> omega
        | cons b l ih => rw [Lib.index]; split; · omega
                         split <;> omega
      have h1 := hge l [c, c]
      have h2 : 0 ≤ (if (Lib.index l [c, c] == -1) = true then (-1 : Int) else Lib.index l [c, c] + 1) ↔ 0 ≤ Lib.index l [c, c] := by
        by_cases he : Lib.index l [c, c] = -1
        · rw [he]; simp
        · rw [if_neg (by simpa using he)]; omega
      rw [h2, ih]
      constructor
      · rintro ⟨i, h3, h4⟩; exact ⟨i + 1, by simpa using h3, by simpa using h4⟩
      · rintro ⟨i, h3, h4⟩
        cases i with
        | zero =>
          exfalso
          apply hp
          simp at h3 h4
          cases l with
          | nil => simp at h4
          | cons d l => simp at h4; subst h3; subst h4; simp [List.isPrefixOf]
        | succ i => exact ⟨i, by simpa using h3, by simpa using h4⟩

theorem bt_list (s : ByteArray) (i : Nat) (hi : i < s.size) (c : UInt8) : s.data.toList[i]? = some c ↔ bt s i = c.toNat := by
  have e : s.data.toList[i]? = some (s[i]'hi) := by
    rw [Array.getElem?_toList]
    have : i < s.data.size := hi
    rw [Array.getElem?_eq_getElem this]; rfl
  rw [e, bt_lt hi, Option.some.injEq]
  exact ⟨fun h => by rw [h], fun h => UInt8.toNat_inj.1 h⟩

theorem contains_two (s : ByteArray) : Lib.contains s.data.toList [32, 32] = true ↔ ∃ i, i + 1 < s.size ∧ bt s i = 32 ∧ bt s (i + 1) = 32 := by
  unfold Lib.contains
  rw [decide_eq_true_iff, idx_two]
  have hs : s.data.toList.length = s.size := by rw [Array.length_toList]; rfl
  constructor
  · rintro ⟨i, h1, h2⟩
    have h3 : i + 1 < s.size := by rw [← hs]; exact (List.getElem?_eq_some_iff.1 h2).1
    exact ⟨i, h3, (bt_list s i (by omega) 32).1 h1, (bt_list s (i + 1) h3 32).1 h2⟩
  · rintro ⟨i, h1, h2, h3⟩
    exact ⟨i, (bt_list s i (by omega) 32).2 h2, (bt_list s (i + 1) h1 32).2 h3⟩

/-- a byte of a name, with the one before -/
def nameAt (s : ByteArray) (i : Nat) : Bool := decide (32 ≤ bt s i) && decide (bt s i ≤ 126) && !(decide (0 < i) && decide (bt s i = 32) && decide (bt s (i - 1) = 32))
def namedB (s : ByteArray) : Bool := decide (1 ≤ s.size) && decide (s.size ≤ 64) && !decide (bt s 0 = 32) && !decide (bt s (s.size - 1) = 32) && (List.range s.size).all (nameAt s)

theorem named_iff (s : ByteArray) : namedB s = true ↔ 1 ≤ s.size ∧ s.size ≤ 64 ∧ bt s 0 ≠ 32 ∧ bt s (s.size - 1) ≠ 32 ∧ (∀ i, i < s.size → nameAt s i = true) := by
  unfold namedB; simp [and_assoc]

theorem named_prog (s : ByteArray) : namedB s = (decide (1 ≤ s.size) && decide (s.size ≤ 64) && !decide (bt s 0 = 32) && !decide (bt s (s.size - 1) = 32) && !Lib.contains s.data.toList [32, 32] && !decide (0 ≤ Lib.idxFunc outB true s)) := by
  have h1 := idx_out s s.size 0 (by omega)
  have h2 := contains_two s
  have key : (List.range s.size).all (nameAt s) = (!Lib.contains s.data.toList [32, 32] && !decide (0 ≤ Lib.idxFunc outB true s)) := by
    rw [Bool.eq_iff_iff]
    simp only [List.all_eq_true, List.mem_range, Bool.and_eq_true, Bool.not_eq_true', decide_eq_false_iff_not]
    unfold Lib.idxFunc
    rw [h1, ← Bool.not_eq_true, h2]
    constructor
    · intro h
      refine ⟨?_, ?_⟩
      · rintro ⟨i, h3, h4, h5⟩
        have := h (i + 1) h3
        simp [nameAt, h4, h5] at this
      · rintro ⟨i, _, h3, h4⟩
        have := h i h3
        simp [nameAt] at this
        simp [outB] at h4
        omega
    · rintro ⟨h3, h4⟩ i hi
      have h5 : ¬ outB (bt s i) = true := fun h => h4 ⟨i, by omega, hi, h⟩
      simp [outB] at h5
      simp only [nameAt, Bool.and_eq_true, decide_eq_true_eq, Bool.not_eq_true', Bool.and_eq_false_iff, decide_eq_false_iff_not]
      refine ⟨⟨by omega, by omega⟩, ?_⟩
      by_cases h0 : 0 < i
      · by_cases h6 : bt s i = 32
        · right; intro h7
          exact h3 ⟨i - 1, by omega, h7, by rw [show i - 1 + 1 = i by omega]; exact h6⟩
        · left; right; exact h6
      · left; left; exact h0
  unfold namedB
  rw [key]
  simp only [Bool.and_assoc]

end Go.Arch

/-! Su -/
namespace Go.Proofs.YtkochmppmpmddaaGreat
open Go.Abs Go.Arch Go.Shelf Go.RowKit Go.Lib Go.Proofs
set_option linter.unusedVariables false
set_option linter.unusedSimpArgs false
set_option maxRecDepth 100000
set_option maxHeartbeats 400000

abbrev Sb (s : ByteArray) : D := .v (.string s)

theorem strContains_cs (σ : List Blk) (hσ : σ[0]? = some (.loc 0)) (s t : ByteArray) (hs : s.size < 4294967281) : CSF Tryz.prog 146 [.d (Sb s), .d (Sb t)] σ (.d (B (Lib.contains s.data.toList t.data.toList))) := by
  refine CSF.of_calls T.en146 #[.string s, .string t] (fun w j vs hr => rs_vals2 hr (fun _ h => R_v h) (fun _ h => R_v h)) (fun w j hS => ?_)
  obtain ⟨m, hm⟩ := loc_cell hS hσ
  exact (Any.strings_Contains Tryz.strContains s t m w hs hm).mono fun e w' ⟨he, hw⟩ => ⟨he, by rw [hw]; exact Below.refl _ _⟩

set_option maxHeartbeats 1000000 in
theorem isName1_gives (W : World) (x : Nat) (hx : x ≤ 1114111) : FnGives Tryz.prog 145 #[] #[encR x] (.bool (outB x)) W := by
  unfold FnGives encR outB
  go_enter Tryz.func145, Tryz.ntmps145
  go_wp2
  all_goals (go_ret; refine ⟨congrArg Ending.returned (congrArg Value.bool (?_ : _ = _)), 0, rfl⟩; rw [Bool.eq_iff_iff]; simp; omega)

theorem containsOut_cs (σ : List Blk) (s : ByteArray) : CSF Tryz.prog 147 [.d (Sb s), .clo (.func 145) [] []] σ (.d (B (decide (0 ≤ Lib.idxFunc outB true s)))) := by
  refine CSF.of_calls T.en147 #[.string s, .func (.func 145) #[] #[]] (fun w j vs hr => rs_vals2 hr (fun _ h => R_v h) (fun _ h => R_clo0 h)) (fun w j hS => ?_)
  exact Any.strings_ContainsFunc_runes Tryz.strContainsFunc 145 #[] (fun args w => callFunc_enters T.en145 args w) outB s w fun W x hx _ => isName1_gives W x hx

end Go.Proofs.YtkochmppmpmddaaGreat

/-! Da -/
namespace Go.Proofs.YtkochmppmpmddaaGreat
open Go.Abs Go.Arch
set_option linter.unusedVariables false
set_option linter.unusedSimpArgs false
set_option maxRecDepth 100000
set_option maxHeartbeats 400000

structure Prs where
  ID : Int
  Name : ByteArray
  Birth : Dating
  Death : Dating
instance : Inhabited Prs := ⟨⟨0, ByteArray.empty, ⟨0, 0⟩, ⟨0, 0⟩⟩⟩
def Prs.enc (p : Prs) : List D := [I p.ID, Sb p.Name, I p.Birth.First, I p.Birth.Last, I p.Death.First, I p.Death.Last]
attribute [go_sem] Prs.enc
def prsE0 (p : Prs) : Int := if p.ID < 1 ∨ 1073741824 < p.ID then 2 else if namedB p.Name = false then 4 else if datChk p.Birth ≠ 0 ∨ datChk p.Death ≠ 0 then 1 else if p.Death.Last < p.Birth.First then 10 else 0
def prsE (g : Nat → Prs) (i : Nat) : Int := if prsE0 (g i) ≠ 0 then prsE0 (g i) else if 0 < i ∧ (g i).ID ≤ (g (i - 1)).ID then 5 else 0
def prsChk (n : Nat) (g : Nat → Prs) : Int := if 64 < n then 8 else firstE (prsE g) 0 n
def findP (n : Nat) (g : Nat → Prs) (u : Int) : Int := idxFrom (fun r => r.ID == u) (lst n g) 0
def prsFew (n : Nat) (g : Nat → Prs) : Bool := ((lst n g).all fun p => decide (p.Name.size ≤ 200)) && decide (n ≤ 20)
theorem prsFew_iff (n : Nat) (g : Nat → Prs) : prsFew n g = true ↔ (∀ i, i < n → (g i).Name.size ≤ 200) ∧ n ≤ 20 := by
  unfold prsFew; simp [lst]
theorem prsFew_no {n : Nat} {g : Nat → Prs} {i : Nat} (hi : i < n) (h : 200 < (g i).Name.size) : prsFew n g = false := by
  cases hb : prsFew n g with
  | false => rfl
  | true => have := ((prsFew_iff n g).1 hb).1 i hi; omega
theorem prsFew_yes {n : Nat} {g : Nat → Prs} (h : ∀ i, i < n → (g i).Name.size ≤ 200) : prsFew n g = decide ((n : Int) ≤ 20) := by
  rw [Bool.eq_iff_iff, prsFew_iff]; simp only [decide_eq_true_eq]; exact ⟨fun h => by have := h.2; omega, fun h' => ⟨h, by omega⟩⟩
theorem named_prog' (s : ByteArray) : namedB s = (decide ((1 : Int) ≤ s.size) && decide ((s.size : Int) ≤ 64) && ((s[0]?.getD 0).toNat : Int) != 32 && ((s[s.size - 1]?.getD 0).toNat : Int) != 32 && !Lib.contains s.data.toList [32, 32] && !decide (0 ≤ Lib.idxFunc outB true s)) := by
  have e1 : decide ((1 : Int) ≤ s.size) = decide (1 ≤ s.size) := by rw [Bool.eq_iff_iff]; simp; omega
  have e2 : decide ((s.size : Int) ≤ 64) = decide (s.size ≤ 64) := by rw [Bool.eq_iff_iff]; simp; omega
  have e3 : ∀ n : Nat, ((n : Int) != 32) = !decide (n = 32) := fun n => by rw [Bool.eq_iff_iff]; simp; omega
  rw [named_prog, e1, e2, e3, e3]; rfl
theorem nameAt_iff (s : ByteArray) (i : Nat) : nameAt s i = true ↔ 32 ≤ bt s i ∧ bt s i ≤ 126 ∧ ¬(0 < i ∧ bt s i = 32 ∧ bt s (i - 1) = 32) := by
  unfold nameAt; rw [Bool.and_eq_true, Bool.and_eq_true, Bool.not_eq_true', ← Bool.not_eq_true]; simp only [Bool.and_eq_true, decide_eq_true_eq, and_assoc]
theorem named_no {s : ByteArray} {i : Nat} (hi : i < s.size) (h : nameAt s i = false) : namedB s = false := by
  cases hb : namedB s with
  | false => rfl
  | true => have := ((named_iff s).1 hb).2.2.2.2 i hi; rw [h] at this; cases this


theorem person_isName_cs (σ : List Blk) (s : ByteArray) (hs : s.size < 4294967281) (hσ : σ[0]? = some (.loc 0)) : CSF Tryz.prog 118 [.d (Sb s)] σ (.d (B (namedB s))) := by
  refine CSF.of_body T.en118 Tryz.func118 rfl (by simp [Tryz.ntmps118]) (by simp [go_sem]) fun hwf => ?_
  refine awp_reg_seq fun K hK => ?_
  simp [go_sem, Tryz.ntmps118]
  repeat refine ⟨by omega, ?_⟩
  refine hK _ ?_; clear hK K
  refine awp_reg_seq fun K hK => ?_
  simp [go_sem]
  repeat refine ⟨by omega, ?_⟩
  refine hK _ ?_; clear hK K
  refine awp_reg_seq fun K hK => ?_
  simp [go_sem]
  try simp (disch := omega) only [wrapI]
  repeat refine ⟨by omega, ?_⟩
  refine CSm.mk (strContains_cs _ hσ s _ hs) ?_
  simp [go_sem]
  try simp (disch := omega) only [wrapI]
  repeat refine ⟨by omega, ?_⟩
  refine CSm.mk (containsOut_cs _ s) ?_
  simp [go_sem]
  try simp (disch := omega) only [wrapI]
  repeat refine ⟨by omega, ?_⟩
  refine hK _ ?_; clear hK K
  refine awp_ret ?_
  rw [named_prog']; simp [go_sem, Tryz.results118]

theorem person_fault_cs (σ : List Blk) (p : Prs) (hs : p.Name.size < 4294967281) (hσ : σ[0]? = some (.loc 0)) : CSF Tryz.prog 81 [.agg (p.enc.map .d)] σ (.d (I (prsE0 p))) := by
  refine CSF.of_body T.en81 Tryz.func81 rfl (by simp [Tryz.ntmps81]) (by simp [go_sem]) fun hwf => ?_
  refine awp_reg_seq fun K hK => ?_
  simp [go_sem, Tryz.ntmps81]
  repeat refine ⟨by omega, ?_⟩
  refine hK _ ?_; clear hK K
  refine awp_seq ?_
  refine awp_block ?_
  refine awp_reg_seq fun K hK => ?_
  simp [go_sem]
  repeat refine ⟨by omega, ?_⟩
  refine hK _ ?_; clear hK K
  refine awp_forget [1, 3] (by simp only [restr, List.contains_cons, List.contains_nil, Nat.reduceBEq, Bool.or_false, Bool.or_true, Bool.true_or, Bool.false_or, if_true, if_false, Bool.false_eq_true]; rfl) ?_
  refine awp_cond rfl (fun c0 => ?_) (fun c0 => ?_)
  · have d0 := c0; try simp at d0
    refine awp_reg_seq fun K hK => ?_
    simp [go_sem, c0, d0]
    repeat refine ⟨by omega, ?_⟩
    refine hK _ ?_; clear hK K
    refine awp_ret ?_
    simp [go_sem, Tryz.results81, prsE0, c0, d0] <;> omega
  · have d0 := c0; try simp at d0
    refine awp_reg_seq fun K hK => ?_
    simp [go_sem, c0, d0]
    repeat refine ⟨by omega, ?_⟩
    refine CSk.mk (person_isName_cs _ _ (by first | assumption | exact loc_app (by assumption) | omega | simp_all) (by first | assumption | exact loc_app (by assumption) | omega | simp_all)) ?_
    simp [go_sem, c0, d0]
    repeat refine ⟨by omega, ?_⟩
    refine hK _ ?_; clear hK K
    refine awp_forget [1, 12] (by simp only [restr, List.contains_cons, List.contains_nil, Nat.reduceBEq, Bool.or_false, Bool.or_true, Bool.true_or, Bool.false_or, if_true, if_false, Bool.false_eq_true]; rfl) ?_
    refine awp_cond rfl (fun c1 => ?_) (fun c1 => ?_)
    · have d1 := c1; try simp at d1
      refine awp_reg_seq fun K hK => ?_
      simp [go_sem, c0, d0, c1, d1]
      repeat refine ⟨by omega, ?_⟩
      refine hK _ ?_; clear hK K
      refine awp_ret ?_
      simp [go_sem, Tryz.results81, prsE0, c0, d0, c1, d1] <;> omega
    · have d1 := c1; try simp at d1
      refine awp_reg_seq fun K hK => ?_
      simp [go_sem, c0, d0, c1, d1]
      repeat refine ⟨by omega, ?_⟩
      refine CSk.mk (dating_Check_cs _ p.Birth) ?_
      simp [go_sem, c0, d0, c1, d1]
      repeat refine ⟨by omega, ?_⟩
      refine CSm.mk (dating_Check_cs _ p.Death) ?_
      simp [go_sem, c0, d0, c1, d1]
      repeat refine ⟨by omega, ?_⟩
      refine hK _ ?_; clear hK K
      refine awp_forget [1, 17] (by simp only [restr, List.contains_cons, List.contains_nil, Nat.reduceBEq, Bool.or_false, Bool.or_true, Bool.true_or, Bool.false_or, if_true, if_false, Bool.false_eq_true]; rfl) ?_
      refine awp_cond rfl (fun c2 => ?_) (fun c2 => ?_)
      · have d2 := c2; try simp at d2
        refine awp_reg_seq fun K hK => ?_
        simp [go_sem, c0, d0, c1, d1, c2, d2]
        repeat refine ⟨by omega, ?_⟩
        refine hK _ ?_; clear hK K
        refine awp_ret ?_
        simp [go_sem, Tryz.results81, prsE0, c0, d0, c1, d1, c2, d2] <;> omega
      · have d2 := c2; try simp at d2
        refine awp_reg_seq fun K hK => ?_
        simp [go_sem, c0, d0, c1, d1, c2, d2]
        repeat refine ⟨by omega, ?_⟩
        refine hK _ ?_; clear hK K
        refine awp_forget [28] (by simp only [restr, List.contains_cons, List.contains_nil, Nat.reduceBEq, Bool.or_false, Bool.or_true, Bool.true_or, Bool.false_or, if_true, if_false, Bool.false_eq_true]; rfl) ?_
        refine awp_cond rfl (fun c3 => ?_) (fun c3 => ?_)
        · have d3 := c3; try simp at d3
          refine awp_reg_seq fun K hK => ?_
          simp [go_sem, c0, d0, c1, d1, c2, d2, c3, d3]
          repeat refine ⟨by omega, ?_⟩
          refine hK _ ?_; clear hK K
          refine awp_ret ?_
          simp [go_sem, Tryz.results81, prsE0, c0, d0, c1, d1, c2, d2, c3, d3] <;> omega
        · have d3 := c3; try simp at d3
          refine awp_skip ?_
          refine awp_reg_seq fun K hK => ?_
          simp [go_sem, c0, d0, c1, d1, c2, d2, c3, d3]
          repeat refine ⟨by omega, ?_⟩
          refine hK _ ?_; clear hK K
          refine awp_ret ?_
          simp [go_sem, Tryz.results81, prsE0, c0, d0, c1, d1, c2, d2, c3, d3] <;> omega

theorem indexPrs_cs (σ : List Blk) (c : Option Nat) (n : Nat) (g : Nat → Prs) (f : FuncId) (cap : List AV) (p : Prs → Bool) (hn : n < 1000000000) (hf : ∀ i, i < n → CSF Tryz.prog f (.agg ((g i).enc.map .d) :: cap) σ (.d (B (p (g i))))) : CSF Tryz.prog 113 [.d (SL c 6 Prs.enc n g), .clo (.func f) [] cap] σ (.d (I (idxFrom p (lst n g) 0))) := by
  refine CSF.of_body T.en113 Tryz.func113 rfl (by simp [Tryz.ntmps113]) (by simp [go_sem]) fun hwf => ?_
  refine awp_reg_seq fun K hK => ?_
  simp [go_sem, Tryz.ntmps113]
  repeat refine ⟨by omega, ?_⟩
  refine hK _ ?_; clear hK K
  refine awp_seq ?_
  refine awp_reg_seq fun K hK => ?_
  simp [go_sem]
  repeat refine ⟨by omega, ?_⟩
  refine hK _ ?_; clear hK K
  refine awp_block ?_
  refine awp_forget [0, 1, 7, 8] (by simp [go_sem, restr]; rfl) ?_
  refine awp_loopU (α := Nat) (fun i => [(8, .d (I i))]) (fun i => _) (fun i => i ≤ n ∧ idxFrom p (lst n g) 0 = idxFrom p ((lst n g).drop i) i) (fun i => n - i) 0 (by simp [go_sem]) rfl (by simp) ?_
  rintro i ⟨hi, hx⟩
  refine awp_reg_seq fun K hK => ?_
  simp [go_sem]
  repeat refine ⟨by omega, ?_⟩
  refine hK _ ?_; clear hK K
  refine awp_seq ?_
  refine awp_forget [0, 1, 7, 8, 9] (by simp only [restr, List.contains_cons, List.contains_nil, Nat.reduceBEq, Bool.or_false, Bool.or_true, Bool.true_or, Bool.false_or, if_true, if_false, Bool.false_eq_true]; rfl) ?_
  refine awp_cond rfl (fun c0 => ?_) (fun c0 => ?_)
  · have d0 := c0; try simp at d0
    rw [drop_lst d0, idxFrom] at hx
    refine awp_skip ?_
    refine awp_seq ?_
    refine awp_block ?_
    refine awp_reg_seq fun K hK => ?_
    simp [go_sem, c0, d0]
    repeat refine ⟨by omega, ?_⟩
    refine hK _ ?_; clear hK K
    refine awp_reg_seq fun K hK => ?_
    simp [go_sem, c0, d0]
    repeat refine ⟨by omega, ?_⟩
    refine CSk.mk (hf i d0) ?_
    simp [go_sem, c0, d0]
    repeat refine ⟨by omega, ?_⟩
    refine hK _ ?_; clear hK K
    refine awp_forget [0, 1, 5, 7, 8, 16] (by simp only [restr, List.contains_cons, List.contains_nil, Nat.reduceBEq, Bool.or_false, Bool.or_true, Bool.true_or, Bool.false_or, if_true, if_false, Bool.false_eq_true]; rfl) ?_
    refine awp_cond rfl (fun c1 => ?_) (fun c1 => ?_)
    · have d1 := c1; try simp at d1
      refine awp_reg_seq fun K hK => ?_
      simp [go_sem, c0, d0, c1, d1]
      repeat refine ⟨by omega, ?_⟩
      refine hK _ ?_; clear hK K
      refine awp_ret ?_
      simp [go_sem, Tryz.results113, hx, c0, d0, c1, d1] <;> omega
    · have d1 := c1; try simp at d1
      refine awp_skip ?_
      refine awp_reg_end fun K hK => ?_
      simp [go_sem, c0, d0, c1, d1]
      try simp (disch := omega) only [wrapI]
      repeat refine ⟨by omega, ?_⟩
      refine hK _ ?_; clear hK K
      refine ⟨i + 1, back_of' (by simp) (.refl _) (by (simp [go_sem, wrap_succ (i := i) (by omega), c0, d0, c1, d1] <;> omega)), ⟨by omega, by rw [hx, c1]; simp⟩, by first | omega | (dsimp only; omega)⟩
  · have d0 := c0; try simp at d0
    rw [drop_all d0, idxFrom] at hx
    refine awp_exit ?_
    refine awp_reg_seq fun K hK => ?_
    simp [go_sem, c0, d0]
    repeat refine ⟨by omega, ?_⟩
    refine hK _ ?_; clear hK K
    refine awp_ret ?_
    simp [go_sem, Tryz.results113, hx, c0, d0] <;> omega

theorem containsPrs_cs (σ : List Blk) (c : Option Nat) (n : Nat) (g : Nat → Prs) (f : FuncId) (cap : List AV) (p : Prs → Bool) (hn : n < 1000000000) (hf : ∀ i, i < n → CSF Tryz.prog f (.agg ((g i).enc.map .d) :: cap) σ (.d (B (p (g i))))) : CSF Tryz.prog 85 [.d (SL c 6 Prs.enc n g), .clo (.func f) [] cap] σ (.d (B ((lst n g).any p))) := by
  refine CSF.of_body T.en85 Tryz.func85 rfl (by simp [Tryz.ntmps85]) (by simp [go_sem]) fun hwf => ?_
  refine awp_reg_seq fun K hK => ?_
  simp [go_sem, Tryz.ntmps85]
  repeat refine ⟨by omega, ?_⟩
  refine hK _ ?_; clear hK K
  refine awp_reg_seq fun K hK => ?_
  simp [go_sem]
  repeat refine ⟨by omega, ?_⟩
  refine CSk.mk (indexPrs_cs _ c n g f cap p hn hf) ?_
  simp [go_sem]
  repeat refine ⟨by omega, ?_⟩
  refine hK _ ?_; clear hK K
  refine awp_ret ?_
  simp [go_sem, Tryz.results85, idx_any] <;> omega

theorem clonePrs_cs (σ : List Blk) (c : Option Nat) (n : Nat) (g : Nat → Prs) (hn : n < 1000000000) : CSF Tryz.prog 36 [.d (SL c 6 Prs.enc n g)] σ (.d (SL none 6 Prs.enc n g)) := by
  refine CSF.of_body T.en36 Tryz.func36 rfl (by simp [Tryz.ntmps36]) (by simp [go_sem]) fun hwf => ?_
  refine awp_reg_seq fun K hK => ?_
  simp [go_sem, Tryz.ntmps36]
  repeat refine ⟨by omega, ?_⟩
  refine hK _ ?_; clear hK K
  refine awp_seq ?_
  refine awp_reg_seq fun K hK => ?_
  simp [go_sem, -Bool.forall_bool]
  intro b1 hb1
  repeat refine ⟨by omega, ?_⟩
  refine hK _ ?_; clear hK K
  refine awp_cond rfl (fun c0 => ?_) (fun c0 => ?_)
  · have d0 := c0; try simp at d0
    refine awp_reg_seq fun K hK => ?_
    simp [go_sem, c0, d0]
    repeat refine ⟨by omega, ?_⟩
    refine hK _ ?_; clear hK K
    refine awp_ret ?_
    have := hb1 c0
    simp [go_sem, Tryz.results36, this]
  · have d0 := c0; try simp at d0
    refine awp_skip ?_
    refine awp_reg_seq fun K hK => ?_
    simp [go_sem, c0, d0, hwf.one, hwf.zero]
    repeat refine ⟨by omega, ?_⟩
    refine hK _ ?_; clear hK K
    refine awp_freeze (σ.length) (by simp [go_sem]; first | exact ⟨rfl, rfl, rfl⟩ | exact ⟨rfl, rfl⟩ | rfl) (by simp [go_sem]; rfl) (by simp [go_sem, hwf.frz, hwf.frz0]; rfl) ?_
    refine awp_ret ?_
    simp [go_sem, Tryz.results36, c0, d0] <;> omega

theorem clonePrsM_cs (σ : List Blk) (c : Option Nat) (n : Nat) (g : Nat → Prs) (hn : n < 1000000000) : CS Tryz.prog 36 [.d (SL c 6 Prs.enc n g)] σ (fun r σ' X => r = .ms σ.length 6 0 n ∧ σ' = σ ++ [.arr 6 n fun i => Prs.enc (g i)] ∧ X = []) := by
  refine CS.of_bodyW T.en36 Tryz.func36 rfl (by simp [Tryz.ntmps36]) fun hwf => ?_
  refine awp_reg_seq fun K hK => ?_
  simp [go_sem, Tryz.ntmps36]
  repeat refine ⟨by omega, ?_⟩
  refine hK _ ?_; clear hK K
  refine awp_seq ?_
  refine awp_reg_seq fun K hK => ?_
  simp [go_sem, -Bool.forall_bool]
  intro b1 hb1
  repeat refine ⟨by omega, ?_⟩
  refine hK _ ?_; clear hK K
  refine awp_cond rfl (fun c0 => ?_) (fun c0 => ?_)
  · have d0 := c0; try simp at d0
    refine awp_reg_seq fun K hK => ?_
    simp [go_sem, c0, d0]
    repeat refine ⟨by omega, ?_⟩
    refine hK _ ?_; clear hK K
    refine awp_thawT 2 6 (fun i => Prs.enc (g i)) (by simp [go_sem]) (by simp [go_sem]; rfl) ?_
    refine awp_ret ?_
    obtain rfl := hb1 c0
    simp [go_sem, Tryz.results36]
  · have d0 := c0; try simp at d0
    refine awp_skip ?_
    refine awp_reg_seq fun K hK => ?_
    simp [go_sem, c0, d0, hwf.one, hwf.zero]
    repeat refine ⟨by omega, ?_⟩
    refine hK _ ?_; clear hK K
    refine awp_ret ?_
    simp [go_sem, Tryz.results36, c0, d0] <;> omega

theorem person_index_1_cs (σ : List Blk) (τ : List Blk) (r : Prs) (u : Int) : CSF Tryz.prog 114 [.agg (r.enc.map .d), .ptr σ.length 0] (σ ++ .var [.d (I u)] :: τ) (.d (B (r.ID == u))) := by
  refine CSF.of_body T.en114 Tryz.func114 rfl (by simp [Tryz.ntmps114]) (by simp [go_sem]) fun hwf => ?_
  refine awp_reg_seq fun K hK => ?_
  simp [go_sem, Tryz.ntmps114]
  repeat refine ⟨by omega, ?_⟩
  refine hK _ ?_; clear hK K
  refine awp_reg_seq fun K hK => ?_
  simp [go_sem]
  repeat refine ⟨by omega, ?_⟩
  refine hK _ ?_; clear hK K
  refine awp_ret ?_
  simp [go_sem, Tryz.results114] <;> omega

theorem person_index_cs (σ : List Blk) (c : Option Nat) (n : Nat) (g : Nat → Prs) (u : Int) (hn : n < 1000000000) : CSF Tryz.prog 73 [.d (SL c 6 Prs.enc n g), .d (I u)] σ (.d (I (findP n g u))) := by
  refine CSF.of_body T.en73 Tryz.func73 rfl (by simp [Tryz.ntmps73]) (by simp [go_sem]) fun hwf => ?_
  refine awp_reg_seq fun K hK => ?_
  simp [go_sem, Tryz.ntmps73]
  repeat refine ⟨by omega, ?_⟩
  refine hK _ ?_; clear hK K
  refine awp_reg_seq fun K hK => ?_
  simp [go_sem]
  repeat refine ⟨by omega, ?_⟩
  refine CSk.mk (indexPrs_cs _ c n g _ _ (fun r => r.ID == u) hn (fun i hi => person_index_1_cs σ [] (g i) u)) ?_
  simp [go_sem]
  repeat refine ⟨by omega, ?_⟩
  refine hK _ ?_; clear hK K
  refine awp_ret ?_
  simp [go_sem, Tryz.results73, findP] <;> omega

theorem person_Check_cs (σ : List Blk) (c : Option Nat) (n : Nat) (g : Nat → Prs) (hn : n < 1000000000) (hN : ∀ i, i < n → (g i).Name.size < 4294967281) (hσ : σ[0]? = some (.loc 0)) : CSF Tryz.prog 48 [.d (SL c 6 Prs.enc n g)] σ (.d (I (prsChk n g))) := by
  refine CSF.of_body T.en48 Tryz.func48 rfl (by simp [Tryz.ntmps48]) (by simp [go_sem]) fun hwf => ?_
  refine awp_reg_seq fun K hK => ?_
  simp [go_sem, Tryz.ntmps48]
  repeat refine ⟨by omega, ?_⟩
  refine hK _ ?_; clear hK K
  refine awp_seq ?_
  refine awp_reg_seq fun K hK => ?_
  simp [go_sem]
  repeat refine ⟨by omega, ?_⟩
  refine hK _ ?_; clear hK K
  refine awp_forget [0, 8] (by simp only [restr, List.contains_cons, List.contains_nil, Nat.reduceBEq, Bool.or_false, Bool.or_true, Bool.true_or, Bool.false_or, if_true, if_false, Bool.false_eq_true]; rfl) ?_
  refine awp_cond rfl (fun c0 => ?_) (fun c0 => ?_)
  · have d0 := c0; try simp at d0
    refine awp_reg_seq fun K hK => ?_
    simp [go_sem, c0, d0]
    repeat refine ⟨by omega, ?_⟩
    refine hK _ ?_; clear hK K
    refine awp_ret ?_
    simp [go_sem, Tryz.results48, prsChk, c0, d0] <;> omega
  · have d0 := c0; try simp at d0
    refine awp_skip ?_
    refine awp_seq ?_
    refine awp_reg_seq fun K hK => ?_
    simp [go_sem, c0, d0]
    repeat refine ⟨by omega, ?_⟩
    refine hK _ ?_; clear hK K
    refine awp_block ?_
    refine awp_forget [0, 9, 10, 11] (by simp [go_sem, restr]; rfl) ?_
    refine awp_loopU (α := Nat) (fun i => [(11, .d (I i))]) (fun i => _) (fun i => i ≤ n ∧ firstE (prsE g) 0 n = firstE (prsE g) i (n - i)) (fun i => n - i) 0 (by simp [go_sem]) rfl (by simp) ?_
    rintro i ⟨hi, hx⟩
    refine awp_reg_seq fun K hK => ?_
    simp [go_sem, c0, d0, hi, wrap_pred (i := i) (by omega)]
    repeat refine ⟨by omega, ?_⟩
    refine hK _ ?_; clear hK K
    refine awp_seq ?_
    refine awp_forget [0, 9, 10, 11, 12] (by simp only [restr, List.contains_cons, List.contains_nil, Nat.reduceBEq, Bool.or_false, Bool.or_true, Bool.true_or, Bool.false_or, if_true, if_false, Bool.false_eq_true]; rfl) ?_
    refine awp_cond rfl (fun c1 => ?_) (fun c1 => ?_)
    · have d1 := c1; try simp at d1
      obtain ⟨k, hk⟩ : ∃ k, n - i = k + 1 := ⟨n - i - 1, by omega⟩
      have hk' : n - (i + 1) = k := by omega
      rw [hk, firstE] at hx
      refine awp_skip ?_
      refine awp_seq ?_
      refine awp_block ?_
      refine awp_reg_seq fun K hK => ?_
      simp [go_sem, c0, d0, hi, wrap_pred (i := i) (by omega), c1, d1]
      repeat refine ⟨by omega, ?_⟩
      refine hK _ ?_; clear hK K
      refine awp_seq ?_
      refine awp_reg_seq fun K hK => ?_
      simp [go_sem, c0, d0, hi, wrap_pred (i := i) (by omega), c1, d1]
      repeat refine ⟨by omega, ?_⟩
      refine CSk.mk (person_fault_cs _ (g i) (hN i d1) (loc_app hσ)) ?_
      simp [go_sem, c0, d0, hi, wrap_pred (i := i) (by omega), c1, d1]
      repeat refine ⟨by omega, ?_⟩
      refine hK _ ?_; clear hK K
      refine awp_reg_seq fun K hK => ?_
      simp [go_sem, c0, d0, hi, wrap_pred (i := i) (by omega), c1, d1]
      repeat refine ⟨by omega, ?_⟩
      refine hK _ ?_; clear hK K
      refine awp_forget [0, 3, 4, 5, 9, 10, 11, 19] (by simp only [restr, List.contains_cons, List.contains_nil, Nat.reduceBEq, Bool.or_false, Bool.or_true, Bool.true_or, Bool.false_or, if_true, if_false, Bool.false_eq_true]; rfl) ?_
      refine awp_cond rfl (fun c2 => ?_) (fun c2 => ?_)
      · have d2 := c2; try simp at d2
        have he : prsE g i = prsE0 (g i) := by unfold prsE; rw [if_pos d2]
        rw [he, if_pos d2] at hx
        refine awp_reg_seq fun K hK => ?_
        simp [go_sem, c0, d0, hi, wrap_pred (i := i) (by omega), c1, d1, c2, d2]
        repeat refine ⟨by omega, ?_⟩
        refine hK _ ?_; clear hK K
        refine awp_ret ?_
        simp [go_sem, Tryz.results48, prsChk, hx, c0, d0, hi, wrap_pred (i := i) (by omega), c1, d1, c2, d2] <;> omega
      · have d2 := c2; try simp at d2
        refine awp_skip ?_
        refine awp_draw_seq 13 T.mixed (by kernel_rfl) fun K hK => ?_
        simp [go_sem, c0, d0, hi, wrap_pred (i := i) (by omega), c1, d1, c2, d2]
        try simp (disch := omega) only [wrapI]
        repeat refine ⟨by omega, ?_⟩
        refine hK _ ?_; clear hK K
        refine awp_forget [0, 9, 10, 11, 33] (by simp only [restr, List.contains_cons, List.contains_nil, Nat.reduceBEq, Bool.or_false, Bool.or_true, Bool.true_or, Bool.false_or, if_true, if_false, Bool.false_eq_true]; rfl) ?_
        refine awp_cond rfl (fun c3 => ?_) (fun c3 => ?_)
        · have d3 := c3; try simp at d3
          have he : prsE g i = 5 := by unfold prsE; rw [if_neg (by simp [d2]), if_pos d3]
          rw [he] at hx; simp at hx
          refine awp_reg_seq fun K hK => ?_
          simp [go_sem, c0, d0, hi, wrap_pred (i := i) (by omega), c1, d1, c2, d2, c3, d3]
          repeat refine ⟨by omega, ?_⟩
          refine hK _ ?_; clear hK K
          refine awp_ret ?_
          simp [go_sem, Tryz.results48, prsChk, hx, c0, d0, hi, wrap_pred (i := i) (by omega), c1, d1, c2, d2, c3, d3] <;> omega
        · have d3 := c3; try simp at d3
          have he : prsE g i = 0 := by unfold prsE; rw [if_neg (by simp [d2]), if_neg (by omega)]
          rw [he] at hx; simp at hx
          refine awp_skip ?_
          refine awp_reg_end fun K hK => ?_
          simp [go_sem, c0, d0, hi, wrap_pred (i := i) (by omega), c1, d1, c2, d2, c3, d3]
          try simp (disch := omega) only [wrapI]
          repeat refine ⟨by omega, ?_⟩
          refine hK _ ?_; clear hK K
          refine ⟨i + 1, back_of' (by simp) (.refl _) (by (simp [go_sem, wrap_succ (i := i) (by omega), c0, d0, hi, wrap_pred (i := i) (by omega), c1, d1, c2, d2, c3, d3] <;> omega)), ⟨by omega, by rw [hx, hk']⟩, by first | omega | (dsimp only; omega)⟩
    · have d1 := c1; try simp at d1
      obtain rfl : i = n := by omega
      rw [Nat.sub_self, firstE] at hx
      refine awp_exit ?_
      refine awp_reg_seq fun K hK => ?_
      simp [go_sem, c0, d0, hi, wrap_pred (i := i) (by omega), c1, d1]
      repeat refine ⟨by omega, ?_⟩
      refine hK _ ?_; clear hK K
      refine awp_ret ?_
      simp [go_sem, Tryz.results48, prsChk, hx, c0, d0, hi, wrap_pred (i := i) (by omega), c1, d1] <;> omega

theorem ref32_Few_cs (σ : List Blk) (c : Option Nat) (n : Nat) (g : Nat → Prs) (hn : n < 1000000000) : CSF Tryz.prog 39 [.d (SL c 6 Prs.enc n g)] σ (.d (B (prsFew n g))) := by
  refine CSF.of_body T.en39 Tryz.func39 rfl (by simp [Tryz.ntmps39]) (by simp [go_sem]) fun hwf => ?_
  refine awp_reg_seq fun K hK => ?_
  simp [go_sem, Tryz.ntmps39]
  repeat refine ⟨by omega, ?_⟩
  refine hK _ ?_; clear hK K
  refine awp_seq ?_
  refine awp_reg_seq fun K hK => ?_
  simp [go_sem]
  repeat refine ⟨by omega, ?_⟩
  refine hK _ ?_; clear hK K
  refine awp_block ?_
  refine awp_forget [0, 5, 6, 7] (by simp [go_sem, restr]; rfl) ?_
  refine awp_loopU (α := Nat) (fun i => [(7, .d (I i))]) (fun i => _) (fun i => i ≤ n ∧ ∀ q, q < i → (g q).Name.size ≤ 200) (fun i => n - i) 0 (by simp [go_sem]) rfl (by simp) ?_
  rintro i ⟨hi, hx⟩
  refine awp_reg_seq fun K hK => ?_
  simp [go_sem]
  repeat refine ⟨by omega, ?_⟩
  refine hK _ ?_; clear hK K
  refine awp_seq ?_
  refine awp_forget [0, 5, 6, 7, 8] (by simp only [restr, List.contains_cons, List.contains_nil, Nat.reduceBEq, Bool.or_false, Bool.or_true, Bool.true_or, Bool.false_or, if_true, if_false, Bool.false_eq_true]; rfl) ?_
  refine awp_cond rfl (fun c0 => ?_) (fun c0 => ?_)
  · have d0 := c0; try simp at d0
    refine awp_skip ?_
    refine awp_seq ?_
    refine awp_block ?_
    refine awp_reg_seq fun K hK => ?_
    simp [go_sem, c0, d0]
    repeat refine ⟨by omega, ?_⟩
    refine hK _ ?_; clear hK K
    refine awp_reg_seq fun K hK => ?_
    simp [go_sem, c0, d0]
    repeat refine ⟨by omega, ?_⟩
    refine hK _ ?_; clear hK K
    refine awp_forget [0, 5, 6, 7, 14] (by simp only [restr, List.contains_cons, List.contains_nil, Nat.reduceBEq, Bool.or_false, Bool.or_true, Bool.true_or, Bool.false_or, if_true, if_false, Bool.false_eq_true]; rfl) ?_
    refine awp_cond rfl (fun c1 => ?_) (fun c1 => ?_)
    · have d1 := c1; try simp at d1
      refine awp_reg_seq fun K hK => ?_
      simp [go_sem, c0, d0, c1, d1]
      repeat refine ⟨by omega, ?_⟩
      refine hK _ ?_; clear hK K
      refine awp_ret ?_
      rw [prsFew_no d0 (by omega)]; simp [go_sem, Tryz.results39]
    · have d1 := c1; try simp at d1
      refine awp_skip ?_
      refine awp_reg_end fun K hK => ?_
      simp [go_sem, c0, d0, c1, d1]
      try simp (disch := omega) only [wrapI]
      repeat refine ⟨by omega, ?_⟩
      refine hK _ ?_; clear hK K
      refine ⟨i + 1, back_of' (by simp) (.refl _) (by (simp [go_sem, wrap_succ (i := i) (by omega), c0, d0, c1, d1] <;> omega)), ⟨by omega, fun q hq => by rcases Nat.lt_or_eq_of_le (Nat.le_of_lt_succ hq) with h | h; exact hx q h; rw [h]; omega⟩, by first | omega | (dsimp only; omega)⟩
  · have d0 := c0; try simp at d0
    obtain rfl : i = n := by omega
    refine awp_exit ?_
    refine awp_reg_seq fun K hK => ?_
    simp [go_sem, c0, d0]
    repeat refine ⟨by omega, ?_⟩
    refine hK _ ?_; clear hK K
    refine awp_ret ?_
    rw [prsFew_yes hx]; simp [go_sem, Tryz.results39]

theorem ref32_Named_cs (σ : List Blk) (s : ByteArray) (hs : s.size < 4294967281) : CSF Tryz.prog 121 [.d (Sb s)] σ (.d (B (namedB s))) := by
  refine CSF.of_body T.en121 Tryz.func121 rfl (by simp [Tryz.ntmps121]) (by simp [go_sem]) fun hwf => ?_
  refine awp_reg_seq fun K hK => ?_
  simp [go_sem, Tryz.ntmps121]
  repeat refine ⟨by omega, ?_⟩
  refine hK _ ?_; clear hK K
  refine awp_seq ?_
  refine awp_reg_seq fun K hK => ?_
  simp [go_sem]
  try simp (disch := omega) only [wrapI]
  repeat refine ⟨by omega, ?_⟩
  refine hK _ ?_; clear hK K
  refine awp_forget [0, 24] (by simp only [restr, List.contains_cons, List.contains_nil, Nat.reduceBEq, Bool.or_false, Bool.or_true, Bool.true_or, Bool.false_or, if_true, if_false, Bool.false_eq_true]; rfl) ?_
  refine awp_cond rfl (fun c0 => ?_) (fun c0 => ?_)
  · have d0 := c0; try simp at d0
    have hz : namedB s = false := by
      cases hb : namedB s with
      | false => rfl
      | true => have h := (named_iff s).1 hb; unfold bt at h; omega
    refine awp_reg_seq fun K hK => ?_
    simp [go_sem, c0, d0]
    repeat refine ⟨by omega, ?_⟩
    refine hK _ ?_; clear hK K
    refine awp_ret ?_
    rw [hz]; simp [go_sem, Tryz.results121]
  · have d0 := c0; try simp at d0
    refine awp_skip ?_
    refine awp_seq ?_
    refine awp_reg_seq fun K hK => ?_
    simp [go_sem, c0, d0]
    repeat refine ⟨by omega, ?_⟩
    refine hK _ ?_; clear hK K
    refine awp_block ?_
    refine awp_forget [0, 3] (by simp [go_sem, restr]; rfl) ?_
    refine awp_loopU (α := Nat) (fun i => [(3, .d (I i))]) (fun i => _) (fun i => i ≤ s.size ∧ ∀ q, q < i → nameAt s q = true) (fun i => s.size - i) 0 (by simp [go_sem]) rfl (by simp) ?_
    rintro i ⟨hi, hx⟩
    refine awp_seq ?_
    refine awp_reg_seq fun K hK => ?_
    simp [go_sem, c0, d0, wrap_pred (i := i) (by omega)]
    repeat refine ⟨by omega, ?_⟩
    refine hK _ ?_; clear hK K
    refine awp_forget [0, 3, 28] (by simp only [restr, List.contains_cons, List.contains_nil, Nat.reduceBEq, Bool.or_false, Bool.or_true, Bool.true_or, Bool.false_or, if_true, if_false, Bool.false_eq_true]; rfl) ?_
    refine awp_cond rfl (fun c1 => ?_) (fun c1 => ?_)
    · have d1 := c1; try simp at d1
      refine awp_skip ?_
      refine awp_seq ?_
      refine awp_block ?_
      refine awp_reg_seq fun K hK => ?_
      simp [go_sem, c0, d0, wrap_pred (i := i) (by omega), c1, d1]
      try simp (disch := omega) only [wrapI]
      repeat refine ⟨by omega, ?_⟩
      refine hK _ ?_; clear hK K
      refine awp_forget [0, 3, 57] (by simp only [restr, List.contains_cons, List.contains_nil, Nat.reduceBEq, Bool.or_false, Bool.or_true, Bool.true_or, Bool.false_or, if_true, if_false, Bool.false_eq_true]; rfl) ?_
      refine awp_cond rfl (fun c2 => ?_) (fun c2 => ?_)
      · have d2 := c2; try simp at d2
        have hz : namedB s = false := named_no d1 (by
          rw [← Bool.not_eq_true, nameAt_iff, bt_lt d1]; unfold bt; omega)
        refine awp_reg_seq fun K hK => ?_
        simp [go_sem, c0, d0, wrap_pred (i := i) (by omega), c1, d1, c2, d2]
        repeat refine ⟨by omega, ?_⟩
        refine hK _ ?_; clear hK K
        refine awp_ret ?_
        rw [hz]; simp [go_sem, Tryz.results121]
      · have d2 := c2; try simp at d2
        have hnx : nameAt s i = true := by
          rw [nameAt_iff, bt_lt d1]; unfold bt; omega
        refine awp_skip ?_
        refine awp_reg_end fun K hK => ?_
        simp [go_sem, c0, d0, wrap_pred (i := i) (by omega), c1, d1, c2, d2]
        try simp (disch := omega) only [wrapI]
        repeat refine ⟨by omega, ?_⟩
        refine hK _ ?_; clear hK K
        refine ⟨i + 1, back_of' (by simp) (.refl _) (by (simp [go_sem, wrap_succ (i := i) (by omega), c0, d0, wrap_pred (i := i) (by omega), c1, d1, c2, d2] <;> omega)), ⟨by omega, fun q hq => by rcases Nat.lt_or_eq_of_le (Nat.le_of_lt_succ hq) with h | h; exact hx q h; rw [h]; exact hnx⟩, by first | omega | (dsimp only; omega)⟩
    · have d1 := c1; try simp at d1
      have hin : i = s.size := by omega
      rw [hin] at hx
      have hz : namedB s = true := (named_iff s).2 ⟨by omega, by omega, by unfold bt; omega, by unfold bt; omega, hx⟩
      refine awp_exit ?_
      refine awp_reg_seq fun K hK => ?_
      simp [go_sem, c0, d0, wrap_pred (i := i) (by omega), c1, d1]
      repeat refine ⟨by omega, ?_⟩
      refine hK _ ?_; clear hK K
      refine awp_ret ?_
      rw [hz]; simp [go_sem, Tryz.results121]

theorem ref32_form_cs (σ : List Blk) (p : Prs) (hs : p.Name.size < 4294967281) : CSF Tryz.prog 89 [.agg (p.enc.map .d)] σ (.d (I (prsE0 p))) := by
  refine CSF.of_body T.en89 Tryz.func89 rfl (by simp [Tryz.ntmps89]) (by simp [go_sem]) fun hwf => ?_
  refine awp_reg_seq fun K hK => ?_
  simp [go_sem, Tryz.ntmps89]
  repeat refine ⟨by omega, ?_⟩
  refine hK _ ?_; clear hK K
  refine awp_seq ?_
  refine awp_reg_seq fun K hK => ?_
  simp [go_sem]
  repeat refine ⟨by omega, ?_⟩
  refine hK _ ?_; clear hK K
  refine awp_forget [1, 10] (by simp only [restr, List.contains_cons, List.contains_nil, Nat.reduceBEq, Bool.or_false, Bool.or_true, Bool.true_or, Bool.false_or, if_true, if_false, Bool.false_eq_true]; rfl) ?_
  refine awp_cond rfl (fun c0 => ?_) (fun c0 => ?_)
  · have d0 := c0; try simp at d0
    refine awp_reg_seq fun K hK => ?_
    simp [go_sem, c0, d0]
    repeat refine ⟨by omega, ?_⟩
    refine hK _ ?_; clear hK K
    refine awp_ret ?_
    simp [go_sem, Tryz.results89, prsE0, c0, d0] <;> omega
  · have d0 := c0; try simp at d0
    refine awp_skip ?_
    refine awp_seq ?_
    refine awp_reg_seq fun K hK => ?_
    simp [go_sem, c0, d0]
    repeat refine ⟨by omega, ?_⟩
    refine CSk.mk (ref32_Named_cs _ _ (by first | assumption | exact loc_app (by assumption) | omega | simp_all)) ?_
    simp [go_sem, c0, d0]
    repeat refine ⟨by omega, ?_⟩
    refine hK _ ?_; clear hK K
    refine awp_forget [1, 14] (by simp only [restr, List.contains_cons, List.contains_nil, Nat.reduceBEq, Bool.or_false, Bool.or_true, Bool.true_or, Bool.false_or, if_true, if_false, Bool.false_eq_true]; rfl) ?_
    refine awp_cond rfl (fun c1 => ?_) (fun c1 => ?_)
    · have d1 := c1; try simp at d1
      refine awp_reg_seq fun K hK => ?_
      simp [go_sem, c0, d0, c1, d1]
      repeat refine ⟨by omega, ?_⟩
      refine hK _ ?_; clear hK K
      refine awp_ret ?_
      simp [go_sem, Tryz.results89, prsE0, c0, d0, c1, d1] <;> omega
    · have d1 := c1; try simp at d1
      refine awp_skip ?_
      refine awp_seq ?_
      refine awp_reg_seq fun K hK => ?_
      simp [go_sem, c0, d0, c1, d1]
      repeat refine ⟨by omega, ?_⟩
      refine CSk.mk (ref03_Check_cs _ p.Birth) ?_
      simp [go_sem, c0, d0, c1, d1]
      repeat refine ⟨by omega, ?_⟩
      refine CSm.mk (ref03_Check_cs _ p.Death) ?_
      simp [go_sem, c0, d0, c1, d1]
      repeat refine ⟨by omega, ?_⟩
      refine hK _ ?_; clear hK K
      refine awp_forget [1, 24] (by simp only [restr, List.contains_cons, List.contains_nil, Nat.reduceBEq, Bool.or_false, Bool.or_true, Bool.true_or, Bool.false_or, if_true, if_false, Bool.false_eq_true]; rfl) ?_
      refine awp_cond rfl (fun c2 => ?_) (fun c2 => ?_)
      · have d2 := c2; try simp at d2
        refine awp_reg_seq fun K hK => ?_
        simp [go_sem, c0, d0, c1, d1, c2, d2]
        repeat refine ⟨by omega, ?_⟩
        refine hK _ ?_; clear hK K
        refine awp_ret ?_
        simp [go_sem, Tryz.results89, prsE0, c0, d0, c1, d1, c2, d2] <;> omega
      · have d2 := c2; try simp at d2
        refine awp_skip ?_
        refine awp_seq ?_
        refine awp_reg_seq fun K hK => ?_
        simp [go_sem, c0, d0, c1, d1, c2, d2]
        repeat refine ⟨by omega, ?_⟩
        refine hK _ ?_; clear hK K
        refine awp_forget [31] (by simp only [restr, List.contains_cons, List.contains_nil, Nat.reduceBEq, Bool.or_false, Bool.or_true, Bool.true_or, Bool.false_or, if_true, if_false, Bool.false_eq_true]; rfl) ?_
        refine awp_cond rfl (fun c3 => ?_) (fun c3 => ?_)
        · have d3 := c3; try simp at d3
          refine awp_reg_seq fun K hK => ?_
          simp [go_sem, c0, d0, c1, d1, c2, d2, c3, d3]
          repeat refine ⟨by omega, ?_⟩
          refine hK _ ?_; clear hK K
          refine awp_ret ?_
          simp [go_sem, Tryz.results89, prsE0, c0, d0, c1, d1, c2, d2, c3, d3] <;> omega
        · have d3 := c3; try simp at d3
          refine awp_skip ?_
          refine awp_reg_seq fun K hK => ?_
          simp [go_sem, c0, d0, c1, d1, c2, d2, c3, d3]
          repeat refine ⟨by omega, ?_⟩
          refine hK _ ?_; clear hK K
          refine awp_ret ?_
          simp [go_sem, Tryz.results89, prsE0, c0, d0, c1, d1, c2, d2, c3, d3] <;> omega

theorem ref32_Check_cs (σ : List Blk) (c : Option Nat) (n : Nat) (g : Nat → Prs) (hn : n < 1000000000) (hN : ∀ i, i < n → (g i).Name.size < 4294967281) : CSF Tryz.prog 58 [.d (SL c 6 Prs.enc n g)] σ (.d (I (prsChk n g))) := by
  refine CSF.of_body T.en58 Tryz.func58 rfl (by simp [Tryz.ntmps58]) (by simp [go_sem]) fun hwf => ?_
  refine awp_reg_seq fun K hK => ?_
  simp [go_sem, Tryz.ntmps58]
  repeat refine ⟨by omega, ?_⟩
  refine hK _ ?_; clear hK K
  refine awp_seq ?_
  refine awp_reg_seq fun K hK => ?_
  simp [go_sem]
  repeat refine ⟨by omega, ?_⟩
  refine hK _ ?_; clear hK K
  refine awp_forget [0, 8] (by simp only [restr, List.contains_cons, List.contains_nil, Nat.reduceBEq, Bool.or_false, Bool.or_true, Bool.true_or, Bool.false_or, if_true, if_false, Bool.false_eq_true]; rfl) ?_
  refine awp_cond rfl (fun c0 => ?_) (fun c0 => ?_)
  · have d0 := c0; try simp at d0
    refine awp_reg_seq fun K hK => ?_
    simp [go_sem, c0, d0]
    repeat refine ⟨by omega, ?_⟩
    refine hK _ ?_; clear hK K
    refine awp_ret ?_
    simp [go_sem, Tryz.results58, prsChk, c0, d0] <;> omega
  · have d0 := c0; try simp at d0
    refine awp_skip ?_
    refine awp_seq ?_
    refine awp_reg_seq fun K hK => ?_
    simp [go_sem, c0, d0]
    repeat refine ⟨by omega, ?_⟩
    refine hK _ ?_; clear hK K
    refine awp_block ?_
    refine awp_forget [0, 9, 10, 11] (by simp [go_sem, restr]; rfl) ?_
    refine awp_loopU (α := Nat) (fun i => [(11, .d (I i))]) (fun i => _) (fun i => i ≤ n ∧ firstE (prsE g) 0 n = firstE (prsE g) i (n - i)) (fun i => n - i) 0 (by simp [go_sem]) rfl (by simp) ?_
    rintro i ⟨hi, hx⟩
    refine awp_reg_seq fun K hK => ?_
    simp [go_sem, c0, d0, hi, wrap_pred (i := i) (by omega)]
    repeat refine ⟨by omega, ?_⟩
    refine hK _ ?_; clear hK K
    refine awp_seq ?_
    refine awp_forget [0, 9, 10, 11, 12] (by simp only [restr, List.contains_cons, List.contains_nil, Nat.reduceBEq, Bool.or_false, Bool.or_true, Bool.true_or, Bool.false_or, if_true, if_false, Bool.false_eq_true]; rfl) ?_
    refine awp_cond rfl (fun c1 => ?_) (fun c1 => ?_)
    · have d1 := c1; try simp at d1
      obtain ⟨k, hk⟩ : ∃ k, n - i = k + 1 := ⟨n - i - 1, by omega⟩
      have hk' : n - (i + 1) = k := by omega
      rw [hk, firstE] at hx
      refine awp_skip ?_
      refine awp_seq ?_
      refine awp_block ?_
      refine awp_reg_seq fun K hK => ?_
      simp [go_sem, c0, d0, hi, wrap_pred (i := i) (by omega), c1, d1]
      repeat refine ⟨by omega, ?_⟩
      refine hK _ ?_; clear hK K
      refine awp_seq ?_
      refine awp_reg_seq fun K hK => ?_
      simp [go_sem, c0, d0, hi, wrap_pred (i := i) (by omega), c1, d1]
      repeat refine ⟨by omega, ?_⟩
      refine CSk.mk (ref32_form_cs _ (g i) (hN i d1)) ?_
      simp [go_sem, c0, d0, hi, wrap_pred (i := i) (by omega), c1, d1]
      repeat refine ⟨by omega, ?_⟩
      refine hK _ ?_; clear hK K
      refine awp_reg_seq fun K hK => ?_
      simp [go_sem, c0, d0, hi, wrap_pred (i := i) (by omega), c1, d1]
      repeat refine ⟨by omega, ?_⟩
      refine hK _ ?_; clear hK K
      refine awp_forget [0, 3, 4, 5, 9, 10, 11, 19] (by simp only [restr, List.contains_cons, List.contains_nil, Nat.reduceBEq, Bool.or_false, Bool.or_true, Bool.true_or, Bool.false_or, if_true, if_false, Bool.false_eq_true]; rfl) ?_
      refine awp_cond rfl (fun c2 => ?_) (fun c2 => ?_)
      · have d2 := c2; try simp at d2
        have he : prsE g i = prsE0 (g i) := by unfold prsE; rw [if_pos d2]
        rw [he, if_pos d2] at hx
        refine awp_reg_seq fun K hK => ?_
        simp [go_sem, c0, d0, hi, wrap_pred (i := i) (by omega), c1, d1, c2, d2]
        repeat refine ⟨by omega, ?_⟩
        refine hK _ ?_; clear hK K
        refine awp_ret ?_
        simp [go_sem, Tryz.results58, prsChk, hx, c0, d0, hi, wrap_pred (i := i) (by omega), c1, d1, c2, d2] <;> omega
      · have d2 := c2; try simp at d2
        refine awp_skip ?_
        refine awp_draw_seq 13 T.mixed (by kernel_rfl) fun K hK => ?_
        simp [go_sem, c0, d0, hi, wrap_pred (i := i) (by omega), c1, d1, c2, d2]
        try simp (disch := omega) only [wrapI]
        repeat refine ⟨by omega, ?_⟩
        refine hK _ ?_; clear hK K
        refine awp_forget [0, 9, 10, 11, 33] (by simp only [restr, List.contains_cons, List.contains_nil, Nat.reduceBEq, Bool.or_false, Bool.or_true, Bool.true_or, Bool.false_or, if_true, if_false, Bool.false_eq_true]; rfl) ?_
        refine awp_cond rfl (fun c3 => ?_) (fun c3 => ?_)
        · have d3 := c3; try simp at d3
          have he : prsE g i = 5 := by unfold prsE; rw [if_neg (by simp [d2]), if_pos d3]
          rw [he] at hx; simp at hx
          refine awp_reg_seq fun K hK => ?_
          simp [go_sem, c0, d0, hi, wrap_pred (i := i) (by omega), c1, d1, c2, d2, c3, d3]
          repeat refine ⟨by omega, ?_⟩
          refine hK _ ?_; clear hK K
          refine awp_ret ?_
          simp [go_sem, Tryz.results58, prsChk, hx, c0, d0, hi, wrap_pred (i := i) (by omega), c1, d1, c2, d2, c3, d3] <;> omega
        · have d3 := c3; try simp at d3
          have he : prsE g i = 0 := by unfold prsE; rw [if_neg (by simp [d2]), if_neg (by omega)]
          rw [he] at hx; simp at hx
          refine awp_skip ?_
          refine awp_reg_end fun K hK => ?_
          simp [go_sem, c0, d0, hi, wrap_pred (i := i) (by omega), c1, d1, c2, d2, c3, d3]
          try simp (disch := omega) only [wrapI]
          repeat refine ⟨by omega, ?_⟩
          refine hK _ ?_; clear hK K
          refine ⟨i + 1, back_of' (by simp) (.refl _) (by (simp [go_sem, wrap_succ (i := i) (by omega), c0, d0, hi, wrap_pred (i := i) (by omega), c1, d1, c2, d2, c3, d3] <;> omega)), ⟨by omega, by rw [hx, hk']⟩, by first | omega | (dsimp only; omega)⟩
    · have d1 := c1; try simp at d1
      obtain rfl : i = n := by omega
      rw [Nat.sub_self, firstE] at hx
      refine awp_exit ?_
      refine awp_reg_seq fun K hK => ?_
      simp [go_sem, c0, d0, hi, wrap_pred (i := i) (by omega), c1, d1]
      repeat refine ⟨by omega, ?_⟩
      refine hK _ ?_; clear hK K
      refine awp_ret ?_
      simp [go_sem, Tryz.results58, prsChk, hx, c0, d0, hi, wrap_pred (i := i) (by omega), c1, d1] <;> omega

end Go.Proofs.YtkochmppmpmddaaGreat

/-! Db -/
namespace Go.Proofs.YtkochmppmpmddaaGreat
open Go.Abs Go.Arch
set_option linter.unusedVariables false
set_option linter.unusedSimpArgs false
set_option maxRecDepth 100000
set_option maxHeartbeats 400000

def Prs.zero : Prs := ⟨0, ⟨#[]⟩, ⟨0, 0⟩, ⟨0, 0⟩⟩
def findPR (n : Nat) (g : Nat → Prs) (u : Int) : Prs × Bool := if prsChk n g ≠ 0 ∨ findP n g u < 0 then (Prs.zero, false) else (g (findP n g u).toNat, true)
theorem findP_lt (n : Nat) (g : Nat → Prs) (u : Int) : findP n g u < n := idx_lt' _ n g
def laterF (d : Int) (g : Nat → Int) : Nat → Int
  | 0 => d
  | i + 1 => (yearsR (laterF d g i) (g i)).1
def untilP (p : Prs) (made : Dating) (y : Int) : Int := min (min (yearsR p.Death.Last y).1 (yearsR (yearsR p.Birth.Last 110).1 y).1) (yearsR (yearsR made.Last 110).1 y).1 + 1
def untilPR (p : Prs) (made : Dating) (y : Int) : Int × Int := if prsE0 p ≠ 0 ∨ datChk made ≠ 0 then (0, 1) else if y < 0 ∨ 200 < y then (0, 2) else (untilP p made y, 0)
def meetR (a b : Dating) : Dating × Bool := if datChk a ≠ 0 ∨ datChk b ≠ 0 ∨ min a.Last b.Last < max a.First b.First then (⟨0, 0⟩, false) else (⟨max a.First b.First, min a.Last b.Last⟩, true)
def learnR (p : Prs) (b d : Dating) : Prs × Bool := (⟨p.ID, p.Name, (meetR p.Birth b).1, (meetR p.Death d).1⟩, (meetR p.Birth b).2 && (meetR p.Death d).2 && decide (prsE0 ⟨p.ID, p.Name, (meetR p.Birth b).1, (meetR p.Death d).1⟩ = 0))
/-- the list behind learning: how many, and which -/
def learnL (n : Nat) (g : Nat → Prs) (k : Int) (b d : Dating) : (Nat × (Nat → Prs)) × Int :=
  if prsChk n g ≠ 0 ∨ datChk b ≠ 0 ∨ datChk d ≠ 0 then ((0, g), 1) else if findP n g k < 0 then ((0, g), 7)
  else if (learnR (g (findP n g k).toNat) b d).2 = false then ((0, g), 10) else ((n, fun q => if q = (findP n g k).toNat then (learnR (g (findP n g k).toNat) b d).1 else g q), 0)
def grE (n : Nat) (g : Nat → Prs) (ids : Nat → Int) (q : Nat) : Int := if findP n g (ids q) < 0 then 7 else 0
def prsGd (k u : Int) : Ground := ⟨2, k, 0, u⟩
def prsGf (n : Nat) (g : Nat → Prs) (ids : Nat → Int) (made : Dating) (y d : Int) (q : Nat) : List Ground :=
  if d < untilP (g (findP n g (ids q)).toNat) made y then [prsGd (ids q) (untilP (g (findP n g (ids q)).toNat) made y)] else []
theorem prsGf_len (n : Nat) (g : Nat → Prs) (ids : Nat → Int) (made : Dating) (y d : Int) (i : Nat) : (prsGf n g ids made y d i).length ≤ 1 := by unfold prsGf; split <;> simp
def prsGr (n : Nat) (g : Nat → Prs) (m : Nat) (ids : Nat → Int) (made : Dating) (y d : Int) : List Ground × Int :=
  if prsChk n g ≠ 0 ∨ datChk made ≠ 0 then ([], 1) else if y < 0 ∨ 200 < y ∨ d < 0 ∨ 1048575 < d then ([], 2) else if ascB ids m = false then ([], 5)
  else if firstE (grE n g ids) 0 m ≠ 0 then ([], 7) else (gather (prsGf n g ids made y d) m, 0)
theorem firstE_at {e : Nat → Int} : ∀ {k i q : Nat}, i ≤ q → q < i + k → e q ≠ 0 → firstE e i k ≠ 0
  | 0, i, q, h1, h2, _ => by omega
  | k + 1, i, q, h1, h2, h3 => by
    rw [firstE]
    by_cases he : e i = 0
    · rw [if_neg (by simp [he])]
      have : q ≠ i := fun h => h3 (h ▸ he)
      exact firstE_at (by omega) (by omega) h3
    · rw [if_pos he]; exact he
theorem findP_at {n : Nat} {g : Nat → Prs} {u : Int} (h : 0 ≤ findP n g u) : (findP n g u).toNat < n ∧ (g (findP n g u).toNat).ID = u ∧ findP n g u = ((findP n g u).toNat : Int) := by
  have h1 := findP_lt n g u
  refine ⟨by omega, ?_, by omega⟩
  rcases idx_spec (fun r : Prs => r.ID == u) (lst n g) 0 with ⟨h2, _⟩ | ⟨q, h2, h3, x, h4, h5, _⟩
  · unfold findP at h; omega
  · have e : (findP n g u).toNat = q := by unfold findP; rw [h3]; omega
    rw [lst_length] at h2
    rw [lst_get h2] at h4
    rw [e]; cases h4; simpa using h5
theorem prs_ok {n : Nat} {g : Nat → Prs} (h0 : prsChk n g = 0) : n ≤ 64 ∧ ∀ i, i < n → prsE0 (g i) = 0 := by
  unfold prsChk at h0
  split at h0
  · omega
  · refine ⟨by omega, fun i hi => ?_⟩
    have := firstE_zero h0 i (by omega) (by omega)
    unfold prsE at this
    split at this
    · exact absurd this (by assumption)
    · rename_i h; exact Decidable.not_not.1 h


theorem ref32_Find_cs (σ : List Blk) (c : Option Nat) (n : Nat) (g : Nat → Prs) (u : Int) (hn : n < 1000000000) (hN : ∀ i, i < n → (g i).Name.size < 4294967281) : CSF Tryz.prog 94 [.d (SL c 6 Prs.enc n g), .d (I u)] σ (.tup [.agg ((findPR n g u).1.enc.map .d), .d (B (findPR n g u).2)]) := by
  refine CSF.of_body T.en94 Tryz.func94 rfl (by simp [Tryz.ntmps94]) (by simp [go_sem]) fun hwf => ?_
  refine awp_reg_seq fun K hK => ?_
  simp [go_sem, Tryz.ntmps94]
  repeat refine ⟨by omega, ?_⟩
  refine hK _ ?_; clear hK K
  refine awp_seq ?_
  refine awp_reg_seq fun K hK => ?_
  simp [go_sem]
  repeat refine ⟨by omega, ?_⟩
  refine CSk.mk (ref32_Check_cs _ c n g hn hN) ?_
  simp [go_sem]
  repeat refine ⟨by omega, ?_⟩
  refine hK _ ?_; clear hK K
  refine awp_forget [0, 1, 4, 10] (by simp only [restr, List.contains_cons, List.contains_nil, Nat.reduceBEq, Bool.or_false, Bool.or_true, Bool.true_or, Bool.false_or, if_true, if_false, Bool.false_eq_true]; rfl) ?_
  refine awp_cond rfl (fun c0 => ?_) (fun c0 => ?_)
  · have d0 := c0; try simp at d0
    have hz : findPR n g u = (Prs.zero, false) := by unfold findPR; rw [if_pos (.inl d0)]
    refine awp_reg_seq fun K hK => ?_
    simp [go_sem, c0, d0]
    repeat refine ⟨by omega, ?_⟩
    refine hK _ ?_; clear hK K
    refine awp_ret ?_
    rw [hz]; simp [go_sem, Tryz.results94, Prs.zero]
  · have d0 := c0; try simp at d0
    refine awp_skip ?_
    refine awp_seq ?_
    refine awp_reg_seq fun K hK => ?_
    simp [go_sem, c0, d0]
    repeat refine ⟨by omega, ?_⟩
    refine hK _ ?_; clear hK K
    refine awp_block ?_
    refine awp_forget [1, 4, 12, 13, 14] (by simp [go_sem, restr]; rfl) ?_
    refine awp_loopU (α := Nat) (fun i => [(14, .d (I i))]) (fun i => _) (fun i => i ≤ n ∧ findP n g u = idxFrom (fun r => r.ID == u) ((lst n g).drop i) i) (fun i => n - i) 0 (by simp [go_sem]) rfl (⟨by omega, rfl⟩) ?_
    rintro i ⟨hi, hx⟩
    refine awp_reg_seq fun K hK => ?_
    simp [go_sem, c0, d0]
    repeat refine ⟨by omega, ?_⟩
    refine hK _ ?_; clear hK K
    refine awp_seq ?_
    refine awp_forget [1, 4, 12, 13, 14, 15] (by simp only [restr, List.contains_cons, List.contains_nil, Nat.reduceBEq, Bool.or_false, Bool.or_true, Bool.true_or, Bool.false_or, if_true, if_false, Bool.false_eq_true]; rfl) ?_
    refine awp_cond rfl (fun c1 => ?_) (fun c1 => ?_)
    · have d1 := c1; try simp at d1
      rw [drop_lst d1, idxFrom] at hx
      refine awp_skip ?_
      refine awp_seq ?_
      refine awp_block ?_
      refine awp_reg_seq fun K hK => ?_
      simp [go_sem, c0, d0, c1, d1]
      repeat refine ⟨by omega, ?_⟩
      refine hK _ ?_; clear hK K
      refine awp_reg_seq fun K hK => ?_
      simp [go_sem, c0, d0, c1, d1]
      repeat refine ⟨by omega, ?_⟩
      refine hK _ ?_; clear hK K
      refine awp_forget [1, 4, 7, 12, 13, 14, 21] (by simp only [restr, List.contains_cons, List.contains_nil, Nat.reduceBEq, Bool.or_false, Bool.or_true, Bool.true_or, Bool.false_or, if_true, if_false, Bool.false_eq_true]; rfl) ?_
      refine awp_cond rfl (fun c2 => ?_) (fun c2 => ?_)
      · have d2 := c2; try simp at d2
        refine awp_reg_seq fun K hK => ?_
        simp [go_sem, c0, d0, c1, d1, c2, d2]
        repeat refine ⟨by omega, ?_⟩
        refine hK _ ?_; clear hK K
        refine awp_ret ?_
        rw [if_pos (by simp [d2])] at hx
        have hz : findPR n g u = (g i, true) := by unfold findPR; rw [hx, if_neg (by omega)]; simp
        rw [hz]; simp [go_sem, Tryz.results94, d2]
      · have d2 := c2; try simp at d2
        refine awp_skip ?_
        refine awp_reg_end fun K hK => ?_
        simp [go_sem, c0, d0, c1, d1, c2, d2]
        try simp (disch := omega) only [wrapI]
        repeat refine ⟨by omega, ?_⟩
        refine hK _ ?_; clear hK K
        refine ⟨i + 1, back_of' (by simp) (.refl _) (by (simp [go_sem, wrap_succ (i := i) (by omega), c0, d0, c1, d1, c2, d2] <;> omega)), ⟨by omega, by rw [hx, if_neg (by simp [d2])]⟩, by first | omega | (dsimp only; omega)⟩
    · have d1 := c1; try simp at d1
      rw [drop_all d1, idxFrom] at hx
      refine awp_exit ?_
      refine awp_reg_seq fun K hK => ?_
      simp [go_sem, c0, d0, c1, d1]
      repeat refine ⟨by omega, ?_⟩
      refine hK _ ?_; clear hK K
      refine awp_ret ?_
      have hz : findPR n g u = (Prs.zero, false) := by unfold findPR; rw [hx, if_pos (by omega)]
      rw [hz]; simp [go_sem, Tryz.results94, Prs.zero]

theorem person_later_cs (σ : List Blk) (d : Int) (c : Option Nat) (n : Nat) (g : Nat → Int) (hn : n < 1000000000) : CSF Tryz.prog 158 [.d (I d), .d (SL c 1 encI n g)] σ (.d (I (laterF d g n))) := by
  refine CSF.of_body T.en158 Tryz.func158 rfl (by simp [Tryz.ntmps158]) (by simp [go_sem]) fun hwf => ?_
  refine awp_reg_seq fun K hK => ?_
  simp [go_sem, Tryz.ntmps158]
  repeat refine ⟨by omega, ?_⟩
  refine hK _ ?_; clear hK K
  refine awp_seq ?_
  refine awp_reg_seq fun K hK => ?_
  simp [go_sem]
  repeat refine ⟨by omega, ?_⟩
  refine hK _ ?_; clear hK K
  refine awp_block ?_
  refine awp_forget [0, 7, 8, 9] (by simp [go_sem, restr]; rfl) ?_
  refine awp_loopU (α := Nat) (fun i => [(0, .d (I (laterF d g i))), (9, .d (I i))]) (fun i => _) (fun i => i ≤ n) (fun i => n - i) 0 (by simp [go_sem, laterF]) rfl (by simp) ?_
  rintro i hi
  refine awp_reg_seq fun K hK => ?_
  simp [go_sem, laterF]
  repeat refine ⟨by omega, ?_⟩
  refine hK _ ?_; clear hK K
  refine awp_seq ?_
  refine awp_forget [0, 7, 8, 9, 10] (by simp only [restr, List.contains_cons, List.contains_nil, Nat.reduceBEq, Bool.or_false, Bool.or_true, Bool.true_or, Bool.false_or, if_true, if_false, Bool.false_eq_true]; rfl) ?_
  refine awp_cond rfl (fun c0 => ?_) (fun c0 => ?_)
  · have d0 := c0; try simp at d0
    refine awp_skip ?_
    refine awp_seq ?_
    refine awp_block ?_
    refine awp_reg_seq fun K hK => ?_
    simp [go_sem, laterF, c0, d0]
    repeat refine ⟨by omega, ?_⟩
    refine hK _ ?_; clear hK K
    refine awp_reg_end fun K hK => ?_
    simp [go_sem, laterF, c0, d0]
    repeat refine ⟨by omega, ?_⟩
    refine CSk.mk (day_Years_cs _ _ _) ?_
    simp [go_sem, laterF, c0, d0]
    repeat refine ⟨by omega, ?_⟩
    refine hK _ ?_; clear hK K
    refine awp_reg_end fun K hK => ?_
    simp [go_sem, laterF, c0, d0]
    try simp (disch := omega) only [wrapI]
    repeat refine ⟨by omega, ?_⟩
    refine hK _ ?_; clear hK K
    refine ⟨i + 1, back_of' (by simp) (.refl _) (by (simp [go_sem, wrap_succ (i := i) (by omega), laterF, c0, d0] <;> omega)), by omega, by first | omega | (dsimp only; omega)⟩
  · have d0 := c0; try simp at d0
    obtain rfl : i = n := by omega
    refine awp_exit ?_
    refine awp_reg_seq fun K hK => ?_
    simp [go_sem, laterF, c0, d0]
    repeat refine ⟨by omega, ?_⟩
    refine hK _ ?_; clear hK K
    refine awp_ret ?_
    simp [go_sem, Tryz.results158, laterF, c0, d0] <;> omega

theorem person_until_cs (σ : List Blk) (p : Prs) (made : Dating) (y : Int) : CSF Tryz.prog 139 [.agg (p.enc.map .d), .agg (made.enc.map .d), .d (I y)] σ (.d (I (untilP p made y))) := by
  have hb := yearsR_bd p.Death.Last y
  unfold isDay at hb
  have hb1 := yearsR_bd (yearsR p.Birth.Last 110).1 y
  unfold isDay at hb1
  have hb2 := yearsR_bd (yearsR made.Last 110).1 y
  unfold isDay at hb2
  refine CSF.of_body T.en139 Tryz.func139 rfl (by simp [Tryz.ntmps139]) (by simp [go_sem]) fun hwf => ?_
  refine awp_reg_seq fun K hK => ?_
  simp [go_sem, Tryz.ntmps139, laterF]
  repeat refine ⟨by omega, ?_⟩
  refine hK _ ?_; clear hK K
  refine awp_draw_seq 19 T.mixed (by kernel_rfl) fun K hK => ?_
  simp [go_sem, laterF]
  try simp (disch := omega) only [wrapI]
  repeat refine ⟨by omega, ?_⟩
  refine CSg.mk ((person_later_cs _ p.Death.Last none 1 (fun _ => y) (by omega)).sub (by simp [go_sem, sameL, sameL0, sameE, sameA, rowsOf])) ?_
  simp [go_sem, laterF]
  try simp (disch := omega) only [wrapI]
  repeat refine ⟨by omega, ?_⟩
  refine CSg.mk ((person_later_cs _ p.Birth.Last none 2 (fun i => if i = 0 then 110 else y) (by omega)).sub (by simp [go_sem, sameL, sameL0, sameE, sameA, rowsOf]; intro i hi; obtain rfl | rfl : i = 0 ∨ i = 1 := (by omega); all_goals rfl)) ?_
  simp [go_sem, laterF]
  try simp (disch := omega) only [wrapI]
  repeat refine ⟨by omega, ?_⟩
  refine CSg.mk ((person_later_cs _ made.Last none 2 (fun i => if i = 0 then 110 else y) (by omega)).sub (by simp [go_sem, sameL, sameL0, sameE, sameA, rowsOf]; intro i hi; obtain rfl | rfl : i = 0 ∨ i = 1 := (by omega); all_goals rfl)) ?_
  simp [go_sem, laterF]
  try simp (disch := omega) only [wrapI]
  repeat refine ⟨by omega, ?_⟩
  refine hK _ ?_; clear hK K
  refine awp_ret ?_
  simp [go_sem, Tryz.results139, untilP, laterF] <;> omega

theorem ref32_aged_cs (σ : List Blk) (d y : Int) : CSF Tryz.prog 153 [.d (I d), .d (I y)] σ (.d (I (yearsR (yearsR d 110).1 y).1)) := by
  refine CSF.of_body T.en153 Tryz.func153 rfl (by simp [Tryz.ntmps153]) (by simp [go_sem]) fun hwf => ?_
  refine awp_reg_seq fun K hK => ?_
  simp [go_sem, Tryz.ntmps153]
  repeat refine ⟨by omega, ?_⟩
  refine hK _ ?_; clear hK K
  refine awp_reg_seq fun K hK => ?_
  simp [go_sem]
  repeat refine ⟨by omega, ?_⟩
  refine CSk.mk (ref02_Years_cs _ _ _) ?_
  simp [go_sem]
  repeat refine ⟨by omega, ?_⟩
  refine hK _ ?_; clear hK K
  refine awp_reg_seq fun K hK => ?_
  simp [go_sem]
  repeat refine ⟨by omega, ?_⟩
  refine CSk.mk (ref02_Years_cs _ _ _) ?_
  simp [go_sem]
  repeat refine ⟨by omega, ?_⟩
  refine hK _ ?_; clear hK K
  refine awp_reg_seq fun K hK => ?_
  simp [go_sem]
  repeat refine ⟨by omega, ?_⟩
  refine hK _ ?_; clear hK K
  refine awp_ret ?_
  simp [go_sem, Tryz.results153] <;> omega

theorem ref32_Until_cs (σ : List Blk) (p : Prs) (made : Dating) (y : Int) (hs : p.Name.size < 4294967281) : CSF Tryz.prog 130 [.agg (p.enc.map .d), .agg (made.enc.map .d), .d (I y)] σ (.tup [.d (I (untilPR p made y).1), .d (I (untilPR p made y).2)]) := by
  have hb := yearsR_bd p.Death.Last y
  unfold isDay at hb
  have hb1 := yearsR_bd (yearsR p.Birth.Last 110).1 y
  unfold isDay at hb1
  have hb2 := yearsR_bd (yearsR made.Last 110).1 y
  unfold isDay at hb2
  refine CSF.of_body T.en130 Tryz.func130 rfl (by simp [Tryz.ntmps130]) (by simp [go_sem]) fun hwf => ?_
  refine awp_reg_seq fun K hK => ?_
  simp [go_sem, Tryz.ntmps130]
  repeat refine ⟨by omega, ?_⟩
  refine hK _ ?_; clear hK K
  refine awp_seq ?_
  refine awp_reg_seq fun K hK => ?_
  simp [go_sem]
  repeat refine ⟨by omega, ?_⟩
  refine CSk.mk (ref32_form_cs _ p hs) ?_
  simp [go_sem]
  repeat refine ⟨by omega, ?_⟩
  refine CSm.mk (ref03_Check_cs _ made) ?_
  simp [go_sem]
  repeat refine ⟨by omega, ?_⟩
  refine hK _ ?_; clear hK K
  refine awp_forget [2, 3, 4, 17] (by simp only [restr, List.contains_cons, List.contains_nil, Nat.reduceBEq, Bool.or_false, Bool.or_true, Bool.true_or, Bool.false_or, if_true, if_false, Bool.false_eq_true]; rfl) ?_
  refine awp_cond rfl (fun c0 => ?_) (fun c0 => ?_)
  · have d0 := c0; try simp at d0
    have hz : untilPR p made y = (0, 1) := by unfold untilPR; rw [if_pos (by simpa using d0)]
    refine awp_reg_seq fun K hK => ?_
    simp [go_sem, c0, d0]
    repeat refine ⟨by omega, ?_⟩
    refine hK _ ?_; clear hK K
    refine awp_ret ?_
    rw [hz]; simp [go_sem, Tryz.results130]
  · have d0 := c0; try simp at d0
    refine awp_skip ?_
    refine awp_seq ?_
    refine awp_reg_seq fun K hK => ?_
    simp [go_sem, c0, d0]
    repeat refine ⟨by omega, ?_⟩
    refine hK _ ?_; clear hK K
    refine awp_forget [2, 3, 4, 23] (by simp only [restr, List.contains_cons, List.contains_nil, Nat.reduceBEq, Bool.or_false, Bool.or_true, Bool.true_or, Bool.false_or, if_true, if_false, Bool.false_eq_true]; rfl) ?_
    refine awp_cond rfl (fun c1 => ?_) (fun c1 => ?_)
    · have d1 := c1; try simp at d1
      have hz : untilPR p made y = (0, 2) := by unfold untilPR; rw [if_neg (by simpa using d0), if_pos (by omega)]
      refine awp_reg_seq fun K hK => ?_
      simp [go_sem, c0, d0, c1, d1]
      repeat refine ⟨by omega, ?_⟩
      refine hK _ ?_; clear hK K
      refine awp_ret ?_
      rw [hz]; simp [go_sem, Tryz.results130]
    · have d1 := c1; try simp at d1
      have hz : untilPR p made y = (untilP p made y, 0) := by unfold untilPR; rw [if_neg (by simpa using d0), if_neg (by omega)]
      refine awp_skip ?_
      refine awp_reg_seq fun K hK => ?_
      simp [go_sem, c0, d0, c1, d1]
      repeat refine ⟨by omega, ?_⟩
      refine CSk.mk (ref02_Years_cs _ _ _) ?_
      simp [go_sem, c0, d0, c1, d1]
      repeat refine ⟨by omega, ?_⟩
      refine hK _ ?_; clear hK K
      refine awp_draw_seq 12 T.mixed (by kernel_rfl) fun K hK => ?_
      simp [go_sem, c0, d0, c1, d1]
      try simp (disch := omega) only [wrapI]
      repeat refine ⟨by omega, ?_⟩
      refine CSg.mk (ref32_aged_cs _ _ _) ?_
      simp [go_sem, c0, d0, c1, d1]
      try simp (disch := omega) only [wrapI]
      repeat refine ⟨by omega, ?_⟩
      refine CSg.mk (ref32_aged_cs _ _ _) ?_
      simp [go_sem, c0, d0, c1, d1]
      try simp (disch := omega) only [wrapI]
      repeat refine ⟨by omega, ?_⟩
      refine hK _ ?_; clear hK K
      refine awp_ret ?_
      rw [hz]; simp [go_sem, Tryz.results130, untilP]

theorem dating_both_cs (σ : List Blk) (a b : Dating) : CSF Tryz.prog 144 [.agg (a.enc.map .d), .agg (b.enc.map .d)] σ (.d (B (decide (datChk a = 0) && decide (datChk b = 0)))) := by
  refine CSF.of_body T.en144 Tryz.func144 rfl (by simp [Tryz.ntmps144]) (by simp [go_sem]) fun hwf => ?_
  refine awp_reg_seq fun K hK => ?_
  simp [go_sem, Tryz.ntmps144]
  repeat refine ⟨by omega, ?_⟩
  refine hK _ ?_; clear hK K
  refine awp_reg_seq fun K hK => ?_
  simp [go_sem]
  repeat refine ⟨by omega, ?_⟩
  refine CSk.mk (dating_Check_cs _ _) ?_
  simp [go_sem]
  repeat refine ⟨by omega, ?_⟩
  refine CSm.mk (dating_Check_cs _ _) ?_
  simp [go_sem]
  repeat refine ⟨by omega, ?_⟩
  refine hK _ ?_; clear hK K
  refine awp_ret ?_
  simp [go_sem, Tryz.results144]
  rfl

theorem dating_Meet_cs (σ : List Blk) (a b : Dating) : CSF Tryz.prog 115 [.agg (a.enc.map .d), .agg (b.enc.map .d)] σ (.tup [.agg ((meetR a b).1.enc.map .d), .d (B (meetR a b).2)]) := by
  refine CSF.of_body T.en115 Tryz.func115 rfl (by simp [Tryz.ntmps115]) (by simp [go_sem]) fun hwf => ?_
  refine awp_reg_seq fun K hK => ?_
  simp [go_sem, Tryz.ntmps115]
  repeat refine ⟨by omega, ?_⟩
  refine hK _ ?_; clear hK K
  refine awp_reg_seq fun K hK => ?_
  simp [go_sem]
  repeat refine ⟨by omega, ?_⟩
  refine hK _ ?_; clear hK K
  refine awp_seq ?_
  refine awp_reg_seq fun K hK => ?_
  simp [go_sem]
  repeat refine ⟨by omega, ?_⟩
  refine CSk.mk (dating_both_cs _ a b) ?_
  simp [go_sem]
  repeat refine ⟨by omega, ?_⟩
  refine hK _ ?_; clear hK K
  refine awp_forget [4, 6, 28] (by simp only [restr, List.contains_cons, List.contains_nil, Nat.reduceBEq, Bool.or_false, Bool.or_true, Bool.true_or, Bool.false_or, if_true, if_false, Bool.false_eq_true]; rfl) ?_
  refine awp_cond rfl (fun c0 => ?_) (fun c0 => ?_)
  · have d0 := c0; try simp at d0
    have hz : meetR a b = (⟨0, 0⟩, false) := by unfold meetR; rw [if_pos (by simpa [or_assoc] using d0)]
    refine awp_reg_seq fun K hK => ?_
    simp [go_sem, c0, d0]
    repeat refine ⟨by omega, ?_⟩
    refine hK _ ?_; clear hK K
    refine awp_ret ?_
    rw [hz]; simp [go_sem, Tryz.results115]
  · have d0 := c0; try simp at d0
    have hz : meetR a b = (⟨max a.First b.First, min a.Last b.Last⟩, true) := by unfold meetR; rw [if_neg (by rintro (h | h | h); exact h d0.1.1; exact h d0.1.2; omega)]
    refine awp_skip ?_
    refine awp_reg_seq fun K hK => ?_
    simp [go_sem, c0, d0]
    repeat refine ⟨by omega, ?_⟩
    refine hK _ ?_; clear hK K
    refine awp_ret ?_
    rw [hz]; simp [go_sem, Tryz.results115]

theorem person_learned_cs (σ : List Blk) (p : Prs) (b d : Dating) (hs : p.Name.size < 4294967281) (hσ : σ[0]? = some (.loc 0)) : CSF Tryz.prog 74 [.agg (p.enc.map .d), .agg (b.enc.map .d), .agg (d.enc.map .d)] σ (.tup [.agg ((learnR p b d).1.enc.map .d), .d (B (learnR p b d).2)]) := by
  refine CSF.of_body T.en74 Tryz.func74 rfl (by simp [Tryz.ntmps74]) (by simp [go_sem]) fun hwf => ?_
  refine awp_reg_seq fun K hK => ?_
  simp [go_sem, Tryz.ntmps74]
  repeat refine ⟨by omega, ?_⟩
  refine hK _ ?_; clear hK K
  refine awp_reg_seq fun K hK => ?_
  simp [go_sem]
  repeat refine ⟨by omega, ?_⟩
  refine hK _ ?_; clear hK K
  refine awp_reg_seq fun K hK => ?_
  simp [go_sem]
  repeat refine ⟨by omega, ?_⟩
  refine CSk.mk (dating_Meet_cs _ p.Birth b) ?_
  simp [go_sem]
  repeat refine ⟨by omega, ?_⟩
  refine hK _ ?_; clear hK K
  refine awp_reg_seq fun K hK => ?_
  simp [go_sem]
  repeat refine ⟨by omega, ?_⟩
  refine CSk.mk (dating_Meet_cs _ p.Death d) ?_
  simp [go_sem]
  repeat refine ⟨by omega, ?_⟩
  refine hK _ ?_; clear hK K
  apply awp_late_seq 11 10 T.mixed (by kernel_rfl)
  · intro K hK
    simp [go_sem]
    repeat refine ⟨by omega, ?_⟩
    refine CSg.mk (person_fault_cs _ ⟨p.ID, p.Name, (meetR p.Birth b).1, (meetR p.Death d).1⟩ hs (loc_app hσ)) ?_
    simp [go_sem]
    repeat refine ⟨by omega, ?_⟩
    exact hK _ _
  · simp [go_sem]; rfl
  · intro K hK
    simp [go_sem]
    repeat refine ⟨by omega, ?_⟩
    refine CSg.mk (person_fault_cs _ ⟨p.ID, p.Name, (meetR p.Birth b).1, (meetR p.Death d).1⟩ hs (loc_app hσ)) ?_
    simp [go_sem]
    repeat refine ⟨by omega, ?_⟩
    exact hK _ _
  intro K hK
  simp [go_sem]
  repeat refine ⟨by omega, ?_⟩
  refine hK _ ?_; clear hK K
  refine awp_ret ?_
  simp [go_sem, Tryz.results74, learnR]
  rfl

theorem person_Grounds_cs (σ : List Blk) (c : Option Nat) (n : Nat) (g : Nat → Prs) (c' : Option Nat) (m : Nat) (ids : Nat → Int) (made : Dating) (y d : Int) (hn : n < 1000000000) (hm : m < 1000000000) (hN : ∀ i, i < n → (g i).Name.size < 4294967281) (hσ : σ[0]? = some (.loc 0)) : CSF Tryz.prog 107 [.d (SL c 6 Prs.enc n g), .d (SL c' 1 encI m ids), .agg (made.enc.map .d), .d (I y), .d (I d)] σ (.tup [.d (SL none 4 Ground.enc (prsGr n g m ids made y d).1.length (nth (prsGr n g m ids made y d).1)), .d (I (prsGr n g m ids made y d).2)]) := by
  refine CSF.of_body T.en107 Tryz.func107 rfl (by simp [Tryz.ntmps107]) (by simp [go_sem]) fun hwf => ?_
  refine awp_reg_seq fun K hK => ?_
  simp [go_sem, Tryz.ntmps107]
  repeat refine ⟨by omega, ?_⟩
  refine hK _ ?_; clear hK K
  refine awp_seq ?_
  refine awp_block ?_
  refine awp_reg_seq fun K hK => ?_
  simp [go_sem]
  repeat refine ⟨by omega, ?_⟩
  refine CSk.mk (person_Check_cs _ c n g hn hN (loc_app hσ)) ?_
  simp [go_sem]
  repeat refine ⟨by omega, ?_⟩
  refine CSm.mk (dating_Check_cs _ made) ?_
  simp [go_sem]
  repeat refine ⟨by omega, ?_⟩
  refine hK _ ?_; clear hK K
  refine awp_forget [0, 1, 3, 4, 7, 18] (by simp only [restr, List.contains_cons, List.contains_nil, Nat.reduceBEq, Bool.or_false, Bool.or_true, Bool.true_or, Bool.false_or, if_true, if_false, Bool.false_eq_true]; rfl) ?_
  refine awp_cond rfl (fun c0 => ?_) (fun c0 => ?_)
  · have d0 := c0; try simp at d0
    have hz : prsGr n g m ids made y d = ([], 1) := by unfold prsGr; rw [if_pos (by simpa using d0)]
    refine awp_reg_seq fun K hK => ?_
    simp [go_sem, c0, d0]
    repeat refine ⟨by omega, ?_⟩
    refine hK _ ?_; clear hK K
    refine awp_ret ?_
    rw [hz]; simp [go_sem, Tryz.results107]
  · have d0 := c0; try simp at d0
    refine awp_reg_seq fun K hK => ?_
    simp [go_sem, c0, d0]
    repeat refine ⟨by omega, ?_⟩
    refine hK _ ?_; clear hK K
    refine awp_forget [0, 1, 3, 4, 7, 27] (by simp only [restr, List.contains_cons, List.contains_nil, Nat.reduceBEq, Bool.or_false, Bool.or_true, Bool.true_or, Bool.false_or, if_true, if_false, Bool.false_eq_true]; rfl) ?_
    refine awp_cond rfl (fun c1 => ?_) (fun c1 => ?_)
    · have d1 := c1; try simp at d1
      have hz : prsGr n g m ids made y d = ([], 2) := by unfold prsGr; rw [if_neg (by simpa using d0), if_pos (by omega)]
      refine awp_reg_seq fun K hK => ?_
      simp [go_sem, c0, d0, c1, d1]
      repeat refine ⟨by omega, ?_⟩
      refine hK _ ?_; clear hK K
      refine awp_ret ?_
      rw [hz]; simp [go_sem, Tryz.results107]
    · have d1 := c1; try simp at d1
      refine awp_skip ?_
      refine awp_seq ?_
      refine awp_reg_seq fun K hK => ?_
      simp [go_sem, c0, d0, c1, d1]
      repeat refine ⟨by omega, ?_⟩
      refine hK _ ?_; clear hK K
      refine awp_block ?_
      refine awp_forget [0, 1, 3, 4, 7, 43, 44] (by simp [go_sem, restr]; rfl) ?_
      refine awp_loopU (α := Nat) (fun i => [(44, .d (I i))]) (fun i => _) (fun i => i ≤ m ∧ ∀ q, 0 < q → q < i → ids (q - 1) < ids q) (fun i => m - i) 0 (by simp [go_sem]) rfl (by simp) ?_
      rintro i ⟨hi, hx⟩
      refine awp_reg_seq fun K hK => ?_
      simp [go_sem, c0, d0, c1, d1, wrap_pred (i := i) (by omega)]
      repeat refine ⟨by omega, ?_⟩
      refine hK _ ?_; clear hK K
      refine awp_seq ?_
      refine awp_forget [0, 1, 3, 4, 7, 43, 44, 45] (by simp only [restr, List.contains_cons, List.contains_nil, Nat.reduceBEq, Bool.or_false, Bool.or_true, Bool.true_or, Bool.false_or, if_true, if_false, Bool.false_eq_true]; rfl) ?_
      refine awp_cond rfl (fun c2 => ?_) (fun c2 => ?_)
      · have d2 := c2; try simp at d2
        refine awp_skip ?_
        refine awp_seq ?_
        refine awp_block ?_
        refine awp_reg_seq fun K hK => ?_
        simp [go_sem, c0, d0, c1, d1, wrap_pred (i := i) (by omega), c2, d2]
        repeat refine ⟨by omega, ?_⟩
        refine hK _ ?_; clear hK K
        refine awp_draw_seq 14 T.mixed (by kernel_rfl) fun K hK => ?_
        simp [go_sem, c0, d0, c1, d1, wrap_pred (i := i) (by omega), c2, d2]
        try simp (disch := omega) only [wrapI]
        repeat refine ⟨by omega, ?_⟩
        refine hK _ ?_; clear hK K
        refine awp_forget [0, 1, 3, 4, 7, 43, 44, 60] (by simp only [restr, List.contains_cons, List.contains_nil, Nat.reduceBEq, Bool.or_false, Bool.or_true, Bool.true_or, Bool.false_or, if_true, if_false, Bool.false_eq_true]; rfl) ?_
        refine awp_cond rfl (fun c3 => ?_) (fun c3 => ?_)
        · have d3 := c3; try simp at d3
          have hz : prsGr n g m ids made y d = ([], 5) := by unfold prsGr; rw [if_neg (by simpa using d0), if_neg (by omega), if_pos (asc_no d2 d3.1 d3.2)]
          refine awp_reg_seq fun K hK => ?_
          simp [go_sem, c0, d0, c1, d1, wrap_pred (i := i) (by omega), c2, d2, c3, d3]
          repeat refine ⟨by omega, ?_⟩
          refine hK _ ?_; clear hK K
          refine awp_ret ?_
          rw [hz]; simp [go_sem, Tryz.results107]
        · have d3 := c3; try simp at d3
          refine awp_skip ?_
          refine awp_reg_end fun K hK => ?_
          simp [go_sem, c0, d0, c1, d1, wrap_pred (i := i) (by omega), c2, d2, c3, d3]
          try simp (disch := omega) only [wrapI]
          repeat refine ⟨by omega, ?_⟩
          refine hK _ ?_; clear hK K
          refine ⟨i + 1, back_of' (by simp) (.refl _) (by (simp [go_sem, wrap_succ (i := i) (by omega), c0, d0, c1, d1, wrap_pred (i := i) (by omega), c2, d2, c3, d3] <;> omega)), ⟨by omega, asc_step hx d3⟩, by first | omega | (dsimp only; omega)⟩
      · have d2 := c2; try simp at d2
        have him : i = m := by omega
        rw [him] at hx
        have ha := asc_yes hx
        refine awp_exit ?_
        refine awp_reg_seq fun K hK => ?_
        simp [go_sem, c0, d0, c1, d1, wrap_pred (i := i) (by omega), c2, d2]
        repeat refine ⟨by omega, ?_⟩
        refine hK _ ?_; clear hK K
        refine awp_seq ?_
        refine awp_thawT 13 4 (fun i => Ground.enc (nth ([] : List Ground) i)) (by simp [go_sem]) (by simp [go_sem]; rfl) ?_
        refine awp_reg_seq fun K hK => ?_
        simp [go_sem, c0, d0, c1, d1, wrap_pred (i := i) (by omega), c2, d2]
        repeat refine ⟨by omega, ?_⟩
        refine hK _ ?_; clear hK K
        refine awp_block ?_
        refine awp_forget [0, 3, 4, 7, 13, 62, 63, 64] (by simp [go_sem, restr]; rfl) ?_
        refine awp_mv [σ.length + 1] (by simp) ?_
        refine awp_loopU (α := Nat) (fun q => [(13, .ms (σ.length + 1) 4 0 (gather (prsGf n g ids made y d) q).length), (64, .d (I q))]) (fun q => σ ++ [.var [.d (I made.First), .d (I made.Last)], .arr 4 (gather (prsGf n g ids made y d) q).length (fun k => Ground.enc (nth (gather (prsGf n g ids made y d) q) k))]) (fun q => q ≤ m ∧ ∀ k, k < q → 0 ≤ findP n g (ids k)) (fun q => m - q) 0 (by simp [go_sem, gather]) rfl (by simp) ?_
        rintro q ⟨hq, hf⟩
        refine awp_reg_seq fun K hK => ?_
        simp [go_sem, c0, d0, c1, d1, wrap_pred (i := i) (by omega), c2, d2]
        repeat refine ⟨by omega, ?_⟩
        refine hK _ ?_; clear hK K
        refine awp_seq ?_
        refine awp_forget [0, 3, 4, 7, 13, 62, 63, 64, 65] (by simp only [restr, List.contains_cons, List.contains_nil, Nat.reduceBEq, Bool.or_false, Bool.or_true, Bool.true_or, Bool.false_or, if_true, if_false, Bool.false_eq_true]; rfl) ?_
        refine awp_cond rfl (fun c4 => ?_) (fun c4 => ?_)
        · have d4 := c4; try simp at d4
          have hl := gather_len (prsGf_len n g ids made y d) q
          have hlt := findP_lt n g (ids q)
          refine awp_skip ?_
          refine awp_seq ?_
          refine awp_block ?_
          refine awp_reg_seq fun K hK => ?_
          simp [go_sem, c0, d0, c1, d1, wrap_pred (i := i) (by omega), c2, d2, c4, d4]
          repeat refine ⟨by omega, ?_⟩
          refine hK _ ?_; clear hK K
          refine awp_reg_seq fun K hK => ?_
          simp [go_sem, c0, d0, c1, d1, wrap_pred (i := i) (by omega), c2, d2, c4, d4]
          repeat refine ⟨by omega, ?_⟩
          refine CSk.mk (person_index_cs _ c n g (ids q) hn) ?_
          simp [go_sem, c0, d0, c1, d1, wrap_pred (i := i) (by omega), c2, d2, c4, d4]
          repeat refine ⟨by omega, ?_⟩
          refine hK _ ?_; clear hK K
          refine awp_seq ?_
          refine awp_reg_seq fun K hK => ?_
          simp [go_sem, c0, d0, c1, d1, wrap_pred (i := i) (by omega), c2, d2, c4, d4]
          repeat refine ⟨by omega, ?_⟩
          refine hK _ ?_; clear hK K
          refine awp_forget [0, 3, 4, 7, 13, 15, 16, 62, 63, 64, 72] (by simp only [restr, List.contains_cons, List.contains_nil, Nat.reduceBEq, Bool.or_false, Bool.or_true, Bool.true_or, Bool.false_or, if_true, if_false, Bool.false_eq_true]; rfl) ?_
          refine awp_cond rfl (fun c5 => ?_) (fun c5 => ?_)
          · have d5 := c5; try simp at d5
            have hz : prsGr n g m ids made y d = ([], 7) := by unfold prsGr; rw [if_neg (by simpa using d0), if_neg (by omega), if_neg (by simp [ha]), if_pos (firstE_at (q := q) (by omega) (by omega) (by unfold grE; rw [if_pos d5]; decide))]
            refine awp_reg_seq fun K hK => ?_
            simp [go_sem, c0, d0, c1, d1, wrap_pred (i := i) (by omega), c2, d2, c4, d4, c5, d5]
            repeat refine ⟨by omega, ?_⟩
            refine hK _ ?_; clear hK K
            refine awp_ret ?_
            rw [hz]; simp [go_sem, Tryz.results107]
          · have d5 := c5; try simp at d5
            refine awp_skip ?_
            refine awp_draw_seq 7 T.mixed (by kernel_rfl) fun K hK => ?_
            simp [go_sem, c0, d0, c1, d1, wrap_pred (i := i) (by omega), c2, d2, c4, d4, c5, d5]
            repeat refine ⟨by omega, ?_⟩
            refine CSg.mk (person_until_cs _ (g (findP n g (ids q)).toNat) made y) ?_
            simp [go_sem, c0, d0, c1, d1, wrap_pred (i := i) (by omega), c2, d2, c4, d4, c5, d5]
            repeat refine ⟨by omega, ?_⟩
            refine hK _ ?_; clear hK K
            refine awp_reg_seq fun K hK => ?_
            simp [go_sem, c0, d0, c1, d1, wrap_pred (i := i) (by omega), c2, d2, c4, d4, c5, d5]
            repeat refine ⟨by omega, ?_⟩
            refine hK _ ?_; clear hK K
            refine awp_forget [0, 3, 4, 7, 13, 15, 17, 62, 63, 64, 82] (by simp only [restr, List.contains_cons, List.contains_nil, Nat.reduceBEq, Bool.or_false, Bool.or_true, Bool.true_or, Bool.false_or, if_true, if_false, Bool.false_eq_true]; rfl) ?_
            refine awp_cond rfl (fun c6 => ?_) (fun c6 => ?_)
            · have d6 := c6; try simp at d6
              have hg : gather (prsGf n g ids made y d) (q + 1) = gather (prsGf n g ids made y d) q ++ [prsGd (ids q) (untilP (g (findP n g (ids q)).toNat) made y)] := by rw [gather, prsGf, if_pos d6]
              refine awp_reg_end fun K hK => ?_
              simp [go_sem, c0, d0, c1, d1, wrap_pred (i := i) (by omega), c2, d2, c4, d4, c5, d5, c6, d6, hg, hwf.one, hwf.zero]
              repeat refine ⟨by omega, ?_⟩
              refine hK _ ?_; clear hK K
              refine awp_rows (σ.length + 1) (fun k => Ground.enc (nth (gather (prsGf n g ids made y d) q ++ [prsGd (ids q) (untilP (g (findP n g (ids q)).toNat) made y)]) k)) (by simp [go_sem]; first | exact ⟨rfl, rfl, rfl⟩ | exact ⟨rfl, rfl⟩ | rfl) (by exact fun k hk => cat_nth (enc := Ground.enc) (x := prsGd (ids q) (untilP (g (findP n g (ids q)).toNat) made y)) rfl hk) (by simp [go_sem]; rfl) ?_
              refine awp_reg_end fun K hK => ?_
              simp [go_sem, c0, d0, c1, d1, wrap_pred (i := i) (by omega), c2, d2, c4, d4, c5, d5, c6, d6, hg]
              try simp (disch := omega) only [wrapI]
              repeat refine ⟨by omega, ?_⟩
              refine hK _ ?_; clear hK K
              refine ⟨q + 1, back_of' (by simp [go_sem, wrap_succ (i := q) (by omega), c0, d0, c1, d1, wrap_pred (i := i) (by omega), c2, d2, c4, d4, c5, d5, c6, d6, hg]) ((leaves_app (by simp [go_sem]))) (by (simp [go_sem, wrap_succ (i := q) (by omega), c0, d0, c1, d1, wrap_pred (i := i) (by omega), c2, d2, c4, d4, c5, d5, c6, d6, hg] <;> omega)), ⟨by omega, fun k hk => by rcases Nat.lt_or_eq_of_le (Nat.le_of_lt_succ hk) with h | h; exact hf k h; rw [h]; omega⟩, by first | omega | (dsimp only; omega)⟩
            · have d6 := c6; try simp at d6
              have hg : gather (prsGf n g ids made y d) (q + 1) = gather (prsGf n g ids made y d) q := by rw [gather, prsGf, if_neg (by omega)]; simp
              refine awp_skip ?_
              refine awp_reg_end fun K hK => ?_
              simp [go_sem, c0, d0, c1, d1, wrap_pred (i := i) (by omega), c2, d2, c4, d4, c5, d5, c6, d6, hg]
              try simp (disch := omega) only [wrapI]
              repeat refine ⟨by omega, ?_⟩
              refine hK _ ?_; clear hK K
              refine ⟨q + 1, back_of' (by simp [go_sem, wrap_succ (i := q) (by omega), c0, d0, c1, d1, wrap_pred (i := i) (by omega), c2, d2, c4, d4, c5, d5, c6, d6, hg]) ((leaves_app (by simp [go_sem]))) (by (simp [go_sem, wrap_succ (i := q) (by omega), c0, d0, c1, d1, wrap_pred (i := i) (by omega), c2, d2, c4, d4, c5, d5, c6, d6, hg] <;> omega)), ⟨by omega, fun k hk => by rcases Nat.lt_or_eq_of_le (Nat.le_of_lt_succ hk) with h | h; exact hf k h; rw [h]; omega⟩, by first | omega | (dsimp only; omega)⟩
        · have d4 := c4; try simp at d4
          obtain rfl : q = m := by omega
          have hz : prsGr n g q ids made y d = (gather (prsGf n g ids made y d) q, 0) := by unfold prsGr; rw [if_neg (by simpa using d0), if_neg (by omega), if_neg (by simp [ha]), if_neg (by simp only [ne_eq, Decidable.not_not]; exact firstE_of fun k h1 h2 => by unfold grE; rw [if_neg (by have := hf k (by omega); omega)])]
          refine awp_exit ?_
          refine awp_reg_seq fun K hK => ?_
          simp [go_sem, c0, d0, c1, d1, wrap_pred (i := i) (by omega), c2, d2, c4, d4]
          repeat refine ⟨by omega, ?_⟩
          refine hK _ ?_; clear hK K
          refine awp_freeze (σ.length + 1) (by simp [go_sem]; first | exact ⟨rfl, rfl, rfl⟩ | exact ⟨rfl, rfl⟩ | rfl) (by simp [go_sem]; rfl) (by simp [go_sem, hwf.frz, hwf.frz0]; rfl) ?_
          refine awp_ret ?_
          rw [hz]; simp [go_sem, Tryz.results107]

end Go.Proofs.YtkochmppmpmddaaGreat
