/- Contracts, written by a program along closure0.spec. -/
import Derived.Test.YtplpklikapkloaaBa
namespace Go.Proofs.Ytplpklikapkloaa
open Go.Abs
set_option linter.unusedVariables false
set_option linter.unusedSimpArgs false
set_option maxRecDepth 100000
set_option maxHeartbeats 400000

structure Span where
  From : Int
  Until : Int
structure Rule where
  ID : Int
  Class : Int
  Years : Int
  YearEnd : Bool
  In : Span
instance : Inhabited Rule := ⟨⟨0, 0, 0, false, ⟨0, 0⟩⟩⟩
def Span.enc (s : Span) : List D := [I s.From, I s.Until]
def Rule.enc (r : Rule) : List D := [I r.ID, I r.Class, I r.Years, B r.YearEnd, I r.In.From, I r.In.Until]
attribute [go_sem] Span.enc Rule.enc


def spanOk (s : Span) : Bool := decide (0 ≤ s.From) && decide (s.From < s.Until) && decide (s.Until ≤ 1048576)
theorem closure_span_cs (σ : List Blk) (s : Span) : CSF Try.prog 46 [.agg (s.enc.map .d)] σ (.d (B (spanOk s))) := by
  refine CSF.of_body T.en46 Try.func46 rfl (by simp [Try.ntmps46]) (by simp [go_sem]) fun hwf => ?_
  refine awp_reg_seq fun K hK => ?_
  simp [go_sem, Try.ntmps46]
  repeat refine ⟨by omega, ?_⟩
  refine hK _ ?_; clear hK K
  refine awp_reg_seq fun K hK => ?_
  simp [go_sem]
  repeat refine ⟨by omega, ?_⟩
  refine hK _ ?_; clear hK K
  refine awp_ret ?_
  simp [go_sem, Try.results46, spanOk] <;> omega

def formed (r : Rule) : Bool := decide (1 ≤ r.ID) && decide (r.ID ≤ 1073741824) && decide (1 ≤ r.Class) && decide (r.Class ≤ 999) && decide (0 ≤ r.Years) && decide (r.Years ≤ 200) && spanOk r.In
theorem closure_formed_cs (σ : List Blk) (r : Rule) : CSF Try.prog 32 [.agg (r.enc.map .d)] σ (.d (B (formed r))) := by
  refine CSF.of_body T.en32 Try.func32 rfl (by simp [Try.ntmps32]) (by simp [go_sem]) fun hwf => ?_
  refine awp_reg_seq fun K hK => ?_
  simp [go_sem, Try.ntmps32]
  repeat refine ⟨by omega, ?_⟩
  refine hK _ ?_; clear hK K
  refine awp_reg_seq fun K hK => ?_
  simp [go_sem]
  repeat refine ⟨by omega, ?_⟩
  refine CSm.mk (closure_span_cs _ r.In) ?_
  simp [go_sem]
  repeat refine ⟨by omega, ?_⟩
  refine hK _ ?_; clear hK K
  refine awp_ret ?_
  simp [go_sem, Try.results32, formed] <;> omega

theorem indexRule_cs (σ : List Blk) (c : Option Nat) (n : Nat) (g : Nat → Rule) (f : FuncId) (cap : List AV) (p : Rule → Bool) (hn : n < 1000000000) (hf : ∀ i, i < n → CSF Try.prog f (.agg ((g i).enc.map .d) :: cap) σ (.d (B (p (g i))))) : CSF Try.prog 30 [.d (SL c 6 Rule.enc n g), .clo (.func f) [] cap] σ (.d (I (idxFrom p (lst n g) 0))) := by
  refine CSF.of_body T.en30 Try.func30 rfl (by simp [Try.ntmps30]) (by simp [go_sem]) fun hwf => ?_
  refine awp_reg_seq fun K hK => ?_
  simp [go_sem, Try.ntmps30]
  repeat refine ⟨by omega, ?_⟩
  refine hK _ ?_; clear hK K
  refine awp_seq ?_
  refine awp_reg_seq fun K hK => ?_
  simp [go_sem]
  repeat refine ⟨by omega, ?_⟩
  refine hK _ ?_; clear hK K
  refine awp_block ?_
  refine awp_forget [0, 1, 7, 8] (by simp [go_sem, restr]; rfl) ?_
  refine awp_loopU (α := Nat) (fun i => [(8, .d (I i))]) (fun i => _) (fun i => i ≤ n ∧ idxFrom p (lst n g) 0 = idxFrom p ((lst n g).drop i) i) (fun i => n - i) 0 (by simp [go_sem]) rfl (by simp) ?_
  rintro i ⟨hi, hx⟩
  refine awp_reg_seq fun K hK => ?_
  simp [go_sem]
  repeat refine ⟨by omega, ?_⟩
  refine hK _ ?_; clear hK K
  refine awp_seq ?_
  refine awp_cond rfl (fun c0 => ?_) (fun c0 => ?_)
  · have d0 := c0; try simp at d0
    rw [drop_lst d0, idxFrom] at hx
    refine awp_skip ?_
    refine awp_seq ?_
    refine awp_block ?_
    refine awp_reg_seq fun K hK => ?_
    simp [go_sem, c0, d0]
    repeat refine ⟨by omega, ?_⟩
    refine hK _ ?_; clear hK K
    refine awp_reg_seq fun K hK => ?_
    simp [go_sem, c0, d0]
    repeat refine ⟨by omega, ?_⟩
    refine CSk.mk (hf i d0) ?_
    simp [go_sem, c0, d0]
    repeat refine ⟨by omega, ?_⟩
    refine hK _ ?_; clear hK K
    refine awp_cond rfl (fun c1 => ?_) (fun c1 => ?_)
    · have d1 := c1; try simp at d1
      refine awp_reg_seq fun K hK => ?_
      simp [go_sem, c0, d0, c1, d1]
      repeat refine ⟨by omega, ?_⟩
      refine hK _ ?_; clear hK K
      refine awp_ret ?_
      simp [go_sem, Try.results30, hx, c0, d0, c1, d1] <;> omega
    · have d1 := c1; try simp at d1
      refine awp_skip ?_
      refine awp_reg_end fun K hK => ?_
      simp [go_sem, c0, d0, c1, d1]
      try simp (disch := omega) only [wrapI]
      repeat refine ⟨by omega, ?_⟩
      refine hK _ ?_; clear hK K
      refine ⟨i + 1, back_of' (by simp) (.refl _) (by simp [go_sem, wrap_succ (i := i) (by omega), c0, d0, c1, d1]), ⟨by omega, by rw [hx, c1]; simp⟩, by omega⟩
  · have d0 := c0; try simp at d0
    rw [drop_all d0, idxFrom] at hx
    refine awp_exit ?_
    refine awp_reg_seq fun K hK => ?_
    simp [go_sem, c0, d0]
    repeat refine ⟨by omega, ?_⟩
    refine hK _ ?_; clear hK K
    refine awp_ret ?_
    simp [go_sem, Try.results30, hx, c0, d0] <;> omega

theorem containsRule_cs (σ : List Blk) (c : Option Nat) (n : Nat) (g : Nat → Rule) (f : FuncId) (cap : List AV) (p : Rule → Bool) (hn : n < 1000000000) (hf : ∀ i, i < n → CSF Try.prog f (.agg ((g i).enc.map .d) :: cap) σ (.d (B (p (g i))))) : CSF Try.prog 33 [.d (SL c 6 Rule.enc n g), .clo (.func f) [] cap] σ (.d (B ((lst n g).any p))) := by
  refine CSF.of_body T.en33 Try.func33 rfl (by simp [Try.ntmps33]) (by simp [go_sem]) fun hwf => ?_
  refine awp_reg_seq fun K hK => ?_
  simp [go_sem, Try.ntmps33]
  repeat refine ⟨by omega, ?_⟩
  refine hK _ ?_; clear hK K
  refine awp_reg_seq fun K hK => ?_
  simp [go_sem]
  repeat refine ⟨by omega, ?_⟩
  refine CSk.mk (indexRule_cs _ c n g f cap p hn hf) ?_
  simp [go_sem]
  repeat refine ⟨by omega, ?_⟩
  refine hK _ ?_; clear hK K
  refine awp_ret ?_
  simp [go_sem, Try.results33, idx_any] <;> omega

def clash (r o : Rule) : Bool := (o.Class == r.Class) && decide (o.In.From < r.In.Until) && decide (r.In.From < o.In.Until)
theorem closure_Check_1_cs (σ : List Blk) (τ : List Blk) (r o : Rule) : CSF Try.prog 34 [.agg (o.enc.map .d), .ptr τ.length 0] (τ ++ .var (r.enc.map .d) :: σ) (.d (B (clash r o))) := by
  refine CSF.of_body T.en34 Try.func34 rfl (by simp [Try.ntmps34]) (by simp [go_sem]) fun hwf => ?_
  refine awp_reg_seq fun K hK => ?_
  simp [go_sem, Try.ntmps34]
  repeat refine ⟨by omega, ?_⟩
  refine hK _ ?_; clear hK K
  refine awp_reg_seq fun K hK => ?_
  simp [go_sem]
  repeat refine ⟨by omega, ?_⟩
  refine hK _ ?_; clear hK K
  refine awp_ret ?_
  simp [go_sem, Try.results34, clash] <;> omega

def chkF (g : Nat → Rule) (i : Nat) : Nat → Int
  | 0 => 0
  | k + 1 => if formed (g i) = false then 2 else if (decide (0 < i) && decide ((g i).ID ≤ (g (i - 1)).ID)) = true then 5 else if (lst i g).any (clash (g i)) = true then 6 else chkF g (i + 1) k
def check (n : Nat) (g : Nat → Rule) : Int := if 64 < n then 8 else chkF g 0 n
theorem closure_Check_cs (σ : List Blk) (c : Option Nat) (n : Nat) (g : Nat → Rule) (hn : n < 1000000000) : CSF Try.prog 16 [.d (SL c 6 Rule.enc n g)] σ (.d (I (check n g))) := by
  refine CSF.of_body T.en16 Try.func16 rfl (by simp [Try.ntmps16]) (by simp [go_sem]) fun hwf => ?_
  refine awp_reg_seq fun K hK => ?_
  simp [go_sem, Try.ntmps16]
  repeat refine ⟨by omega, ?_⟩
  refine hK _ ?_; clear hK K
  refine awp_seq ?_
  refine awp_reg_seq fun K hK => ?_
  simp [go_sem]
  repeat refine ⟨by omega, ?_⟩
  refine hK _ ?_; clear hK K
  refine awp_cond rfl (fun c0 => ?_) (fun c0 => ?_)
  · have d0 := c0; try simp at d0
    refine awp_reg_seq fun K hK => ?_
    simp [go_sem, c0, d0]
    repeat refine ⟨by omega, ?_⟩
    refine hK _ ?_; clear hK K
    refine awp_ret ?_
    simp [go_sem, Try.results16, check, c0, d0] <;> omega
  · have d0 := c0; try simp at d0
    refine awp_skip ?_
    refine awp_seq ?_
    refine awp_reg_seq fun K hK => ?_
    simp [go_sem, c0, d0]
    repeat refine ⟨by omega, ?_⟩
    refine hK _ ?_; clear hK K
    refine awp_block ?_
    refine awp_forget [0, 8, 9, 10] (by simp [go_sem, restr]; rfl) ?_
    refine awp_loopU (α := Nat) (fun i => [(10, .d (I i))]) (fun i => _) (fun i => i ≤ n ∧ chkF g 0 n = chkF g i (n - i)) (fun i => n - i) 0 (by simp [go_sem]) rfl (by simp) ?_
    rintro i ⟨hi, hx⟩
    refine awp_reg_seq fun K hK => ?_
    simp [go_sem, c0, d0, hi, wrap_pred (i := i) (by omega)]
    repeat refine ⟨by omega, ?_⟩
    refine hK _ ?_; clear hK K
    refine awp_seq ?_
    refine awp_cond rfl (fun c1 => ?_) (fun c1 => ?_)
    · have d1 := c1; try simp at d1
      obtain ⟨k, hk⟩ : ∃ k, n - i = k + 1 := ⟨n - i - 1, by omega⟩
      have hk' : n - (i + 1) = k := by omega
      rw [hk, chkF] at hx
      refine awp_skip ?_
      refine awp_seq ?_
      refine awp_block ?_
      refine awp_reg_seq fun K hK => ?_
      simp [go_sem, c0, d0, hi, wrap_pred (i := i) (by omega), c1, d1]
      repeat refine ⟨by omega, ?_⟩
      refine hK _ ?_; clear hK K
      refine awp_block ?_
      refine awp_reg_seq fun K hK => ?_
      simp [go_sem, c0, d0, hi, wrap_pred (i := i) (by omega), c1, d1]
      repeat refine ⟨by omega, ?_⟩
      refine CSk.mk (closure_formed_cs _ _) ?_
      simp [go_sem, c0, d0, hi, wrap_pred (i := i) (by omega), c1, d1]
      repeat refine ⟨by omega, ?_⟩
      refine hK _ ?_; clear hK K
      refine awp_cond rfl (fun c2 => ?_) (fun c2 => ?_)
      · have d2 := c2; try simp at d2
        refine awp_reg_seq fun K hK => ?_
        simp [go_sem, c0, d0, hi, wrap_pred (i := i) (by omega), c1, d1, c2, d2]
        repeat refine ⟨by omega, ?_⟩
        refine hK _ ?_; clear hK K
        refine awp_ret ?_
        simp [go_sem, Try.results16, check, hx, c0, d0, hi, wrap_pred (i := i) (by omega), c1, d1, c2, d2] <;> omega
      · have d2 := c2; try simp at d2
        refine awp_draw_seq 14 T.mixed (by kernel_rfl) fun K hK => ?_
        simp [go_sem, c0, d0, hi, wrap_pred (i := i) (by omega), c1, d1, c2, d2]
        try simp (disch := omega) only [wrapI]
        repeat refine ⟨by omega, ?_⟩
        refine hK _ ?_; clear hK K
        refine awp_cond rfl (fun c3 => ?_) (fun c3 => ?_)
        · have d3 := c3; try simp at d3
          refine awp_reg_seq fun K hK => ?_
          simp [go_sem, c0, d0, hi, wrap_pred (i := i) (by omega), c1, d1, c2, d2, c3, d3]
          repeat refine ⟨by omega, ?_⟩
          refine hK _ ?_; clear hK K
          refine awp_ret ?_
          simp [go_sem, Try.results16, check, hx, c0, d0, hi, wrap_pred (i := i) (by omega), c1, d1, c2, d2, c3, d3] <;> omega
        · have d3 := c3; try simp at d3
          refine awp_reg_seq fun K hK => ?_
          simp [go_sem, c0, d0, hi, wrap_pred (i := i) (by omega), c1, d1, c2, d2, c3, d3]
          repeat refine ⟨by omega, ?_⟩
          refine CSk.mk (containsRule_cs _ _ i g _ _ (clash (g i)) (by omega) (fun q hq => closure_Check_1_cs [] σ (g i) (g q))) ?_
          simp [go_sem, c0, d0, hi, wrap_pred (i := i) (by omega), c1, d1, c2, d2, c3, d3]
          repeat refine ⟨by omega, ?_⟩
          refine hK _ ?_; clear hK K
          refine awp_cond rfl (fun c4 => ?_) (fun c4 => ?_)
          · have d4 := c4; try simp at d4
            refine awp_reg_seq fun K hK => ?_
            simp [go_sem, c0, d0, hi, wrap_pred (i := i) (by omega), c1, d1, c2, d2, c3, d3, c4, d4]
            repeat refine ⟨by omega, ?_⟩
            refine hK _ ?_; clear hK K
            refine awp_ret ?_
            simp [go_sem, Try.results16, check, hx, c0, d0, hi, wrap_pred (i := i) (by omega), c1, d1, c2, d2, c3, d3, c4, d4] <;> omega
          · have d4 := c4; try simp at d4
            refine awp_skip ?_
            refine awp_reg_end fun K hK => ?_
            simp [go_sem, c0, d0, hi, wrap_pred (i := i) (by omega), c1, d1, c2, d2, c3, d3, c4, d4]
            try simp (disch := omega) only [wrapI]
            repeat refine ⟨by omega, ?_⟩
            refine hK _ ?_; clear hK K
            refine ⟨i + 1, back_of' (by simp) (.refl _) (by simp [go_sem, wrap_succ (i := i) (by omega), c0, d0, hi, wrap_pred (i := i) (by omega), c1, d1, c2, d2, c3, d3, c4, d4]), ⟨by omega, by rw [hx, hk']; simp [d2, c3, c4]⟩, by omega⟩
    · have d1 := c1; try simp at d1
      obtain rfl : i = n := by omega
      rw [Nat.sub_self, chkF] at hx
      refine awp_exit ?_
      refine awp_reg_seq fun K hK => ?_
      simp [go_sem, c0, d0, hi, wrap_pred (i := i) (by omega), c1, d1]
      repeat refine ⟨by omega, ?_⟩
      refine hK _ ?_; clear hK K
      refine awp_ret ?_
      simp [go_sem, Try.results16, check, hx, c0, d0, hi, wrap_pred (i := i) (by omega), c1, d1] <;> omega

end Go.Proofs.Ytplpklikapkloaa
