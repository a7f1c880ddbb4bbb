/- Contracts: the laws on closures, written by a program along law31.spec. -/
import Derived.Test.YtplpklikapkloaaBo
namespace Go.Proofs.Ytplpklikapkloaa
open Go.Abs Go.Arch
set_option linter.unusedVariables false
set_option linter.unusedSimpArgs false
set_option maxRecDepth 100000
set_option maxHeartbeats 400000

theorem CSF.same {P : Program} {f : FuncId} {args args' : List AV} {σ : List Blk} {r : AV} (h : CSF P f args σ r) (hs : sameL args' args) : CSF P f args' σ r := by
  obtain ⟨hl, hk⟩ := sameL_spec hs
  refine ⟨h.1, fun j w vs h1 h2 => h.2 j w vs h1 ⟨by rw [h2.1, hl], fun k hk' => ?_⟩⟩
  exact hk k (by omega) w j _ (h2.2 k (by omega))

def r0 : Rule := ⟨1, 7, 30, false, ⟨0, 1048576⟩⟩
def m0 : Dating := ⟨146097, 146100⟩
def g0 : Nat → Rule := fun _ => r0
theorem aw_until : untilR r0 m0 = (157059, 0) := by kernel_rfl
theorem aw_spans : refSpansR 1 g0 7 m0 = ([⟨0, 157059⟩], 0) := by kernel_rfl
theorem aw_end1 : (endR 1 g0 1 150000).1.1 = 1 := by kernel_rfl
theorem aw_end2 : (endR 1 g0 1 150000).2 = 0 := by kernel_rfl
theorem aw_spans2 : refSpansR (endR 1 g0 1 150000).1.1 (endR 1 g0 1 150000).1.2 7 m0 = ([⟨0, 150000⟩], 0) := by kernel_rfl
theorem aw_closed : (closedR 1 g0 7 m0 157058).2 = true := by kernel_rfl
theorem aw_closed2 : (closedR 1 g0 7 m0 157059).2 = false := by kernel_rfl
theorem aw_same (d : Int) : lst 1 (nth [Span.mk 0 d]) = lst 1 (fun _ => Span.mk 0 d) := rfl
theorem aw_row (x : List D) (sz : Nat) (h : x.length = sz) (i : Nat) (hi : i < 1) : rowsOf sz x i = x := by
  have : i = 0 := by omega
  subst this
  rw [rowsOf_zero, ← h, List.take_length]


theorem law31_awake_cs (σ : List Blk)  : CSF Try.prog 11 [] σ (.d (B true)) := by
  refine CSF.of_body T.en11 Try.func11 rfl (by simp [Try.ntmps11]) (by simp [go_sem]) fun hwf => ?_
  refine awp_reg_seq fun K hK => ?_
  simp [go_sem, Try.ntmps11, aw_same, aw_spans2, aw_until, aw_spans, aw_end2, aw_closed, aw_closed2, rowsOf_zero]
  repeat refine ⟨by omega, ?_⟩
  refine hK _ ?_; clear hK K
  refine awp_reg_seq fun K hK => ?_
  simp [go_sem, aw_same, aw_spans2, aw_until, aw_spans, aw_end2, aw_closed, aw_closed2, rowsOf_zero]
  repeat refine ⟨by omega, ?_⟩
  refine hK _ ?_; clear hK K
  refine awp_reg_seq fun K hK => ?_
  simp [go_sem, aw_same, aw_spans2, aw_until, aw_spans, aw_end2, aw_closed, aw_closed2, rowsOf_zero]
  repeat refine ⟨by omega, ?_⟩
  refine hK _ ?_; clear hK K
  refine awp_draw_seq 9 T.mixed (by kernel_rfl) fun K hK => ?_
  simp [go_sem, aw_same, aw_spans2, aw_until, aw_spans, aw_end2, aw_closed, aw_closed2, rowsOf_zero]
  repeat refine ⟨by omega, ?_⟩
  refine CSg.mk (closure_Until_cs _ r0 m0) ?_
  simp [go_sem, aw_same, aw_spans2, aw_until, aw_spans, aw_end2, aw_closed, aw_closed2, rowsOf_zero]
  repeat refine ⟨by omega, ?_⟩
  refine hK _ ?_; clear hK K
  refine awp_reg_seq fun K hK => ?_
  simp [go_sem, aw_same, aw_spans2, aw_until, aw_spans, aw_end2, aw_closed, aw_closed2, rowsOf_zero]
  repeat refine ⟨by omega, ?_⟩
  refine CSk.mk (CSF.same (closure_Spans_cs _ none 1 g0 7 m0 (by omega)) ⟨⟨.inl rfl, rfl, rfl, fun i hi => aw_row _ 6 rfl i hi⟩, rfl, rfl, trivial⟩) ?_
  simp [go_sem, aw_same, aw_spans2, aw_until, aw_spans, aw_end2, aw_closed, aw_closed2, rowsOf_zero]
  repeat refine ⟨by omega, ?_⟩
  refine hK _ ?_; clear hK K
  refine awp_reg_seq fun K hK => ?_
  simp [go_sem, aw_same, aw_spans2, aw_until, aw_spans, aw_end2, aw_closed, aw_closed2, rowsOf_zero]
  repeat refine ⟨by omega, ?_⟩
  refine CSk.mk (CSF.same (closure_End_cs _ none 1 g0 1 150000 (by omega)) ⟨⟨.inl rfl, rfl, rfl, fun i hi => aw_row _ 6 rfl i hi⟩, rfl, rfl, trivial⟩) ?_
  simp [go_sem, aw_same, aw_spans2, aw_until, aw_spans, aw_end2, aw_closed, aw_closed2, rowsOf_zero]
  repeat refine ⟨by omega, ?_⟩
  refine hK _ ?_; clear hK K
  refine awp_reg_seq fun K hK => ?_
  simp [go_sem, aw_same, aw_spans2, aw_until, aw_spans, aw_end2, aw_closed, aw_closed2, rowsOf_zero]
  repeat refine ⟨by omega, ?_⟩
  refine CSk.mk (closure_Spans_cs _ none _ _ 7 m0 (by rw [aw_end1]; omega)) ?_
  simp [go_sem, aw_same, aw_spans2, aw_until, aw_spans, aw_end2, aw_closed, aw_closed2, rowsOf_zero]
  repeat refine ⟨by omega, ?_⟩
  refine hK _ ?_; clear hK K
  refine awp_reg_seq fun K hK => ?_
  simp [go_sem, aw_same, aw_spans2, aw_until, aw_spans, aw_end2, aw_closed, aw_closed2, rowsOf_zero]
  repeat refine ⟨by omega, ?_⟩
  refine CSk.mk (CSF.same (closure_Closed_cs _ none 1 g0 7 m0 157058 (by omega)) ⟨⟨.inl rfl, rfl, rfl, fun i hi => aw_row _ 6 rfl i hi⟩, rfl, rfl, rfl, trivial⟩) ?_
  simp [go_sem, aw_same, aw_spans2, aw_until, aw_spans, aw_end2, aw_closed, aw_closed2, rowsOf_zero]
  repeat refine ⟨by omega, ?_⟩
  refine hK _ ?_; clear hK K
  refine awp_reg_seq fun K hK => ?_
  simp [go_sem, aw_same, aw_spans2, aw_until, aw_spans, aw_end2, aw_closed, aw_closed2, rowsOf_zero]
  repeat refine ⟨by omega, ?_⟩
  refine CSk.mk (CSF.same (closure_Closed_cs _ none 1 g0 7 m0 157059 (by omega)) ⟨⟨.inl rfl, rfl, rfl, fun i hi => aw_row _ 6 rfl i hi⟩, rfl, rfl, rfl, trivial⟩) ?_
  simp [go_sem, aw_same, aw_spans2, aw_until, aw_spans, aw_end2, aw_closed, aw_closed2, rowsOf_zero]
  repeat refine ⟨by omega, ?_⟩
  refine hK _ ?_; clear hK K
  refine awp_reg_seq fun K hK => ?_
  simp [go_sem, aw_same, aw_spans2, aw_until, aw_spans, aw_end2, aw_closed, aw_closed2, rowsOf_zero]
  try simp (disch := omega) only [wrapI]
  repeat refine ⟨by omega, ?_⟩
  refine CSm.mk (CSF.same (ref31_SameSpans_cs _ none 1 (nth [⟨0, 157059⟩]) none 1 (fun _ => ⟨0, 157059⟩) (.isTrue (aw_same _)) (by omega)) ⟨⟨.inl rfl, rfl, rfl, fun i hi => rfl⟩, ⟨.inl rfl, rfl, rfl, fun i hi => aw_row _ 2 rfl i hi⟩, trivial⟩) ?_
  simp [go_sem, aw_same, aw_spans2, aw_until, aw_spans, aw_end2, aw_closed, aw_closed2, rowsOf_zero]
  try simp (disch := omega) only [wrapI]
  repeat refine ⟨by omega, ?_⟩
  refine CSm.mk (CSF.same (ref31_SameSpans_cs _ none 1 (nth [⟨0, 150000⟩]) none 1 (fun _ => ⟨0, 150000⟩) (.isTrue (aw_same _)) (by omega)) ⟨⟨.inl rfl, rfl, rfl, fun i hi => rfl⟩, ⟨.inl rfl, rfl, rfl, fun i hi => aw_row _ 2 rfl i hi⟩, trivial⟩) ?_
  simp [go_sem, aw_same, aw_spans2, aw_until, aw_spans, aw_end2, aw_closed, aw_closed2, rowsOf_zero]
  try simp (disch := omega) only [wrapI]
  repeat refine ⟨by omega, ?_⟩
  refine hK _ ?_; clear hK K
  refine awp_ret ?_
  simp [go_sem, Try.results11, aw_same, aw_spans2, aw_until, aw_spans, aw_end2, aw_closed, aw_closed2, rowsOf_zero] <;> omega

end Go.Proofs.Ytplpklikapkloaa
