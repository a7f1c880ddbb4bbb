/- Contracts: the spans of a class, one by one, written by a program along closure4.spec. -/
import Derived.Test.YtplpklikapkloaaBj
namespace Go.Proofs.Ytplpklikapkloaa
open Go.Abs Go.Arch
set_option linter.unusedVariables false
set_option linter.unusedSimpArgs false
set_option maxRecDepth 100000
set_option maxHeartbeats 400000

/-- what the rounds of a range over closing do to the store -/
structure Rounds (S : Nat → List Blk) (L : List Rule) (m : Dating) (y a b c o : Nat) : Prop where
  ha : ∀ i υ, (S i ++ υ)[a]? = some (.var [.ms c 6 0 L.length])
  ha0 : ∀ i, (S i)[a]? = some (.var [.ms c 6 0 L.length])
  hb0 : ∀ i, (S i)[b]? = some (.var (m.enc.map .d))
  hc0 : ∀ i, (S i)[c]? = some (.arr 6 L.length fun q => Rule.enc (nth L q))
  hb : ∀ i υ, (S i ++ υ)[b]? = some (.var (m.enc.map .d))
  hc : ∀ i υ, (S i ++ υ)[c]? = some (.arr 6 L.length fun q => Rule.enc (nth L q))
  hlv : ∀ i, Abs.Leaves (S 0) (S i)
  hls : ∀ i, Abs.Leaves (S i) (S (i + 1))
  hol : ∀ i, ¬ (S i).length = o
  hol1 : ∀ i, ¬ (S i).length + 1 = o
  hyo : y ≠ o
  hao : a ≠ o
  hbo : b ≠ o
  hco : c ≠ o
  yes : ∀ i, i < L.length → (clSpan m (nth L i)).From < (clSpan m (nth L i)).Until → ∀ υ : List Blk, υ.map (scrubV [o]) = υ → YS Try.prog y [.agg ((clSpan m (nth L i)).enc.map .d)] (S i ++ υ) (fun r σ' X => X = [o] ∧ r = .d (B true) ∧ σ' = S (i + 1) ++ υ)
  no : ∀ i, i < L.length → ¬ (clSpan m (nth L i)).From < (clSpan m (nth L i)).Until → S (i + 1) = S i


theorem closure_closing_3_cs (σ : List Blk) (S : Nat → List Blk) (L : List Rule) (m : Dating) (y a b c o : Nat) (h : Rounds S L m y a b c o) (hn : L.length < 1000000000) : CS Try.prog 66 [.yld y, .ptr a 0, .ptr b 0] (S 0) (fun r σ' X' => X' = [o] ∧ r = .tup [] ∧ σ' = S L.length) := by
  refine CS.of_bodyD [o] T.en66 Try.func66 rfl (by simp [Try.ntmps66]) fun hwf => ?_
  refine awp_reg_seq fun K hK => ?_
  simp [go_sem, Try.ntmps66, h.hol, h.hol1, h.ha, h.ha0, h.hb, h.hc, h.hb0, h.hc0, h.hyo, h.hao, h.hbo, h.hco]
  repeat refine ⟨by omega, ?_⟩
  refine hK _ ?_; clear hK K
  refine awp_block ?_
  refine awp_forget [0, 2, 7, 8, 9] (by simp [go_sem, restr]; rfl) ?_
  refine awp_mv [o] (by simp) ?_
  refine awp_loopU (α := Nat) (fun i => [(9, .d (I i))]) (fun i => S i) (fun i => i ≤ L.length) (fun i => L.length - i) 0 (by simp [go_sem, h.hol, h.hol1, h.ha, h.ha0, h.hb, h.hc, h.hb0, h.hc0, h.hyo, h.hao, h.hbo, h.hco]) rfl (by simp) ?_
  rintro i hi
  refine awp_reg_seq fun K hK => ?_
  simp [go_sem, h.hol, h.hol1, h.ha, h.ha0, h.hb, h.hc, h.hb0, h.hc0, h.hyo, h.hao, h.hbo, h.hco]
  repeat refine ⟨by omega, ?_⟩
  refine hK _ ?_; clear hK K
  refine awp_seq ?_
  refine awp_forget [0, 2, 7, 8, 9, 10] (by simp only [restr, List.contains_cons, List.contains_nil, Nat.reduceBEq, Bool.or_false, Bool.or_true, Bool.true_or, Bool.false_or, if_true, if_false, Bool.false_eq_true]; rfl) ?_
  refine awp_cond rfl (fun c0 => ?_) (fun c0 => ?_)
  · have d0 := c0; try simp at d0
    refine awp_skip ?_
    refine awp_seq ?_
    refine awp_block ?_
    refine awp_reg_seq fun K hK => ?_
    simp [go_sem, h.hol, h.hol1, h.ha, h.ha0, h.hb, h.hc, h.hb0, h.hc0, h.hyo, h.hao, h.hbo, h.hco, c0, d0]
    repeat refine ⟨by omega, ?_⟩
    refine hK _ ?_; clear hK K
    apply awp_own_seq 12 11 13 T.mixed (by kernel_rfl)
    · intro τ K hK
      simp [go_sem, h.hol, h.hol1, h.ha, h.ha0, h.hb, h.hc, h.hb0, h.hc0, h.hyo, h.hao, h.hbo, h.hco, c0, d0]
      repeat refine ⟨by omega, ?_⟩
      refine CSg.mk (closure_until_cs _ _ _) ?_
      simp [go_sem, h.hol, h.hol1, h.ha, h.ha0, h.hb, h.hc, h.hb0, h.hc0, h.hyo, h.hao, h.hbo, h.hco, c0, d0]
      repeat refine ⟨by omega, ?_⟩
      exact hK _ _
    intro K hK
    simp [go_sem, h.hol, h.hol1, h.ha, h.ha0, h.hb, h.hc, h.hb0, h.hc0, h.hyo, h.hao, h.hbo, h.hco, c0, d0]
    repeat refine ⟨by omega, ?_⟩
    refine hK _ ?_; clear hK K
    refine awp_reg_seq fun K hK => ?_
    simp [go_sem, h.hol, h.hol1, h.ha, h.ha0, h.hb, h.hc, h.hb0, h.hc0, h.hyo, h.hao, h.hbo, h.hco, c0, d0]
    repeat refine ⟨by omega, ?_⟩
    by_cases hs : (clSpan m (nth L i)).From < (clSpan m (nth L i)).Until
    · have hs' : (nth L i).In.From < min (nth L i).In.Until (lastF (nth L i) m + 1) := hs
      refine ⟨.undef, fun _ => YSk.gen (h.yes i d0 hs _ (by simp [go_sem, scrubV])) ?_, fun hf => by simp [hs'] at hf⟩
      rintro r σ' X ⟨rfl, rfl, rfl⟩
      simp [go_sem, h.hol, h.hol1, h.ha, h.ha0, h.hb, h.hc, h.hb0, h.hc0, h.hyo, h.hao, h.hbo, h.hco, c0, d0, hs']
      repeat refine ⟨by omega, ?_⟩
      refine hK _ ?_; clear hK K
      refine awp_forget [0, 2, 7, 8, 9, 34] (by simp only [restr, List.contains_cons, List.contains_nil, Nat.reduceBEq, Bool.or_false, Bool.or_true, Bool.true_or, Bool.false_or, if_true, if_false, Bool.false_eq_true]; rfl) ?_
      refine awp_cond rfl (fun c1 => ?_) (fun c1 => ?_)
      · simp at c1
      · refine awp_skip ?_
        refine awp_reg_end fun K hK => ?_
        simp [go_sem, h.hol, h.hol1, h.ha, h.ha0, h.hb, h.hc, h.hb0, h.hc0, h.hyo, h.hao, h.hbo, h.hco, c0, d0, hs']
        try simp (disch := omega) only [wrapI]
        repeat refine ⟨by omega, ?_⟩
        refine hK _ ?_; clear hK K
        refine ⟨i + 1, back_of' (by simp [go_sem, h.hol, h.hol1, h.ha, h.ha0, h.hb, h.hc, h.hb0, h.hc0, h.hyo, h.hao, h.hbo, h.hco, c0, d0, hs']) (h.hls i) (by (simp [go_sem, h.hol, h.hol1, h.ha, h.ha0, h.hb, h.hc, h.hb0, h.hc0, h.hyo, h.hao, h.hbo, h.hco, c0, d0, hs', wrap_succ (i := i) (by omega)] <;> omega)), by omega, by first | omega | (dsimp only; omega)⟩
    · have hs' : ¬ (nth L i).In.From < min (nth L i).In.Until (lastF (nth L i) m + 1) := hs
      have hno := h.no i d0 hs
      refine ⟨.d (B true), fun hf => by simp [hs'] at hf, fun _ => ?_⟩

      simp [go_sem, h.hol, h.hol1, h.ha, h.ha0, h.hb, h.hc, h.hb0, h.hc0, h.hyo, h.hao, h.hbo, h.hco, c0, d0, hs']
      repeat refine ⟨by omega, ?_⟩
      refine hK _ ?_; clear hK K
      refine awp_forget [0, 2, 7, 8, 9, 34] (by simp only [restr, List.contains_cons, List.contains_nil, Nat.reduceBEq, Bool.or_false, Bool.or_true, Bool.true_or, Bool.false_or, if_true, if_false, Bool.false_eq_true]; rfl) ?_
      refine awp_cond rfl (fun c1 => ?_) (fun c1 => ?_)
      · simp at c1
      · refine awp_skip ?_
        refine awp_reg_end fun K hK => ?_
        simp [go_sem, h.hol, h.hol1, h.ha, h.ha0, h.hb, h.hc, h.hb0, h.hc0, h.hyo, h.hao, h.hbo, h.hco, c0, d0, hs']
        try simp (disch := omega) only [wrapI]
        repeat refine ⟨by omega, ?_⟩
        refine hK _ ?_; clear hK K
        refine ⟨i + 1, back_of' (by simp [go_sem, h.hol, h.hol1, h.ha, h.ha0, h.hb, h.hc, h.hb0, h.hc0, h.hyo, h.hao, h.hbo, h.hco, c0, d0, hs', hno]) (h.hls i) (by (simp [go_sem, h.hol, h.hol1, h.ha, h.ha0, h.hb, h.hc, h.hb0, h.hc0, h.hyo, h.hao, h.hbo, h.hco, c0, d0, hs', wrap_succ (i := i) (by omega)] <;> omega)), by omega, by first | omega | (dsimp only; omega)⟩
  · have d0 := c0; try simp at d0
    refine awp_exit ?_
    have he : i = L.length := by omega
    subst he
    simp [go_sem, Try.results66, c0, d0]
    exact h.hlv _
end Go.Proofs.Ytplpklikapkloaa
