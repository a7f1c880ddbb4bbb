/- Contracts and lemmas (Cw, Cx, Oc, Cy, Cz), joined out of smaller texts by a program; no conditions. -/
import Derived.Test.YtnbokgmimbeihaaGreatDoorKB5
import Derived.Test.YtnbokgmimbeihaaGreatDoorKB3
/-! Cw -/
namespace Go.Proofs.YtnbokgmimbeihaaGreatDoor
open Go.Abs Go.Arch
set_option linter.unusedVariables false
set_option maxRecDepth 100000
set_option linter.unusedSimpArgs false

theorem count_range (q0 : Nat) : ∀ k, (List.range k).countP (fun q => q == q0) = if q0 < k then 1 else 0
  | 0 => by simp
  | k + 1 => by
    rw [List.range_succ, List.countP_append, count_range q0 k]
    by_cases h : k = q0
    · subst h; simp
    · have h2 : (k == q0) = false := by simpa using h
      simp only [List.countP_cons, List.countP_nil, h2]
      by_cases h3 : q0 < k
      · simp [h3, show q0 < k + 1 by omega]
      · simp [h3, show ¬ q0 < k + 1 by omega]
theorem count_add (p : Nat → Bool) (q0 : Nat) (hp : p q0 = false) : ∀ k, (List.range k).countP (fun q => p q || q == q0) = (List.range k).countP p + if q0 < k then 1 else 0
  | 0 => by simp
  | k + 1 => by
    rw [List.range_succ, List.countP_append, List.countP_append, count_add p q0 hp k]
    simp only [List.countP_cons, List.countP_nil]
    by_cases h : k = q0
    · subst h; simp [hp]
    · have h2 : (k == q0) = false := by simpa using h
      simp only [h2, Bool.or_false]
      by_cases h3 : q0 < k
      · simp [h3, show q0 < k + 1 by omega]; omega
      · simp [h3, show ¬ q0 < k + 1 by omega]

theorem count_listed {f : Nat → Lis} : ∀ {n : Nat}, AscL n f → (∀ i, i < n → 1 ≤ (f i).Number ∧ (f i).Number ≤ 9999) → (List.range 9999).countP (fun q : Nat => (findL n f ((q : Int) + 1)).2) = n
  | 0, _, _ => by simp [findL_zero]
  | n + 1, h, hr => by
    have hn := hr n (by omega)
    have ih := count_listed (n := n) (fun i h1 h2 => h i h1 (by omega)) (fun i hi => hr i (by omega))
    have he : (fun q : Nat => (findL (n + 1) f ((q : Int) + 1)).2) = fun q : Nat => (findL n f ((q : Int) + 1)).2 || q == (f n).Number.toNat - 1 := by
      funext q
      rw [findL_succ]
      by_cases h1 : (findL n f ((q : Int) + 1)).2 = true
      · rw [if_pos h1, h1]; rfl
      · rw [if_neg h1]
        have h2 : (findL n f ((q : Int) + 1)).2 = false := by simpa using h1
        rw [h2, Bool.false_or]
        by_cases h3 : (f n).Number = (q : Int) + 1
        · rw [if_pos h3]; simp; omega
        · rw [if_neg h3]; simp; omega
    rw [he, count_add _ _ (by
      rw [show (((f n).Number.toNat - 1 : Nat) : Int) + 1 = (f n).Number by omega]
      exact findL_at h (by omega)), ih, if_pos (by omega)]
theorem count_got {r : Nat → Rec} : ∀ {n : Nat}, OrdR n r → (List.range 9999).countP (fun q : Nat => (gotR n r ((q : Int) + 1)).2) = n
  | 0, _ => by simp [gotR_zero]
  | n + 1, h => by
    have hn := (recE_zero (r n)).1 (h n (by omega)).1
    have ih := count_got (n := n) (r := r) (fun i hi => h i (by omega))
    have he : (fun q : Nat => (gotR (n + 1) r ((q : Int) + 1)).2) = fun q : Nat => (gotR n r ((q : Int) + 1)).2 || q == (r n).Number.toNat - 1 := by
      funext q
      rw [gotR_succ]
      by_cases h1 : (gotR n r ((q : Int) + 1)).2 = true
      · rw [if_pos h1, h1]; rfl
      · rw [if_neg h1]
        have h2 : (gotR n r ((q : Int) + 1)).2 = false := by simpa using h1
        rw [h2, Bool.false_or]
        by_cases h3 : (r n).Number = (q : Int) + 1
        · rw [if_pos h3]; simp; omega
        · rw [if_neg h3]; simp; omega
    rw [he, count_add _ _ (by
      rw [show (((r n).Number.toNat - 1 : Nat) : Int) + 1 = (r n).Number by omega]
      exact gotR_at h (by omega)), ih, if_pos (by omega)]

theorem count_one (n : Nat) (f : Nat → Lis) (m : Nat) (g : Nat → Rec) (u : Int) : (difU n f m g u).countP (·.Kind == 1) = (if ((findL n f u).2 && !(gotR m g u).2) = true then 1 else 0) ∧ (difU n f m g u).countP (·.Kind == 2) = (if (!(findL n f u).2 && (gotR m g u).2) = true then 1 else 0) := by
  unfold difU
  cases hg : (gotR m g u).2 <;> cases hf : (findL n f u).2
  · simp
  · simp
  · simp
  · have e1 : ∀ (b : Prop) [Decidable b] (x : Dif) (c : Int), x.Kind ≠ c → (if b then [x] else []).countP (·.Kind == c) = 0 := fun b _ x c hx => by
      by_cases hb : b <;> simp [hb, hx]
    simp only [Bool.true_eq_false, if_false, List.countP_append]
    rw [e1 _ _ 1 (by simp), e1 _ _ 1 (by simp), e1 _ _ 2 (by simp), e1 _ _ 2 (by simp)]
    simp
theorem count_dif (n : Nat) (f : Nat → Lis) (m : Nat) (g : Nat → Rec) : ∀ k,
    (gather (fun q => difU n f m g ((q : Int) + 1)) k).countP (·.Kind == 1) + (List.range k).countP (fun q : Nat => (findL n f ((q : Int) + 1)).2 && (gotR m g ((q : Int) + 1)).2) = (List.range k).countP (fun q : Nat => (findL n f ((q : Int) + 1)).2) ∧
    (gather (fun q => difU n f m g ((q : Int) + 1)) k).countP (·.Kind == 2) + (List.range k).countP (fun q : Nat => (findL n f ((q : Int) + 1)).2 && (gotR m g ((q : Int) + 1)).2) = (List.range k).countP (fun q : Nat => (gotR m g ((q : Int) + 1)).2)
  | 0 => by simp [gather]
  | k + 1 => by
    obtain ⟨h1, h2⟩ := count_dif n f m g k
    obtain ⟨h3, h4⟩ := count_one n f m g ((k : Int) + 1)
    rw [gather, List.range_succ]
    simp only [List.countP_append, List.countP_cons, List.countP_nil, h3, h4]
    cases hg : (gotR m g ((k : Int) + 1)).2 <;> cases hf : (findL n f ((k : Int) + 1)).2 <;> simp <;> omega
def cntK (k : Int) (L : List Dif) : Nat := L.countP (·.Kind == k)
/-- missing ones and extra ones, counted -/
theorem counts {t : TL} {m : Nat} {g : Nat → Rec} (ht : (tlChk t).2 = 0) (hg : OrdR m g) : (t.n : Int) - cntK 1 (allD t.n t.g m g) = m - cntK 2 (allD t.n t.g m g) := by
  obtain ⟨h1, h2⟩ := count_dif t.n t.g m g 9999
  rw [count_listed (tl_asc ht) (tl_num ht)] at h1
  rw [count_got hg] at h2
  unfold cntK allD
  omega
theorem cntK_succ (k : Int) (L : List Dif) {i : Nat} : cntK k (lst (i + 1) (nth L)) = cntK k (lst i (nth L)) + if (nth L i).Kind = k then 1 else 0 := by
  unfold cntK; rw [lst_succ, List.countP_append]; simp
theorem cntK_le (k : Int) (i : Nat) (L : List Dif) : cntK k (lst i (nth L)) ≤ i := by
  have : cntK k (lst i (nth L)) ≤ (lst i (nth L)).length := List.countP_le_length
  rwa [lst_length] at this
end Go.Proofs.YtnbokgmimbeihaaGreatDoor

/-! Cx -/
namespace Go.Proofs.YtnbokgmimbeihaaGreatDoor
open Go.Abs Go.Arch
set_option linter.unusedVariables false
set_option linter.unusedSimpArgs false
set_option maxRecDepth 100000
set_option maxHeartbeats 1000000

theorem cmpP_err {t : TL} {m : Nat} {g : Nat → Rec} (h : ¬ (cmpP t m g).2 = 0) : cmpP t m g = ([], 1) := by
  unfold cmpP at *
  by_cases hc : (tlChk t).2 = 0 ∧ ordR m g = true
  · rw [if_pos hc] at h; exact absurd rfl h
  · rw [if_neg hc]
theorem cmpP_ok {t : TL} {m : Nat} {g : Nat → Rec} (h : (cmpP t m g).2 = 0) : cmpP t m g = (allD t.n t.g m g, 0) ∧ (tlChk t).2 = 0 ∧ OrdR m g := by
  unfold cmpP at *
  by_cases hc : (tlChk t).2 = 0 ∧ ordR m g = true
  · rw [if_pos hc]; exact ⟨rfl, hc.1, ((ordR_iff m g).1 hc.2).2⟩
  · rw [if_neg hc] at h; cases h


theorem law17_AccessionCounts_cs (σ : List Blk) (t : TL) (a : Acs) (hn : t.n ≤ 9223372036854775807) (h1 : a.nr ≤ 9223372036854775807) (h2 : a.na ≤ 9223372036854775807) (hσ : σ[0]? = some (.loc 0)) (hσ1 : σ[1]? = some (.tab 1 powV)) : CSF Tryz.prog 8 [.agg (t.enc.map .d), .agg (a.enc.map .d)] σ (.d (B true)) := by
  have hl := allD_len t.n t.g a.nr a.r
  refine CSF.of_body T.en8 Tryz.func8 rfl (by simp [Tryz.ntmps8]) (by simp [go_sem]) fun hwf => ?_
  refine awp_reg_seq fun K hK => ?_
  simp [go_sem, Tryz.ntmps8]
  repeat refine ⟨by omega, ?_⟩
  refine hK _ ?_; clear hK K
  refine awp_seq ?_
  refine awp_reg_seq fun K hK => ?_
  simp [go_sem]
  repeat refine ⟨by omega, ?_⟩
  refine CSk.mk (law17_awake_cs _ (loc_app hσ) (loc_app hσ1)) ?_
  simp [go_sem]
  repeat refine ⟨by omega, ?_⟩
  refine CSm.mk (law17_few_cs _ t a hn h1 h2) ?_
  simp [go_sem]
  repeat refine ⟨by omega, ?_⟩
  refine hK _ ?_; clear hK K
  refine awp_forget [2, 3, 18] (by simp only [restr, List.contains_cons, List.contains_nil, Nat.reduceBEq, Bool.or_false, Bool.or_true, Bool.true_or, Bool.false_or, if_true, if_false, Bool.false_eq_true]; rfl) ?_
  refine awp_cond rfl (fun c0 => ?_) (fun c0 => ?_)
  · have d0 := c0; try simp at d0
    refine awp_reg_seq fun K hK => ?_
    simp [go_sem, c0, d0]
    repeat refine ⟨by omega, ?_⟩
    refine CSk.mk (law17_awake_cs _ (loc_app hσ) (loc_app hσ1)) ?_
    simp [go_sem, c0, d0]
    repeat refine ⟨by omega, ?_⟩
    refine hK _ ?_; clear hK K
    refine awp_ret ?_
    simp [go_sem, Tryz.results8, c0, d0] <;> omega
  · have d0 := c0; try simp at d0
    obtain ⟨hn9, hN⟩ := few_t d0.1
    obtain ⟨hr9, ha9⟩ := few_a d0.2
    refine awp_skip ?_
    refine awp_draw_seq 9 T.mixed (by kernel_rfl) fun K hK => ?_
    simp [go_sem, c0, d0]
    repeat refine ⟨by omega, ?_⟩
    refine CSg.mk (cloneRec_cs _ none a.nr a.r (by omega)) ?_
    simp [go_sem, c0, d0]
    repeat refine ⟨by omega, ?_⟩
    refine CSg.mk (accession_Compare_cs _ t none a.nr a.r (by omega) hN (by omega) (loc_app hσ)) ?_
    simp [go_sem, c0, d0]
    repeat refine ⟨by omega, ?_⟩
    refine hK _ ?_; clear hK K
    refine awp_seq ?_
    refine awp_reg_seq fun K hK => ?_
    simp [go_sem, c0, d0]
    repeat refine ⟨by omega, ?_⟩
    refine hK _ ?_; clear hK K
    refine awp_forget [2, 3, 5, 29] (by simp only [restr, List.contains_cons, List.contains_nil, Nat.reduceBEq, Bool.or_false, Bool.or_true, Bool.true_or, Bool.false_or, if_true, if_false, Bool.false_eq_true]; rfl) ?_
    refine awp_cond rfl (fun c1 => ?_) (fun c1 => ?_)
    · have d1 := c1; try simp at d1
      have hz := cmpP_err d1
      refine awp_reg_seq fun K hK => ?_
      simp [go_sem, c0, d0, c1, d1, hz]
      repeat refine ⟨by omega, ?_⟩
      refine hK _ ?_; clear hK K
      refine awp_ret ?_
      simp [go_sem, Tryz.results8, c0, d0, c1, d1, hz] <;> omega
    · have d1 := c1; try simp at d1
      obtain ⟨hz, ht, hg⟩ := cmpP_ok d1
      have hcn := counts ht hg
      have hsc : ∀ {i j : Nat}, i < j → j < (allD t.n t.g a.nr a.r).length → lessD (nth (allD t.n t.g a.nr a.r) i) (nth (allD t.n t.g a.nr a.r) j) = true := fun h1 h2 => asc_nth (allD_asc _ _ _ _) h1 h2
      have hln : lst (allD t.n t.g a.nr a.r).length (nth (allD t.n t.g a.nr a.r)) = allD t.n t.g a.nr a.r := lst_nth _
      generalize allD t.n t.g a.nr a.r = L at *
      refine awp_skip ?_
      refine awp_reg_seq fun K hK => ?_
      simp [go_sem, c0, d0, c1, d1, hz]
      repeat refine ⟨by omega, ?_⟩
      refine hK _ ?_; clear hK K
      refine awp_seq ?_
      refine awp_reg_seq fun K hK => ?_
      simp [go_sem, c0, d0, c1, d1, hz]
      repeat refine ⟨by omega, ?_⟩
      refine hK _ ?_; clear hK K
      refine awp_block ?_
      refine awp_forget [2, 3, 5, 7, 8, 33, 34, 35] (by simp [go_sem, restr]; rfl) ?_
      refine awp_loopU (α := Nat) (fun i => [(7, .d (I (cntK 1 (lst i (nth L)) : Nat))), (8, .d (I (cntK 2 (lst i (nth L)) : Nat))), (35, .d (I i))]) (fun i => _) (fun i => i ≤ L.length) (fun i => L.length - i) 0 (by simp [go_sem, cntK, lst]) (rfl) (by simp) ?_
      rintro i hi
      refine awp_reg_seq fun K hK => ?_
      simp [go_sem, c0, d0, c1, d1, hz]
      repeat refine ⟨by omega, ?_⟩
      refine hK _ ?_; clear hK K
      refine awp_seq ?_
      refine awp_forget [2, 3, 5, 7, 8, 33, 34, 35, 36] (by simp only [restr, List.contains_cons, List.contains_nil, Nat.reduceBEq, Bool.or_false, Bool.or_true, Bool.true_or, Bool.false_or, if_true, if_false, Bool.false_eq_true]; rfl) ?_
      refine awp_cond rfl (fun c2 => ?_) (fun c2 => ?_)
      · have d2 := c2; try simp at d2
        have hk1 := cntK_le 1 i L
        have hk2 := cntK_le 2 i L
        have hi1 : ((i : Int) - 1).toNat = i - 1 := by omega
        refine awp_skip ?_
        refine awp_seq ?_
        refine awp_block ?_
        refine awp_reg_seq fun K hK => ?_
        simp [go_sem, c0, d0, c1, d1, hz, c2, d2, hi1]
        repeat refine ⟨by omega, ?_⟩
        refine hK _ ?_; clear hK K
        refine awp_seq ?_
        refine awp_draw_seq 35 T.mixed (by kernel_rfl) fun K hK => ?_
        simp [go_sem, c0, d0, c1, d1, hz, c2, d2, hi1]
        try simp (disch := omega) only [wrapI]
        repeat refine ⟨by omega, ?_⟩
        refine hK _ ?_; clear hK K
        refine awp_forget [2, 3, 5, 7, 8, 10, 33, 34, 35, 74] (by simp only [restr, List.contains_cons, List.contains_nil, Nat.reduceBEq, Bool.or_false, Bool.or_true, Bool.true_or, Bool.false_or, if_true, if_false, Bool.false_eq_true]; rfl) ?_
        refine awp_cond rfl (fun c3 => ?_) (fun c3 => ?_)
        · have d3 := c3; try simp at d3
          have has := hsc (show i - 1 < i by omega) d2
          rw [lessD_iff] at has
          omega
        · have d3 := c3; try simp at d3
          refine awp_skip ?_
          refine awp_reg_seq fun K hK => ?_
          simp [go_sem, c0, d0, c1, d1, hz, c2, d2, hi1, c3, d3]
          repeat refine ⟨by omega, ?_⟩
          refine hK _ ?_; clear hK K
          refine awp_block ?_
          refine awp_reg_seq fun K hK => ?_
          simp [go_sem, c0, d0, c1, d1, hz, c2, d2, hi1, c3, d3]
          repeat refine ⟨by omega, ?_⟩
          refine hK _ ?_; clear hK K
          refine awp_forget [2, 3, 5, 7, 8, 33, 34, 35, 76, 77] (by simp only [restr, List.contains_cons, List.contains_nil, Nat.reduceBEq, Bool.or_false, Bool.or_true, Bool.true_or, Bool.false_or, if_true, if_false, Bool.false_eq_true]; rfl) ?_
          refine awp_cond rfl (fun c4 => ?_) (fun c4 => ?_)
          · have d4 := c4; try simp at d4
            have e1 : cntK 1 (lst (i + 1) (nth L)) = cntK 1 (lst i (nth L)) + 1 := by rw [cntK_succ, if_pos d4]
            have e2 : cntK 2 (lst (i + 1) (nth L)) = cntK 2 (lst i (nth L)) := by rw [cntK_succ, if_neg (by omega), Nat.add_zero]
            refine awp_reg_end fun K hK => ?_
            simp [go_sem, c0, d0, c1, d1, hz, c2, d2, hi1, c3, d3, c4, d4, e1, e2]
            try simp (disch := omega) only [wrapI]
            repeat refine ⟨by omega, ?_⟩
            refine hK _ ?_; clear hK K
            refine awp_reg_end fun K hK => ?_
            simp [go_sem, c0, d0, c1, d1, hz, c2, d2, hi1, c3, d3, c4, d4, e1, e2]
            try simp (disch := omega) only [wrapI]
            repeat refine ⟨by omega, ?_⟩
            refine hK _ ?_; clear hK K
            refine ⟨i + 1, back_of' (by simp) (.refl _) (by (simp [go_sem, wrap_succ (i := i) (by omega), c0, d0, c1, d1, hz, c2, d2, hi1, c3, d3, c4, d4, e1, e2] <;> omega)), by omega, by first | omega | (dsimp only; omega)⟩
          · have d4 := c4; try simp at d4
            refine awp_reg_seq fun K hK => ?_
            simp [go_sem, c0, d0, c1, d1, hz, c2, d2, hi1, c3, d3, c4, d4]
            repeat refine ⟨by omega, ?_⟩
            refine hK _ ?_; clear hK K
            refine awp_forget [2, 3, 5, 7, 8, 33, 34, 35, 81] (by simp only [restr, List.contains_cons, List.contains_nil, Nat.reduceBEq, Bool.or_false, Bool.or_true, Bool.true_or, Bool.false_or, if_true, if_false, Bool.false_eq_true]; rfl) ?_
            refine awp_cond rfl (fun c5 => ?_) (fun c5 => ?_)
            · have d5 := c5; try simp at d5
              have e1 : cntK 1 (lst (i + 1) (nth L)) = cntK 1 (lst i (nth L)) := by rw [cntK_succ, if_neg d4, Nat.add_zero]
              have e2 : cntK 2 (lst (i + 1) (nth L)) = cntK 2 (lst i (nth L)) + 1 := by rw [cntK_succ, if_pos d5]
              refine awp_reg_end fun K hK => ?_
              simp [go_sem, c0, d0, c1, d1, hz, c2, d2, hi1, c3, d3, c4, d4, c5, d5, e1, e2]
              try simp (disch := omega) only [wrapI]
              repeat refine ⟨by omega, ?_⟩
              refine hK _ ?_; clear hK K
              refine awp_reg_end fun K hK => ?_
              simp [go_sem, c0, d0, c1, d1, hz, c2, d2, hi1, c3, d3, c4, d4, c5, d5, e1, e2]
              try simp (disch := omega) only [wrapI]
              repeat refine ⟨by omega, ?_⟩
              refine hK _ ?_; clear hK K
              refine ⟨i + 1, back_of' (by simp) (.refl _) (by (simp [go_sem, wrap_succ (i := i) (by omega), c0, d0, c1, d1, hz, c2, d2, hi1, c3, d3, c4, d4, c5, d5, e1, e2] <;> omega)), by omega, by first | omega | (dsimp only; omega)⟩
            · have d5 := c5; try simp at d5
              have e1 : cntK 1 (lst (i + 1) (nth L)) = cntK 1 (lst i (nth L)) := by rw [cntK_succ, if_neg d4, Nat.add_zero]
              have e2 : cntK 2 (lst (i + 1) (nth L)) = cntK 2 (lst i (nth L)) := by rw [cntK_succ, if_neg d5, Nat.add_zero]
              refine awp_skip ?_
              refine awp_reg_end fun K hK => ?_
              simp [go_sem, c0, d0, c1, d1, hz, c2, d2, hi1, c3, d3, c4, d4, c5, d5, e1, e2]
              try simp (disch := omega) only [wrapI]
              repeat refine ⟨by omega, ?_⟩
              refine hK _ ?_; clear hK K
              refine ⟨i + 1, back_of' (by simp) (.refl _) (by (simp [go_sem, wrap_succ (i := i) (by omega), c0, d0, c1, d1, hz, c2, d2, hi1, c3, d3, c4, d4, c5, d5, e1, e2] <;> omega)), by omega, by first | omega | (dsimp only; omega)⟩
      · have d2 := c2; try simp at d2
        obtain rfl : i = L.length := by omega
        have hk1 := cntK_le 1 L.length L
        have hk2 := cntK_le 2 L.length L
        rw [hln] at hk1 hk2
        refine awp_exit ?_
        refine awp_reg_seq fun K hK => ?_
        simp [go_sem, c0, d0, c1, d1, hz, c2, d2, hln]
        try simp (disch := omega) only [wrapI]
        repeat refine ⟨by omega, ?_⟩
        refine hK _ ?_; clear hK K
        refine awp_ret ?_
        simp [go_sem, Tryz.results8, c0, d0, c1, d1, hz, c2, d2, hln] <;> omega

end Go.Proofs.YtnbokgmimbeihaaGreatDoor

/-! Oc -/
namespace Go.Abs
set_option linter.unusedVariables false
set_option linter.unusedSimpArgs false

/-- a nil slice in a cell of a variable becomes one that may grow -/
theorem awp_thawC {P : Program} {c : Code} {Q : Exit → St → Prop} {N : Nat} {t : List (Nat × AV)} {σ σ' : List Blk} {mv : List Nat} (v k sz : Nat) (row : Nat → List D) {cs cs' : List AV} (hv : σ[v]? = some (.var cs)) (hk : cs[k]? = some (.d (.v (.slice none 0 0)))) (hc : cs.set k (.ms σ.length sz 0 0) = cs') (hσ : σ.set v (.var cs') ++ [.arr sz 0 row] = σ')
    (h : AWP P c Q ⟨N, t, σ', mv⟩) : AWP P c Q ⟨N, t, σ, mv⟩ := by
  refine awp_sub (s' := ⟨N, t, σ', mv⟩) ?_ h
  intro j0 j a w hr
  subst hσ
  subst hc
  obtain ⟨h1, h2, h3⟩ := hr.sto.unmade (sz := sz) (rows := row) (p := none)
  have hvl : v < σ.length := (List.getElem?_eq_some_iff.1 hv).1
  have hkl : k < cs.length := (List.getElem?_eq_some_iff.1 hk).1
  refine ⟨j ++ [none], ⟨hr.defers.mono h3, hr.rdok, hr.size, fun q av hq => ⟨(hr.tmp q av hq).1, (hr.tmp q av hq).2.mono0 h3 hr.sto.lt (ag_append _ _)⟩, ⟨by simp [hr.sto.len], h1.lt, h1.inj, fun b x hx => ?_⟩, by have := hr.len0; simp; omega, fun c hc hn => ?_⟩, h3⟩
  · rw [← List.set_append_left _ _ hvl, List.getElem?_set] at hx
    split at hx
    · rename_i e
      subst e
      split at hx
      · simp only [Option.some.injEq] at hx
        subst hx
        obtain ⟨o, ho, hB⟩ := h1.blk v (.var cs) (by rw [List.getElem?_append_left hvl]; exact hv)
        refine ⟨o, ho, ?_⟩
        cases o with
        | none => exact hB
        | some cb =>
          obtain ⟨C, e, g1, g2, g3⟩ := hB
          refine ⟨C, e, g1, by simpa using g2, fun q hq => ?_⟩
          have hq' : q < cs.length := by simpa using hq
          have h0 := g3 q hq'
          by_cases hqk : q = k
          · subst hqk
            have e1 : cs.getD q .undef = .d (.v (.slice none 0 0)) := by rw [List.getD_eq_getElem?_getD, hk]; rfl
            rw [e1] at h0
            have h0 := R_v h0
            rw [h0]
            have e2 : (cs.set q (.ms σ.length sz 0 0)).getD q .undef = .ms σ.length sz 0 0 := by simp [List.getD_eq_getElem?_getD, hkl]
            rw [e2]; exact h2
          · have e2 : (cs.set k (.ms σ.length sz 0 0)).getD q .undef = cs.getD q .undef := by simp [List.getD_eq_getElem?_getD, List.getElem?_set, Ne.symm hqk]
            rw [e2]; exact h0
      · simp at hx
    · exact h1.blk b x hx
  · have := hr.len0
    rw [List.getElem?_append_left (by omega)]; exact hr.ag c hc hn

end Go.Abs

/-! Cy -/
namespace Go.Proofs.YtnbokgmimbeihaaGreatDoor
open Go.Abs Go.Arch
set_option linter.unusedVariables false
set_option maxRecDepth 100000
set_option linter.unusedSimpArgs false

def recOf (x : Lis) : Rec := ⟨x.Number, x.Pages, x.Digest⟩
def arc (t : TL) (id day : Int) : Acs := ⟨id, t.ID, day, t.n, fun i => recOf (t.g i), 0, fun _ => default⟩
theorem lis_rec {t : TL} (h : (tlChk t).2 = 0) {i : Nat} (hi : i < t.n) : recE (recOf (t.g i)) = 0 := by
  have h1 := (tlChk_ok h).2.2 i hi
  have h2 := (rangeB_iff _).1 (lisE_zero h1).1
  have h3 : (t.g i).Digest.size = 32 := by
    unfold lisE at h1
    split at h1
    · rename_i h0; exact absurd h1 h0
    · rename_i h0
      simp only [ne_eq, Decidable.not_not] at h0
      unfold lisE0 at h0
      split at h0
      · simp at h0
      · split at h0
        · simp at h0
        · split at h0
          · simp at h0
          · rename_i h4; simpa using h4
  have h5 := inB_iff.1 h2.1
  have h6 := inB_iff.1 h2.2.2.1
  exact (recE_zero _).2 ⟨h5.1, h5.2, h6.1, h6.2, h3⟩
theorem arc_ord {t : TL} (h : (tlChk t).2 = 0) : OrdR t.n (fun i => recOf (t.g i)) := fun i hi => ⟨lis_rec h hi, fun hp => tl_asc h i hp hi⟩
theorem arc_ordR {t : TL} (h : (tlChk t).2 = 0) : ordR t.n (fun i => recOf (t.g i)) = true := (ordR_iff _ _).2 ⟨(tlChk_ok h).1, arc_ord h⟩
theorem got_find (g : Nat → Lis) (u : Int) : ∀ n, gotR n (fun i => recOf (g i)) u = if (findL n g u).2 = true then (recOf (findL n g u).1, true) else (Rec.zero, false)
  | 0 => by rw [gotR_zero, findL_zero]; rfl
  | n + 1 => by
    rw [gotR_succ, findL_succ, got_find g u n]
    by_cases h : (findL n g u).2 = true
    · rw [if_pos h, if_pos h, if_pos rfl, if_pos h]
    · rw [if_neg h, if_neg h, if_neg (by simp)]
      by_cases h2 : (g n).Number = u
      · rw [if_pos h2, if_pos (show (recOf (g n)).Number = u from h2), if_pos rfl]
      · rw [if_neg h2, if_neg (show ¬ (recOf (g n)).Number = u from h2), if_neg (by simp)]
theorem arc_dif (n : Nat) (g : Nat → Lis) (u : Int) : difU n g n (fun i => recOf (g i)) u = [] := by
  unfold difU
  rw [got_find]
  by_cases h : (findL n g u).2 = true
  · rw [if_pos h]; simp [h, recOf]
  · rw [if_neg h]
    have h2 : (findL n g u).2 = false := by simpa using h
    simp [h2]
theorem arc_all (n : Nat) (g : Nat → Lis) : allD n g n (fun i => recOf (g i)) = [] := by
  apply List.eq_nil_iff_forall_not_mem.2
  intro d hd
  rw [mem_allD, arc_dif] at hd
  simp at hd
theorem arc_cmp {t : TL} (h : (tlChk t).2 = 0) : cmpP t t.n (fun i => recOf (t.g i)) = ([], 0) := by
  unfold cmpP; rw [if_pos ⟨h, arc_ordR h⟩, arc_all]
theorem arc_opn (t : TL) (id day : Int) : opnL t (arc t id day) = [] := by
  have h : allT t (arc t id day) = [] := arc_all t.n t.g
  unfold opnL; rw [h]; rfl
theorem arc_num {t : TL} {id day : Int} (h : chkA t (arc t id day) = 0) : numP t (arc t id day) = (lst t.n (fun i => (t.g i).Number), 0) := by
  unfold numP; rw [if_pos h]
  unfold numL; rw [arc_opn, if_pos (show ([] : List Dif).length = 0 from rfl)]; rfl
theorem arc_no {t : TL} {id day : Int} (h : ¬ chkA t (arc t id day) = 0) : numP t (arc t id day) = ([], chkA t (arc t id day)) := by
  unfold numP; rw [if_neg h]
theorem arc_chk {t : TL} {id day : Int} (ht : (tlChk t).2 = 0) (h : ¬ chkA t (arc t id day) = 0) : id < 1 ∨ 1073741824 < id ∨ day < t.Day ∨ 1048575 < day := by
  apply Classical.byContradiction
  intro hn
  apply h
  have hd : 0 ≤ t.Day := by
    have := (tlChk_ok ht).2.1
    unfold tlHead at this
    simp only [Bool.and_eq_true, inB_iff] at this
    omega
  refine chkA_zero.2 ⟨?_, rfl⟩
  unfold chkH
  rw [if_neg (by simp [ht]), if_neg (by
    have h1 : inB (arc t id day).ID 1 1073741824 = true := inB_iff.2 ⟨by show 1 ≤ id; omega, by show id ≤ 1073741824; omega⟩
    have h2 : inB (arc t id day).Day 0 1048575 = true := inB_iff.2 ⟨by show 0 ≤ day; omega, by show day ≤ 1048575; omega⟩
    simp [h1, h2]), if_neg (by simp [arc]), if_neg (by show ¬ day < t.Day; omega), if_neg (by
    have := arc_ordR ht
    show ¬ ordR t.n (fun i => recOf (t.g i)) = false
    simp [this]), if_neg (by simp [arc])]
end Go.Proofs.YtnbokgmimbeihaaGreatDoor

/-! Cz -/
namespace Go.Proofs.YtnbokgmimbeihaaGreatDoor
open Go.Abs Go.Arch
set_option linter.unusedVariables false
set_option linter.unusedSimpArgs false
set_option maxRecDepth 100000
set_option maxHeartbeats 1000000

theorem eqL_nth (n : Nat) (f : Nat → Int) : eqL (lst (lst n f).length (nth (lst n f))) (lst n f) = true := eqL_iff.2 (lst_nth _)


theorem law17_AccessionExact_cs (σ : List Blk) (t : TL) (id day : Int) (hn : t.n ≤ 9223372036854775807) (hσ : σ[0]? = some (.loc 0)) (hσ1 : σ[1]? = some (.tab 1 powV)) : CSF Tryz.prog 7 [.agg (t.enc.map .d), .d (I id), .d (I day)] σ (.d (B true)) := by
  refine CSF.of_body T.en7 Tryz.func7 rfl (by simp [Tryz.ntmps7]) (by simp [go_sem]) fun hwf => ?_
  refine awp_reg_seq fun K hK => ?_
  simp [go_sem, Tryz.ntmps7]
  repeat refine ⟨by omega, ?_⟩
  refine hK _ ?_; clear hK K
  refine awp_seq ?_
  refine awp_reg_seq fun K hK => ?_
  simp [go_sem]
  repeat refine ⟨by omega, ?_⟩
  refine CSk.mk (law17_awake_cs _ (loc_app hσ) (loc_app hσ1)) ?_
  simp [go_sem]
  repeat refine ⟨by omega, ?_⟩
  refine CSm.mk (ref16_Few_cs _ t hn) ?_
  simp [go_sem]
  repeat refine ⟨by omega, ?_⟩
  refine hK _ ?_; clear hK K
  refine awp_forget [1, 2, 3, 23] (by simp only [restr, List.contains_cons, List.contains_nil, Nat.reduceBEq, Bool.or_false, Bool.or_true, Bool.true_or, Bool.false_or, if_true, if_false, Bool.false_eq_true]; rfl) ?_
  refine awp_cond rfl (fun c0 => ?_) (fun c0 => ?_)
  · have d0 := c0; try simp at d0
    refine awp_reg_seq fun K hK => ?_
    simp [go_sem, c0, d0]
    repeat refine ⟨by omega, ?_⟩
    refine CSk.mk (law17_awake_cs _ (loc_app hσ) (loc_app hσ1)) ?_
    simp [go_sem, c0, d0]
    repeat refine ⟨by omega, ?_⟩
    refine hK _ ?_; clear hK K
    refine awp_ret ?_
    simp [go_sem, Tryz.results7, c0, d0] <;> omega
  · have d0 := c0; try simp at d0
    obtain ⟨hn9, hN⟩ := few_t d0
    refine awp_skip ?_
    refine awp_seq ?_
    refine awp_reg_seq fun K hK => ?_
    simp [go_sem, c0, d0]
    repeat refine ⟨by omega, ?_⟩
    refine CSk.mk (transfer_Check_cs _ t (by omega) hN (loc_app hσ)) ?_
    simp [go_sem, c0, d0]
    repeat refine ⟨by omega, ?_⟩
    refine hK _ ?_; clear hK K
    refine awp_reg_seq fun K hK => ?_
    simp [go_sem, c0, d0]
    repeat refine ⟨by omega, ?_⟩
    refine hK _ ?_; clear hK K
    refine awp_forget [1, 2, 3, 31] (by simp only [restr, List.contains_cons, List.contains_nil, Nat.reduceBEq, Bool.or_false, Bool.or_true, Bool.true_or, Bool.false_or, if_true, if_false, Bool.false_eq_true]; rfl) ?_
    refine awp_cond rfl (fun c1 => ?_) (fun c1 => ?_)
    · have d1 := c1; try simp at d1
      refine awp_reg_seq fun K hK => ?_
      simp [go_sem, c0, d0, c1, d1]
      repeat refine ⟨by omega, ?_⟩
      refine hK _ ?_; clear hK K
      refine awp_ret ?_
      simp [go_sem, Tryz.results7, c0, d0, c1, d1] <;> omega
    · have d1 := c1; try simp at d1
      have ht := d1
      have hcm := arc_cmp ht
      refine awp_skip ?_
      refine awp_reg_seq fun K hK => ?_
      simp [go_sem, c0, d0, c1, d1, hcm]
      repeat refine ⟨by omega, ?_⟩
      refine hK _ ?_; clear hK K
      refine awp_thawC (σ.length + 1) 3 3 (fun q => Rec.enc (recOf (t.g q))) (by simp [go_sem]; rfl) (by rfl) (by simp [go_sem]; rfl) (by simp [go_sem]; rfl) ?_
      refine awp_reg_seq fun K hK => ?_
      simp [go_sem, c0, d0, c1, d1, hcm]
      repeat refine ⟨by omega, ?_⟩
      refine hK _ ?_; clear hK K
      refine awp_seq ?_
      refine awp_thawT 10 1 (fun q => encI (t.g q).Number) (by simp [go_sem]) (by simp [go_sem]; rfl) ?_
      refine awp_reg_seq fun K hK => ?_
      simp [go_sem, c0, d0, c1, d1, hcm]
      repeat refine ⟨by omega, ?_⟩
      refine hK _ ?_; clear hK K
      refine awp_block ?_
      refine awp_forget [1, 2, 3, 9, 10, 38, 39, 40] (by simp [go_sem, restr]; rfl) ?_
      refine awp_mv [σ.length + 2, σ.length + 3] (by simp) ?_
      refine awp_loopU (α := Nat) (fun i => [(10, .ms (σ.length + 3) 1 0 i), (40, .d (I i))]) (fun i => σ ++ [.var (t.enc.map .d), .var [.d (I id), .d (I t.ID), .d (I day), .ms (σ.length + 2) 3 0 i, .d (.v (.slice none 0 0))], .arr 3 i (fun q => Rec.enc (recOf (t.g q))), .arr 1 i (fun q => encI (t.g q).Number)]) (fun i => i ≤ t.n) (fun i => t.n - i) 0 (by simp [go_sem]) (rfl) (by simp) ?_
      rintro i hi
      refine awp_reg_seq fun K hK => ?_
      simp [go_sem, c0, d0, c1, d1, hcm]
      repeat refine ⟨by omega, ?_⟩
      refine hK _ ?_; clear hK K
      refine awp_seq ?_
      refine awp_forget [1, 2, 3, 9, 10, 38, 39, 40, 41] (by simp only [restr, List.contains_cons, List.contains_nil, Nat.reduceBEq, Bool.or_false, Bool.or_true, Bool.true_or, Bool.false_or, if_true, if_false, Bool.false_eq_true]; rfl) ?_
      refine awp_cond rfl (fun c2 => ?_) (fun c2 => ?_)
      · have d2 := c2; try simp at d2
        refine awp_skip ?_
        refine awp_seq ?_
        refine awp_block ?_
        refine awp_reg_seq fun K hK => ?_
        simp [go_sem, c0, d0, c1, d1, hcm, c2, d2]
        repeat refine ⟨by omega, ?_⟩
        refine hK _ ?_; clear hK K
        refine awp_reg_seq fun K hK => ?_
        simp [go_sem, c0, d0, c1, d1, hcm, c2, d2, hwf.one, hwf.zero]
        repeat refine ⟨by omega, ?_⟩
        refine hK _ ?_; clear hK K
        refine awp_reg_end fun K hK => ?_
        simp [go_sem, c0, d0, c1, d1, hcm, c2, d2, hwf.one, hwf.zero]
        repeat refine ⟨by omega, ?_⟩
        refine hK _ ?_; clear hK K
        refine awp_rows (σ.length + 2) (fun q => Rec.enc (recOf (t.g q))) (by simp [go_sem]; first | exact ⟨rfl, rfl, rfl⟩ | exact ⟨rfl, rfl⟩ | rfl) (by intro q hq; unfold catRows; split; rfl; rw [show q = i by omega]; simp [rowsOf, recOf, Rec.enc]) (by simp [go_sem]; rfl) ?_
        refine awp_rows (σ.length + 3) (fun q => encI (t.g q).Number) (by simp [go_sem]; first | exact ⟨rfl, rfl, rfl⟩ | exact ⟨rfl, rfl⟩ | rfl) (by intro q hq; unfold catRows; split; rfl; rw [show q = i by omega]; simp [rowsOf, encI]) (by simp [go_sem]; rfl) ?_
        refine awp_reg_end fun K hK => ?_
        simp [go_sem, c0, d0, c1, d1, hcm, c2, d2]
        try simp (disch := omega) only [wrapI]
        repeat refine ⟨by omega, ?_⟩
        refine hK _ ?_; clear hK K
        refine ⟨i + 1, back_of' (by simp [go_sem, wrap_succ (i := i) (by omega), c0, d0, c1, d1, hcm, c2, d2]) ((leaves_app (by simp [go_sem]))) (by (simp [go_sem, wrap_succ (i := i) (by omega), c0, d0, c1, d1, hcm, c2, d2] <;> omega)), by omega, by first | omega | (dsimp only; omega)⟩
      · have d2 := c2; try simp at d2
        obtain rfl : i = t.n := by omega
        refine awp_exit ?_
        refine awp_freeze (σ.length + 2) (by simp [go_sem]; first | exact ⟨rfl, rfl, rfl⟩ | exact ⟨rfl, rfl⟩ | rfl) (by simp [go_sem]; rfl) (by simp [go_sem, hwf.frz, hwf.frz0]; rfl) ?_
        refine awp_freeze (σ.length + 3) (by simp [go_sem]; first | exact ⟨rfl, rfl, rfl⟩ | exact ⟨rfl, rfl⟩ | rfl) (by simp [go_sem]; rfl) (by simp [go_sem, hwf.frz, hwf.frz0]; rfl) ?_
        refine awp_toldV (σ.length + 1) ((arc t id day).enc.map .d) (by simp [go_sem]; rfl) (by simp [go_sem, sameL0, Go.Abs.sameA]; exact ⟨rfl, rfl, rfl, ⟨rfl, fun _ _ => ⟨rfl, rfl, rfl⟩⟩, rfl⟩) (by simp [go_sem]; rfl) ?_
        refine awp_reg_seq fun K hK => ?_
        simp [go_sem, c0, d0, c1, d1, hcm, c2, d2]
        repeat refine ⟨by omega, ?_⟩
        refine CSk.mk (accession_Compare_cs _ t none t.n (fun i => recOf (t.g i)) (by omega) hN (by omega) (loc_app hσ)) ?_
        simp [go_sem, c0, d0, c1, d1, hcm, c2, d2]
        repeat refine ⟨by omega, ?_⟩
        refine hK _ ?_; clear hK K
        refine awp_reg_seq fun K hK => ?_
        simp [go_sem, c0, d0, c1, d1, hcm, c2, d2]
        repeat refine ⟨by omega, ?_⟩
        refine CSk.mk (accession_Numbers_cs _ t (arc t id day) (by omega) hN (loc_app hσ) (by show t.n < _; omega) (by show 0 < _; omega)) ?_
        simp [go_sem, c0, d0, c1, d1, hcm, c2, d2]
        repeat refine ⟨by omega, ?_⟩
        refine hK _ ?_; clear hK K
        refine awp_seq ?_
        refine awp_reg_seq fun K hK => ?_
        simp [go_sem, c0, d0, c1, d1, hcm, c2, d2]
        repeat refine ⟨by omega, ?_⟩
        refine hK _ ?_; clear hK K
        refine awp_forget [1, 2, 3, 10, 15, 16, 81] (by simp only [restr, List.contains_cons, List.contains_nil, Nat.reduceBEq, Bool.or_false, Bool.or_true, Bool.true_or, Bool.false_or, if_true, if_false, Bool.false_eq_true]; rfl) ?_
        refine awp_cond rfl (fun c3 => ?_) (fun c3 => ?_)
        · have d3 := c3; try simp at d3
        · have d3 := c3; try simp at d3
          refine awp_skip ?_
          refine awp_seq ?_
          refine awp_reg_seq fun K hK => ?_
          simp [go_sem, c0, d0, c1, d1, hcm, c2, d2, c3, d3]
          repeat refine ⟨by omega, ?_⟩
          refine hK _ ?_; clear hK K
          refine awp_forget [1, 2, 3, 10, 15, 83] (by simp only [restr, List.contains_cons, List.contains_nil, Nat.reduceBEq, Bool.or_false, Bool.or_true, Bool.true_or, Bool.false_or, if_true, if_false, Bool.false_eq_true]; rfl) ?_
          refine awp_cond rfl (fun c4 => ?_) (fun c4 => ?_)
          · have d4 := c4; try simp at d4
            have hch : ¬ chkA t (arc t id day) = 0 := fun h => d4 (by rw [arc_num h])
            have hz := arc_no hch
            have hw := arc_chk ht hch
            have hb : (decide (id < 1) || decide (1073741824 < id) || decide (day < t.Day) || decide (1048575 < day)) = true := by simp only [Bool.or_eq_true, decide_eq_true_eq]; omega
            refine awp_reg_seq fun K hK => ?_
            simp [go_sem, c0, d0, c1, d1, hcm, c2, d2, c3, d3, c4, d4, hz, hb]
            repeat refine ⟨by omega, ?_⟩
            refine hK _ ?_; clear hK K
            refine awp_ret ?_
            simp [go_sem, Tryz.results7]
          · have d4 := c4; try simp at d4
            have hch : chkA t (arc t id day) = 0 := by
              apply Classical.byContradiction
              intro h; rw [arc_no h] at d4; exact h d4
            have hz := arc_num hch
            refine awp_skip ?_
            refine awp_reg_seq fun K hK => ?_
            simp [go_sem, c0, d0, c1, d1, hcm, c2, d2, c3, d3, c4, d4, hz]
            repeat refine ⟨by omega, ?_⟩
            refine CSk.mk (equalInt_cs _ none none _ _ _ (fun i => (t.g i).Number) (by rw [lst_length]; omega) (by omega)) ?_
            simp [go_sem, c0, d0, c1, d1, hcm, c2, d2, c3, d3, c4, d4, hz]
            repeat refine ⟨by omega, ?_⟩
            refine hK _ ?_; clear hK K
            refine awp_ret ?_
            simp [go_sem, Tryz.results7]; exact eqL_nth _ _

end Go.Proofs.YtnbokgmimbeihaaGreatDoor
