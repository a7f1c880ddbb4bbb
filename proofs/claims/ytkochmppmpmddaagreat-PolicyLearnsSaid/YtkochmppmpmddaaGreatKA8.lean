/- Contracts and lemmas (Dq, Et), joined out of smaller texts by a program; no conditions. -/
import Derived.Test.YtkochmppmpmddaaGreatKA7
/-! Dq -/
namespace Go.Proofs.YtkochmppmpmddaaGreat
open Go.Abs Go.Arch
set_option linter.unusedVariables false
set_option linter.unusedSimpArgs false
set_option maxRecDepth 100000
set_option maxHeartbeats 1000000

theorem op_err {n : Nat} {g : Nat → Row} {p : Pol} {u d : Int} (h : (opR n g p u d).2 ≠ 0) (h' : (opR n g p u d).2 ≠ 23) : (opR n g p u d).1 = 0 := by
  unfold opR at h h' ⊢
  split
  · rfl
  · rename_i hn
    rw [if_neg hn] at h h'
    rcases open_cases (fun d => wayG n g p u d) d with ⟨e, h1, _⟩ | ⟨h1, _⟩
    · rw [h1] at h; exact absurd rfl h
    · rw [h1] at h'; exact absurd rfl h'
theorem op_ok {n : Nat} {g : Nat → Row} {p : Pol} {u d : Int} (h : (opR n g p u d).2 = 0) : askR n g p 1 u d = 0 ∧ ∃ e, opR n g p u d = (e, 0) ∧ d ≤ e ∧ e ≤ 1048575 ∧ wayG n g p u e = [] ∧ ∀ d', d ≤ d' → d' < e → wayG n g p u d' ≠ [] := by
  unfold opR at h ⊢
  split
  · rename_i hn; rw [if_pos hn] at h; exact absurd h hn
  · rename_i hn
    rw [if_neg hn] at h
    rcases open_cases (fun d => wayG n g p u d) d with ⟨e, h1, h2⟩ | ⟨h1, _⟩
    · exact ⟨Decidable.not_not.1 hn, e, h1, h2⟩
    · rw [h1] at h; exact absurd h (by decide)
theorem ask_val (n : Nat) (g : Nat → Row) (p : Pol) (r u d : Int) : askR n g p r u d = 0 ∨ askR n g p r u d = 1 ∨ askR n g p r u d = 2 ∨ askR n g p r u d = 7 := by
  unfold askR
  split
  · simp
  split
  · simp
  split
  · simp
  · simp
theorem op_closed {n : Nat} {g : Nat → Row} {p : Pol} {u d : Int} (h : (opR n g p u d).2 = 23) : askR n g p 1 u d = 0 ∧ opR n g p u d = (0, 23) ∧ ∀ e, d ≤ e → e ≤ 1048575 → wayG n g p u e ≠ [] := by
  unfold opR at h ⊢
  split
  · rename_i hn
    rw [if_pos hn] at h
    simp only at h
    have := ask_val n g p 1 u d
    omega
  · rename_i hn
    rw [if_neg hn] at h
    rcases open_cases (fun d => wayG n g p u d) d with ⟨e, h1, h2⟩ | ⟨h1, h2⟩
    · rw [h1] at h; simp at h
    · exact ⟨Decidable.not_not.1 hn, h1, h2⟩
theorem ask_move {n : Nat} {g : Nat → Row} {p : Pol} {u d r d' : Int} (h : askR n g p 1 u d = 0) (hr : idOk r = true) (h0 : 0 ≤ d') (h1 : d' ≤ 1048575) : askR n g p r u d' = 0 := by
  obtain ⟨a1, a2, a3, a4, a5, a6⟩ := ask_zero h
  unfold askR
  rw [if_neg (by rintro (h | h); exact h a1; exact h a2), if_neg (by rintro (h | h | h); rw [hr] at h; cases h; omega; omega), if_neg (by omega)]
theorem dec_none {n : Nat} {g : Nat → Row} {p : Pol} {r u d : Int} (h : wayG n g p u d = []) (ha : askR n g p r u d = 0) : (decideR n g p r u d).2 = 0 ∧ (decideR n g p r u d).1.nr = 0 ∧ (decideR n g p r u d).1.Granted = true := by
  unfold decideR
  rw [if_neg (by simp [ha])]
  unfold decW decR
  rw [h]
  exact ⟨rfl, rfl, rfl⟩
theorem grd_some {n : Nat} {g : Nat → Row} {p : Pol} {u d : Int} (h : wayG n g p u d ≠ []) (ha : askR n g p 1 u d = 0) : (grdR n g p u d).2 = 0 ∧ 0 < (grdR n g p u d).1.length := by
  unfold grdR
  rw [if_neg (by simp [ha])]
  exact ⟨rfl, List.length_pos_iff.2 h⟩
theorem day_in {v d e : Int} (hv : 0 ≤ v) (h : d < e) : d ≤ d + v % (e - d) ∧ d + v % (e - d) < e := by
  have h1 := Int.emod_nonneg v (show e - d ≠ 0 by omega)
  have h2 := Int.emod_lt_of_pos v (show 0 < e - d by omega)
  omega
theorem idOk_mid (x : Int) : idOk (max 1 (min x 1073741824)) = true := by
  unfold idOk; simp; omega
theorem vmax {x : Int} (h1 : -9223372036854775808 ≤ x) (h2 : x ≤ 9223372036854775807) : 0 ≤ max x (IntKind.i64.wrap (-IntKind.i64.wrap (x + 1))) := by
  by_cases h : 0 ≤ x
  · exact Int.le_trans h (Int.le_max_left _ _)
  · rw [wrapI (n := x + 1) (by omega) (by omega), wrapI (by omega) (by omega)]; omega


theorem law35_PolicyOpens_cs (σ : List Blk) (c : Option Nat) (n : Nat) (g : Nat → Row) (p : Pol) (x0 x1 x2 x3 : Int) (hx3 : -9223372036854775808 ≤ x3 ∧ x3 ≤ 9223372036854775807) (hs : p.ns ≤ 9223372036854775807) (hq : p.np ≤ 9223372036854775807) (hσ : σ[0]? = some (.loc 0)) : CSF Tryz.prog 7 [.d (SL c 3 Row.enc n g), .agg (p.enc.map .d), .agg [.d (I x0), .d (I x1), .d (I x2), .d (I x3)]] σ (.d (B true)) := by
  have hv := vmax hx3.1 hx3.2
  refine CSF.of_body T.en7 Tryz.func7 rfl (by simp [Tryz.ntmps7]) (by simp [go_sem]) fun hwf => ?_
  refine awp_reg_seq fun K hK => ?_
  simp [go_sem, Tryz.ntmps7]
  repeat refine ⟨by omega, ?_⟩
  refine hK _ ?_; clear hK K
  refine awp_seq ?_
  refine awp_reg_seq fun K hK => ?_
  simp [go_sem]
  repeat refine ⟨by omega, ?_⟩
  refine CSk.mk (law35_awake_cs _ (loc_app hσ)) ?_
  simp [go_sem]
  repeat refine ⟨by omega, ?_⟩
  refine hK _ ?_; clear hK K
  refine awp_forget [0, 4, 5, 18] (by simp only [restr, List.contains_cons, List.contains_nil, Nat.reduceBEq, Bool.or_false, Bool.or_true, Bool.true_or, Bool.false_or, if_true, if_false, Bool.false_eq_true]; rfl) ?_
  refine awp_cond rfl (fun c0 => ?_) (fun c0 => ?_)
  · have d0 := c0; try simp at d0
  · have d0 := c0; try simp at d0
    refine awp_skip ?_
    refine awp_draw_seq 8 T.mixed (by kernel_rfl) fun K hK => ?_
    simp [go_sem, c0, d0]
    repeat refine ⟨by omega, ?_⟩
    refine hK _ ?_; clear hK K
    refine awp_seq ?_
    refine awp_reg_seq fun K hK => ?_
    simp [go_sem, c0, d0]
    repeat refine ⟨by omega, ?_⟩
    refine CSk.mk (ref35_Few_cs _ c n g p hs hq) ?_
    simp [go_sem, c0, d0]
    repeat refine ⟨by omega, ?_⟩
    refine hK _ ?_; clear hK K
    refine awp_forget [0, 4, 5, 7, 8, 9, 28] (by simp only [restr, List.contains_cons, List.contains_nil, Nat.reduceBEq, Bool.or_false, Bool.or_true, Bool.true_or, Bool.false_or, if_true, if_false, Bool.false_eq_true]; rfl) ?_
    refine awp_cond rfl (fun c1 => ?_) (fun c1 => ?_)
    · have d1 := c1; try simp at d1
      refine awp_reg_seq fun K hK => ?_
      simp [go_sem, c0, d0, c1, d1]
      repeat refine ⟨by omega, ?_⟩
      refine hK _ ?_; clear hK K
      refine awp_ret ?_
      simp [go_sem, Tryz.results7, c0, d0, c1, d1] <;> omega
    · have d1 := c1; try simp at d1
      obtain ⟨hp, hn⟩ := few_ok d1
      refine awp_skip ?_
      refine awp_draw_seq 11 T.mixed (by kernel_rfl) fun K hK => ?_
      simp [go_sem, c0, d0, c1, d1]
      repeat refine ⟨by omega, ?_⟩
      refine CSg.mk (cloneRow_cs _ c n g (by omega)) ?_
      simp [go_sem, c0, d0, c1, d1]
      repeat refine ⟨by omega, ?_⟩
      refine CSg.mk (law35_cp_cs _ p hp) ?_
      simp [go_sem, c0, d0, c1, d1]
      repeat refine ⟨by omega, ?_⟩
      refine CSg.mk (policy_Opens_cs _ none n g p x1 x2 (by omega) hp (loc_app hσ)) ?_
      simp [go_sem, c0, d0, c1, d1]
      repeat refine ⟨by omega, ?_⟩
      refine hK _ ?_; clear hK K
      refine awp_seq ?_
      refine awp_reg_seq fun K hK => ?_
      simp [go_sem, c0, d0, c1, d1]
      repeat refine ⟨by omega, ?_⟩
      refine hK _ ?_; clear hK K
      refine awp_forget [0, 4, 5, 7, 8, 9, 10, 11, 44] (by simp only [restr, List.contains_cons, List.contains_nil, Nat.reduceBEq, Bool.or_false, Bool.or_true, Bool.true_or, Bool.false_or, if_true, if_false, Bool.false_eq_true]; rfl) ?_
      refine awp_cond rfl (fun c2 => ?_) (fun c2 => ?_)
      · have d2 := c2; try simp at d2
        have he := op_err d2.1 d2.2
        refine awp_reg_seq fun K hK => ?_
        simp [go_sem, c0, d0, c1, d1, c2, d2]
        repeat refine ⟨by omega, ?_⟩
        refine hK _ ?_; clear hK K
        refine awp_ret ?_
        simp [go_sem, Tryz.results7, he]
      · have d2 := c2; try simp at d2
        refine awp_skip ?_
        refine awp_reg_seq fun K hK => ?_
        simp [go_sem, c0, d0, c1, d1, c2, d2]
        repeat refine ⟨by omega, ?_⟩
        refine hK _ ?_; clear hK K
        refine awp_seq ?_
        refine awp_reg_seq fun K hK => ?_
        simp [go_sem, c0, d0, c1, d1, c2, d2]
        repeat refine ⟨by omega, ?_⟩
        refine hK _ ?_; clear hK K
        refine awp_forget [0, 4, 5, 7, 8, 9, 10, 12, 49] (by simp only [restr, List.contains_cons, List.contains_nil, Nat.reduceBEq, Bool.or_false, Bool.or_true, Bool.true_or, Bool.false_or, if_true, if_false, Bool.false_eq_true]; rfl) ?_
        refine awp_cond rfl (fun c3 => ?_) (fun c3 => ?_)
        · have d3 := c3; try simp at d3
          obtain ⟨ha, ho, hno⟩ := op_closed (by simpa using d3)
          have h0 := (ask_zero ha).2.2.2.1
          have h01 := (ask_zero ha).2.2.2.2.1
          have hw := day_in (d := x2) (e := 1048576) hv (by omega)
          have hg := grd_some (hno _ hw.1 (by omega)) (ask_move ha (by decide) (by omega) (by omega))
          refine awp_reg_end fun K hK => ?_
          simp [go_sem, c0, d0, c1, d1, c2, d2, c3, d3, ho]
          repeat refine ⟨by omega, ?_⟩
          refine hK _ ?_; clear hK K
          refine awp_seq ?_
          refine awp_reg_seq fun K hK => ?_
          simp [go_sem, c0, d0, c1, d1, c2, d2, c3, d3, ho]
          repeat refine ⟨by omega, ?_⟩
          refine hK _ ?_; clear hK K
          refine awp_forget [0, 4, 5, 8, 9, 12, 83] (by simp only [restr, List.contains_cons, List.contains_nil, Nat.reduceBEq, Bool.or_false, Bool.or_true, Bool.true_or, Bool.false_or, if_true, if_false, Bool.false_eq_true]; rfl) ?_
          refine awp_cond rfl (fun c4 => ?_) (fun c4 => ?_)
          · have d4 := c4; try simp at d4
            refine awp_reg_seq fun K hK => ?_
            simp [go_sem, c0, d0, c1, d1, c2, d2, c3, d3, ho, c4, d4]
            repeat refine ⟨by omega, ?_⟩
            refine hK _ ?_; clear hK K
            refine awp_ret ?_
            simp [go_sem, Tryz.results7, c0, d0, c1, d1, c2, d2, c3, d3, ho, c4, d4] <;> omega
          · have d4 := c4; try simp at d4
            refine awp_skip ?_
            refine awp_draw_seq 23 T.mixed (by kernel_rfl) fun K hK => ?_
            simp [go_sem, c0, d0, c1, d1, c2, d2, c3, d3, ho, c4, d4]
            try simp (disch := omega) only [tmodI, wrapI]
            repeat refine ⟨by omega, ?_⟩
            refine CSg.mk (cloneRow_cs _ c n g (by omega)) ?_
            simp [go_sem, c0, d0, c1, d1, c2, d2, c3, d3, ho, c4, d4]
            try simp (disch := omega) only [tmodI, wrapI]
            repeat refine ⟨by omega, ?_⟩
            refine CSg.mk (law35_cp_cs _ p hp) ?_
            simp [go_sem, c0, d0, c1, d1, c2, d2, c3, d3, ho, c4, d4]
            try simp (disch := omega) only [tmodI, wrapI]
            repeat refine ⟨by omega, ?_⟩
            refine CSg.mk (policy_Grounds_cs _ none n g p x1 (x2 + max x3 (IntKind.i64.wrap (-IntKind.i64.wrap (x3 + 1))) % (1048576 - x2)) (by omega) hp (loc_app hσ)) ?_
            simp [go_sem, c0, d0, c1, d1, c2, d2, c3, d3, ho, c4, d4]
            try simp (disch := omega) only [tmodI, wrapI]
            repeat refine ⟨by omega, ?_⟩
            refine hK _ ?_; clear hK K
            refine awp_reg_seq fun K hK => ?_
            simp [go_sem, c0, d0, c1, d1, c2, d2, c3, d3, ho, c4, d4]
            repeat refine ⟨by omega, ?_⟩
            refine hK _ ?_; clear hK K
            refine awp_ret ?_
            simp [go_sem, Tryz.results7, hg]
        · have d3 := c3; try simp at d3
          have hz : (opR n g p x1 x2).2 = 0 := by omega
          obtain ⟨ha, e, ho, h1, h2, h3, h4⟩ := op_ok hz
          have h0 := (ask_zero ha).2.2.2.1
          have hne : ¬ e < x2 := by omega
          have hd := dec_none h3 (ask_move ha (idOk_mid x0) (by omega) h2)
          apply awp_own_seq 15 13 14 T.mixed (by kernel_rfl)
          · intro τ K hK
            simp [go_sem, c0, d0, c1, d1, c2, d2, c3, d3, ho, hne, hd.1, hd.2.1, hd.2.2]
            repeat refine ⟨by omega, ?_⟩
            refine CSg.mk (cloneRow_cs _ c n g (by omega)) ?_
            simp [go_sem, c0, d0, c1, d1, c2, d2, c3, d3, ho, hne, hd.1, hd.2.1, hd.2.2]
            repeat refine ⟨by omega, ?_⟩
            refine CSg.mk (law35_cp_cs _ p hp) ?_
            simp [go_sem, c0, d0, c1, d1, c2, d2, c3, d3, ho, hne, hd.1, hd.2.1, hd.2.2]
            repeat refine ⟨by omega, ?_⟩
            refine CSg.mk (policy_Decide_cs _ none n g p (max 1 (min x0 1073741824)) x1 e (by omega) hp (loc_app hσ)) ?_
            simp [go_sem, c0, d0, c1, d1, c2, d2, c3, d3, ho, hne, hd.1, hd.2.1, hd.2.2]
            repeat refine ⟨by omega, ?_⟩
            exact hK _ _
          intro K hK
          simp [go_sem, c0, d0, c1, d1, c2, d2, c3, d3, ho, hne, hd.1, hd.2.1, hd.2.2]
          repeat refine ⟨by omega, ?_⟩
          refine hK _ ?_; clear hK K
          refine awp_reg_seq fun K hK => ?_
          simp [go_sem, c0, d0, c1, d1, c2, d2, c3, d3, ho, hne, hd.1, hd.2.1, hd.2.2]
          repeat refine ⟨by omega, ?_⟩
          refine hK _ ?_; clear hK K
          refine awp_forget [0, 4, 5, 8, 9, 12, 80] (by simp only [restr, List.contains_cons, List.contains_nil, Nat.reduceBEq, Bool.or_false, Bool.or_true, Bool.true_or, Bool.false_or, if_true, if_false, Bool.false_eq_true]; rfl) ?_
          refine awp_cond rfl (fun c5 => ?_) (fun c5 => ?_)
          · have d5 := c5; try simp at d5
          · have d5 := c5; try simp at d5
            refine awp_skip ?_
            refine awp_seq ?_
            refine awp_reg_seq fun K hK => ?_
            simp [go_sem, c0, d0, c1, d1, c2, d2, c3, d3, ho, hne, hd.1, hd.2.1, hd.2.2, c5, d5]
            repeat refine ⟨by omega, ?_⟩
            refine hK _ ?_; clear hK K
            refine awp_forget [0, 4, 5, 8, 9, 12, 83] (by simp only [restr, List.contains_cons, List.contains_nil, Nat.reduceBEq, Bool.or_false, Bool.or_true, Bool.true_or, Bool.false_or, if_true, if_false, Bool.false_eq_true]; rfl) ?_
            refine awp_cond rfl (fun c6 => ?_) (fun c6 => ?_)
            · have d6 := c6; try simp at d6
              refine awp_reg_seq fun K hK => ?_
              simp [go_sem, c0, d0, c1, d1, c2, d2, c3, d3, ho, hne, hd.1, hd.2.1, hd.2.2, c5, d5, c6, d6]
              repeat refine ⟨by omega, ?_⟩
              refine hK _ ?_; clear hK K
              refine awp_ret ?_
              simp [go_sem, Tryz.results7, c0, d0, c1, d1, c2, d2, c3, d3, ho, hne, hd.1, hd.2.1, hd.2.2, c5, d5, c6, d6] <;> omega
            · have d6 := c6; try simp at d6
              have hlt : x2 < e := by omega
              have hw := day_in (d := x2) (e := e) hv hlt
              have hg := grd_some (h4 _ hw.1 hw.2) (ask_move ha (by decide) (by omega) (by omega))
              refine awp_skip ?_
              refine awp_draw_seq 23 T.mixed (by kernel_rfl) fun K hK => ?_
              simp [go_sem, c0, d0, c1, d1, c2, d2, c3, d3, ho, hne, hd.1, hd.2.1, hd.2.2, c5, d5, c6, d6]
              try simp (disch := omega) only [tmodI, wrapI]
              repeat refine ⟨by omega, ?_⟩
              refine CSg.mk (cloneRow_cs _ c n g (by omega)) ?_
              simp [go_sem, c0, d0, c1, d1, c2, d2, c3, d3, ho, hne, hd.1, hd.2.1, hd.2.2, c5, d5, c6, d6]
              try simp (disch := omega) only [tmodI, wrapI]
              repeat refine ⟨by omega, ?_⟩
              refine CSg.mk (law35_cp_cs _ p hp) ?_
              simp [go_sem, c0, d0, c1, d1, c2, d2, c3, d3, ho, hne, hd.1, hd.2.1, hd.2.2, c5, d5, c6, d6]
              try simp (disch := omega) only [tmodI, wrapI]
              repeat refine ⟨by omega, ?_⟩
              refine CSg.mk (policy_Grounds_cs _ none n g p x1 (x2 + max x3 (IntKind.i64.wrap (-IntKind.i64.wrap (x3 + 1))) % (e - x2)) (by omega) hp (loc_app hσ)) ?_
              simp [go_sem, c0, d0, c1, d1, c2, d2, c3, d3, ho, hne, hd.1, hd.2.1, hd.2.2, c5, d5, c6, d6]
              try simp (disch := omega) only [tmodI, wrapI]
              repeat refine ⟨by omega, ?_⟩
              refine hK _ ?_; clear hK K
              refine awp_reg_seq fun K hK => ?_
              simp [go_sem, c0, d0, c1, d1, c2, d2, c3, d3, ho, hne, hd.1, hd.2.1, hd.2.2, c5, d5, c6, d6]
              repeat refine ⟨by omega, ?_⟩
              refine hK _ ?_; clear hK K
              refine awp_ret ?_
              simp [go_sem, Tryz.results7, hg]

end Go.Proofs.YtkochmppmpmddaaGreat

/-! Et -/
namespace Go.Proofs.YtkochmppmpmddaaGreat
open Go.Abs Go.Arch
open Go.ChangeShapes Go.WideShapes Go.ChangeAt Go.RowKit
set_option linter.unusedVariables false
set_option linter.unusedSimpArgs false

theorem opn75 : Opn Tryz.prog 75 fun ds => ∃ a b : Dating, ds = [I a.First, I a.Last, I b.First, I b.Last] := (opn_array Tryz.underlying75 (by kernel_rfl) opn74).mono fun ds h => by
  obtain ⟨_, _, rfl, ⟨a, rfl⟩, _, _, rfl, ⟨b, rfl⟩, rfl⟩ := h
  exact ⟨a, b, rfl⟩

end Go.Proofs.YtkochmppmpmddaaGreat
