/- Contracts and lemmas (Di, Dj, Dk, Er, Dl, Dm, Dn, Dox, Dr, Du, Axo), joined out of smaller texts by a program; no conditions. -/
import Derived.Test.YtkochmppmpmddaaGreatKB5
import Derived.Test.YtkochmppmpmddaaGreatRows
import Derived.Test.YtkochmppmpmddaaGreatKB3
import Derived.HandedShaped
/-! Di -/
namespace Go.Proofs.YtkochmppmpmddaaGreat
open Go.Abs Go.Arch
set_option linter.unusedVariables false
set_option linter.unusedSimpArgs false
set_option maxRecDepth 100000
set_option maxHeartbeats 1000000
noncomputable def pathR (n : Nat) (g : Nat → Row) (u : Int) : Nat × Int := if rowsChk n g ≠ 0 then (0, 1) else if findR n g u < 0 then (0, 7) else (wayK n g u, 0)
noncomputable def grdR (n : Nat) (g : Nat → Row) (p : Pol) (u d : Int) : List Ground × Int := if askR n g p 1 u d ≠ 0 then ([], askR n g p 1 u d) else (wayG n g p u d, 0)
noncomputable def verR (n : Nat) (g : Nat → Row) (p : Pol) (x : Acc) : Int := if askR n g p x.Reader x.Unit x.Day ≠ 0 then askR n g p x.Reader x.Unit x.Day
  else if x.Granted ≠ (decW n g p x.Reader x.Unit x.Day).Granted ∨ eqL (lst x.nr x.rs) (lst (decW n g p x.Reader x.Unit x.Day).nr (decW n g p x.Reader x.Unit x.Day).rs) = false then 14 else 0
theorem decW_nr {n : Nat} {g : Nat → Row} {p : Pol} (hp : PolOk p) (hr : rowsChk n g = 0) (r u d : Int) : (decW n g p r u d).nr ≤ 768000 := wayG_len hp (rows_le hr) hr u d
theorem unit_pos {n : Nat} {g : Nat → Row} (h : rowsChk n g = 0) {u : Int} (hf : 0 ≤ findR n g u) : 1 ≤ u := by
  obtain ⟨h1, h2, h3⟩ := findR_at hf
  have := (rows_good h).1.ok _ h1
  simp [rowOk, idOk] at this
  omega
theorem ref35_Rows_cs (σ : List Blk) (c : Option Nat) (n : Nat) (g : Nat → Row) (hn : n < 1000000000) : CSF Tryz.prog 17 [.d (SL c 3 Row.enc n g)] σ (.d (I (rowsChk n g))) := by
  refine CSF.of_body T.en17 Tryz.func17 rfl (by simp [Tryz.ntmps17]) (by simp [go_sem]) fun hwf => ?_
  refine awp_reg_seq fun K hK => ?_
  simp [go_sem, Tryz.ntmps17]
  repeat refine ⟨by omega, ?_⟩
  refine hK _ ?_; clear hK K
  refine awp_seq ?_
  refine awp_reg_seq fun K hK => ?_
  simp [go_sem]
  repeat refine ⟨by omega, ?_⟩
  refine hK _ ?_; clear hK K
  refine awp_forget [0, 13] (by simp only [restr, List.contains_cons, List.contains_nil, Nat.reduceBEq, Bool.or_false, Bool.or_true, Bool.true_or, Bool.false_or, if_true, if_false, Bool.false_eq_true]; rfl) ?_
  refine awp_cond rfl (fun c0 => ?_) (fun c0 => ?_)
  · have d0 := c0; try simp at d0
    have hz : rowsChk n g = 8 := by unfold rowsChk; rw [if_pos (by omega)]
    refine awp_reg_seq fun K hK => ?_
    simp [go_sem, c0, d0]
    repeat refine ⟨by omega, ?_⟩
    refine hK _ ?_; clear hK K
    refine awp_ret ?_
    rw [hz]; simp [go_sem, Tryz.results17]
  · have d0 := c0; try simp at d0
    have hle : ¬ 256 < n := by omega
    refine awp_skip ?_
    refine awp_seq ?_
    refine awp_reg_seq fun K hK => ?_
    simp [go_sem, c0, d0]
    repeat refine ⟨by omega, ?_⟩
    refine hK _ ?_; clear hK K
    refine awp_block ?_
    refine awp_forget [0, 14, 15, 16] (by simp [go_sem, restr]; rfl) ?_
    refine awp_loopU (α := Nat) (fun i => [(16, .d (I i))]) (fun i => _) (fun i => i ≤ n ∧ firstE (rowE g) 0 n = firstE (rowE g) i (n - i)) (fun i => n - i) 0 (by simp [go_sem]) rfl (by simp) ?_
    rintro i ⟨hi, hx⟩
    refine awp_reg_seq fun K hK => ?_
    simp [go_sem, c0, d0, hi, wrap_pred (i := i) (by omega)]
    repeat refine ⟨by omega, ?_⟩
    refine hK _ ?_; clear hK K
    refine awp_seq ?_
    refine awp_forget [0, 14, 15, 16, 17] (by simp only [restr, List.contains_cons, List.contains_nil, Nat.reduceBEq, Bool.or_false, Bool.or_true, Bool.true_or, Bool.false_or, if_true, if_false, Bool.false_eq_true]; rfl) ?_
    refine awp_cond rfl (fun c1 => ?_) (fun c1 => ?_)
    · have d1 := c1; try simp at d1
      obtain ⟨k, hk⟩ : ∃ k, n - i = k + 1 := ⟨n - i - 1, by omega⟩
      have hk' : n - (i + 1) = k := by omega
      rw [hk, firstE] at hx
      refine awp_skip ?_
      refine awp_seq ?_
      refine awp_block ?_
      refine awp_reg_seq fun K hK => ?_
      simp [go_sem, c0, d0, hi, wrap_pred (i := i) (by omega), c1, d1]
      repeat refine ⟨by omega, ?_⟩
      refine hK _ ?_; clear hK K
      refine awp_seq ?_
      refine awp_reg_seq fun K hK => ?_
      simp [go_sem, c0, d0, hi, wrap_pred (i := i) (by omega), c1, d1]
      repeat refine ⟨by omega, ?_⟩
      refine hK _ ?_; clear hK K
      refine awp_forget [0, 3, 4, 14, 15, 16, 48] (by simp only [restr, List.contains_cons, List.contains_nil, Nat.reduceBEq, Bool.or_false, Bool.or_true, Bool.true_or, Bool.false_or, if_true, if_false, Bool.false_eq_true]; rfl) ?_
      refine awp_cond rfl (fun c2 => ?_) (fun c2 => ?_)
      · have d2 := c2; try simp at d2
        have hrk : rowOk (g i) = false := by
          cases h : rowOk (g i) with
          | false => rfl
          | true => exfalso; simp [rowOk, idOk] at h; omega
        have he : rowE g i = 2 := by unfold rowE; rw [if_pos hrk]
        rw [he] at hx; simp at hx
        have hz := rows_1 hle hx (by decide)
        refine awp_reg_seq fun K hK => ?_
        simp [go_sem, c0, d0, hi, wrap_pred (i := i) (by omega), c1, d1, c2, d2]
        repeat refine ⟨by omega, ?_⟩
        refine hK _ ?_; clear hK K
        refine awp_ret ?_
        rw [hz]; simp [go_sem, Tryz.results17]
      · have d2 := c2; try simp at d2
        have hrk : rowOk (g i) = true := by simp [rowOk, idOk]; omega
        refine awp_skip ?_
        refine awp_draw_seq 13 T.mixed (by kernel_rfl) fun K hK => ?_
        simp [go_sem, c0, d0, hi, wrap_pred (i := i) (by omega), c1, d1, c2, d2]
        try simp (disch := omega) only [wrapI]
        repeat refine ⟨by omega, ?_⟩
        refine hK _ ?_; clear hK K
        refine awp_forget [0, 14, 15, 16, 61] (by simp only [restr, List.contains_cons, List.contains_nil, Nat.reduceBEq, Bool.or_false, Bool.or_true, Bool.true_or, Bool.false_or, if_true, if_false, Bool.false_eq_true]; rfl) ?_
        refine awp_cond rfl (fun c3 => ?_) (fun c3 => ?_)
        · have d3 := c3; try simp at d3
          have he : rowE g i = 5 := by unfold rowE; rw [if_neg (by simp [hrk]), if_pos d3]
          rw [he] at hx; simp at hx
          have hz := rows_1 hle hx (by decide)
          refine awp_reg_seq fun K hK => ?_
          simp [go_sem, c0, d0, hi, wrap_pred (i := i) (by omega), c1, d1, c2, d2, c3, d3]
          repeat refine ⟨by omega, ?_⟩
          refine hK _ ?_; clear hK K
          refine awp_ret ?_
          rw [hz]; simp [go_sem, Tryz.results17]
        · have d3 := c3; try simp at d3
          have he : rowE g i = 0 := by unfold rowE; rw [if_neg (by simp [hrk]), if_neg (by rintro ⟨h1, h2⟩; have := d3 h1; omega)]
          rw [he] at hx; simp at hx
          refine awp_skip ?_
          refine awp_reg_end fun K hK => ?_
          simp [go_sem, c0, d0, hi, wrap_pred (i := i) (by omega), c1, d1, c2, d2, c3, d3]
          try simp (disch := omega) only [wrapI]
          repeat refine ⟨by omega, ?_⟩
          refine hK _ ?_; clear hK K
          refine ⟨i + 1, back_of' (by simp) (.refl _) (by (simp [go_sem, wrap_succ (i := i) (by omega), c0, d0, hi, wrap_pred (i := i) (by omega), c1, d1, c2, d2, c3, d3] <;> omega)), ⟨by omega, by rw [hx, hk']⟩, by first | omega | (dsimp only; omega)⟩
    · have d1 := c1; try simp at d1
      have hin : i = n := by omega
      rw [hin, Nat.sub_self, firstE] at hx
      refine awp_exit ?_
      refine awp_seq ?_
      refine awp_reg_seq fun K hK => ?_
      simp [go_sem, c0, d0, hi, wrap_pred (i := i) (by omega), c1, d1]
      repeat refine ⟨by omega, ?_⟩
      refine hK _ ?_; clear hK K
      refine awp_block ?_
      refine awp_forget [0, 63, 64, 65] (by simp [go_sem, restr]; rfl) ?_
      refine awp_loopU (α := Nat) (fun q => [(65, .d (I q))]) (fun q => _) (fun q => q ≤ n ∧ firstE (parE n g) 0 n = firstE (parE n g) q (n - q)) (fun q => n - q) 0 (by simp [go_sem]) rfl (by simp) ?_
      rintro q ⟨hq, hy⟩
      refine awp_reg_seq fun K hK => ?_
      simp [go_sem, c0, d0, hi, wrap_pred (i := i) (by omega), c1, d1]
      repeat refine ⟨by omega, ?_⟩
      refine hK _ ?_; clear hK K
      refine awp_seq ?_
      refine awp_forget [0, 63, 64, 65, 66] (by simp only [restr, List.contains_cons, List.contains_nil, Nat.reduceBEq, Bool.or_false, Bool.or_true, Bool.true_or, Bool.false_or, if_true, if_false, Bool.false_eq_true]; rfl) ?_
      refine awp_cond rfl (fun c4 => ?_) (fun c4 => ?_)
      · have d4 := c4; try simp at d4
        obtain ⟨j, hj⟩ : ∃ j, n - q = j + 1 := ⟨n - q - 1, by omega⟩
        have hj' : n - (q + 1) = j := by omega
        rw [hj, firstE] at hy
        refine awp_skip ?_
        refine awp_seq ?_
        refine awp_block ?_
        refine awp_reg_seq fun K hK => ?_
        simp [go_sem, c0, d0, hi, wrap_pred (i := i) (by omega), c1, d1, c4, d4]
        repeat refine ⟨by omega, ?_⟩
        refine hK _ ?_; clear hK K
        refine awp_reg_seq fun K hK => ?_
        simp [go_sem, c0, d0, hi, wrap_pred (i := i) (by omega), c1, d1, c4, d4]
        repeat refine ⟨by omega, ?_⟩
        refine CSm.mk (ref35_index_cs _ c n g (g q).Parent hn) ?_
        simp [go_sem, c0, d0, hi, wrap_pred (i := i) (by omega), c1, d1, c4, d4]
        repeat refine ⟨by omega, ?_⟩
        refine hK _ ?_; clear hK K
        refine awp_forget [0, 63, 64, 65, 78] (by simp only [restr, List.contains_cons, List.contains_nil, Nat.reduceBEq, Bool.or_false, Bool.or_true, Bool.true_or, Bool.false_or, if_true, if_false, Bool.false_eq_true]; rfl) ?_
        refine awp_cond rfl (fun c5 => ?_) (fun c5 => ?_)
        · have d5 := c5; try simp at d5
          have he : parE n g q = 7 := by unfold parE; rw [if_pos d5]
          rw [he] at hy; simp at hy
          have hz := rows_2 hle hx hy (by decide)
          refine awp_reg_seq fun K hK => ?_
          simp [go_sem, c0, d0, hi, wrap_pred (i := i) (by omega), c1, d1, c4, d4, c5, d5]
          repeat refine ⟨by omega, ?_⟩
          refine hK _ ?_; clear hK K
          refine awp_ret ?_
          rw [hz]; simp [go_sem, Tryz.results17]
        · have d5 := c5; try simp at d5
          have he : parE n g q = 0 := by unfold parE; rw [if_neg (by rintro ⟨h1, h2⟩; have := d5 h1; omega)]
          rw [he] at hy; simp at hy
          refine awp_skip ?_
          refine awp_reg_end fun K hK => ?_
          simp [go_sem, c0, d0, hi, wrap_pred (i := i) (by omega), c1, d1, c4, d4, c5, d5]
          try simp (disch := omega) only [wrapI]
          repeat refine ⟨by omega, ?_⟩
          refine hK _ ?_; clear hK K
          refine ⟨q + 1, back_of' (by simp) (.refl _) (by (simp [go_sem, wrap_succ (i := q) (by omega), c0, d0, hi, wrap_pred (i := i) (by omega), c1, d1, c4, d4, c5, d5] <;> omega)), ⟨by omega, by rw [hy, hj']⟩, by first | omega | (dsimp only; omega)⟩
      · have d4 := c4; try simp at d4
        have hqn : q = n := by omega
        rw [hqn, Nat.sub_self, firstE] at hy
        have hg := good_of (by omega) hx hy
        refine awp_exit ?_
        refine awp_seq ?_
        refine awp_reg_seq fun K hK => ?_
        simp [go_sem, c0, d0, hi, wrap_pred (i := i) (by omega), c1, d1, c4, d4]
        repeat refine ⟨by omega, ?_⟩
        refine hK _ ?_; clear hK K
        refine awp_block ?_
        refine awp_forget [0, 80, 81, 82] (by simp [go_sem, restr]; rfl) ?_
        refine awp_loopU (α := Nat) (fun r => [(82, .d (I r))]) (fun r => _) (fun r => r ≤ n ∧ ∀ z, z < r → ¬Cyc n g z) (fun r => n - r) 0 (by simp [go_sem]) rfl (by simp) ?_
        rintro r ⟨hr, hc⟩
        refine awp_reg_seq fun K hK => ?_
        simp [go_sem, c0, d0, hi, wrap_pred (i := i) (by omega), c1, d1, c4, d4]
        repeat refine ⟨by omega, ?_⟩
        refine hK _ ?_; clear hK K
        refine awp_seq ?_
        refine awp_forget [0, 80, 81, 82, 83] (by simp only [restr, List.contains_cons, List.contains_nil, Nat.reduceBEq, Bool.or_false, Bool.or_true, Bool.true_or, Bool.false_or, if_true, if_false, Bool.false_eq_true]; rfl) ?_
        refine awp_cond rfl (fun c6 => ?_) (fun c6 => ?_)
        · have d6 := c6; try simp at d6
          refine awp_skip ?_
          refine awp_seq ?_
          refine awp_block ?_
          refine awp_reg_seq fun K hK => ?_
          simp [go_sem, c0, d0, hi, wrap_pred (i := i) (by omega), c1, d1, c4, d4, c6, d6]
          repeat refine ⟨by omega, ?_⟩
          refine hK _ ?_; clear hK K
          refine awp_reg_seq fun K hK => ?_
          simp [go_sem, c0, d0, hi, wrap_pred (i := i) (by omega), c1, d1, c4, d4, c6, d6]
          repeat refine ⟨by omega, ?_⟩
          refine hK _ ?_; clear hK K
          refine awp_block ?_
          refine awp_forget [0, 9, 10, 80, 81, 82] (by simp [go_sem, restr]; rfl) ?_
          refine awp_loopU (α := Nat) (fun k => [(9, .d (I (g (chainX n g r k)).Parent)), (10, .d (I k))]) (fun k => σ ++ [.var ((g r).enc.map .d)]) (fun k => k ≤ n ∧ ∀ q, q < k → (g (chainX n g r q)).Parent ≠ 0) (fun k => n + 1 - k) 0 (by simp [go_sem, chainX]) rfl (by simp) ?_
          rintro k ⟨hk1, hks⟩
          refine awp_seq ?_
          refine awp_reg_seq fun K hK => ?_
          simp [go_sem, c0, d0, hi, wrap_pred (i := i) (by omega), c1, d1, c4, d4, c6, d6, wrap_succ (i := k) (by omega)]
          repeat refine ⟨by omega, ?_⟩
          refine hK _ ?_; clear hK K
          refine awp_forget [0, 9, 10, 80, 81, 82, 89] (by simp only [restr, List.contains_cons, List.contains_nil, Nat.reduceBEq, Bool.or_false, Bool.or_true, Bool.true_or, Bool.false_or, if_true, if_false, Bool.false_eq_true]; rfl) ?_
          refine awp_cond rfl (fun c7 => ?_) (fun c7 => ?_)
          · have d7 := c7; try simp at d7
            refine awp_skip ?_
            refine awp_block ?_
            refine awp_reg_seq fun K hK => ?_
            simp [go_sem, c0, d0, hi, wrap_pred (i := i) (by omega), c1, d1, c4, d4, c6, d6, wrap_succ (i := k) (by omega), c7, d7]
            try simp (disch := omega) only [wrapI]
            repeat refine ⟨by omega, ?_⟩
            refine hK _ ?_; clear hK K
            refine awp_seq ?_
            refine awp_reg_seq fun K hK => ?_
            simp [go_sem, c0, d0, hi, wrap_pred (i := i) (by omega), c1, d1, c4, d4, c6, d6, wrap_succ (i := k) (by omega), c7, d7]
            repeat refine ⟨by omega, ?_⟩
            refine hK _ ?_; clear hK K
            refine awp_forget [0, 9, 10, 80, 81, 82, 95] (by simp only [restr, List.contains_cons, List.contains_nil, Nat.reduceBEq, Bool.or_false, Bool.or_true, Bool.true_or, Bool.false_or, if_true, if_false, Bool.false_eq_true]; rfl) ?_
            refine awp_cond rfl (fun c8 => ?_) (fun c8 => ?_)
            · have d8 := c8; try simp at d8
              have hkn : k = n := by omega
              have hcy : Cyc n g r := fun q hq => by
                rcases Nat.lt_or_eq_of_le hq with h | h
                · exact hks q (by omega)
                · have e : q = k := by omega
                  rw [e]; exact d7
              have hz := rows_3 hle hx hy d6 hcy
              refine awp_reg_seq fun K hK => ?_
              simp [go_sem, c0, d0, hi, wrap_pred (i := i) (by omega), c1, d1, c4, d4, c6, d6, wrap_succ (i := k) (by omega), c7, d7, c8, d8]
              repeat refine ⟨by omega, ?_⟩
              refine hK _ ?_; clear hK K
              refine awp_ret ?_
              rw [hz]; simp [go_sem, Tryz.results17]
            · have d8 := c8; try simp at d8
              have hnx := (hg.chain_next d6 (k := k) (fun q hq => by rcases Nat.lt_or_eq_of_le hq with h | h; exact hks q h; rw [h]; exact d7)).1
              have hnl := hg.chain_lt d6 (k + 1) (fun q hq => by rcases Nat.lt_or_eq_of_le (Nat.le_of_lt_succ hq) with h | h; exact hks q h; rw [h]; exact d7)
              refine awp_skip ?_
              refine awp_reg_end fun K hK => ?_
              simp [go_sem, c0, d0, hi, wrap_pred (i := i) (by omega), c1, d1, c4, d4, c6, d6, wrap_succ (i := k) (by omega), c7, d7, c8, d8, hnx, hnl]
              repeat refine ⟨by omega, ?_⟩
              refine CSk.mk (ref35_index_cs _ c n g (g (chainX n g r k)).Parent hn) ?_
              simp [go_sem, c0, d0, hi, wrap_pred (i := i) (by omega), c1, d1, c4, d4, c6, d6, wrap_succ (i := k) (by omega), c7, d7, c8, d8, hnx, hnl]
              repeat refine ⟨by omega, ?_⟩
              refine hK _ ?_; clear hK K
              refine ⟨k + 1, back_of' (by simp [go_sem, wrap_succ (i := k) (by omega), c0, d0, hi, wrap_pred (i := i) (by omega), c1, d1, c4, d4, c6, d6, wrap_succ (i := k) (by omega), c7, d7, c8, d8, hnx, hnl]) (.refl _) (by (simp [go_sem, wrap_succ (i := k) (by omega), c0, d0, hi, wrap_pred (i := i) (by omega), c1, d1, c4, d4, c6, d6, wrap_succ (i := k) (by omega), c7, d7, c8, d8, hnx, hnl] <;> omega)), ⟨by omega, fun q hq => by rcases Nat.lt_or_eq_of_le (Nat.le_of_lt_succ hq) with h | h; exact hks q h; rw [h]; exact d7⟩, by first | omega | (dsimp only; omega)⟩
          · have d7 := c7; try simp at d7
            have hcy : ¬Cyc n g r := fun h => h k hk1 d7
            refine awp_exit ?_
            refine awp_reg_end fun K hK => ?_
            simp [go_sem, c0, d0, hi, wrap_pred (i := i) (by omega), c1, d1, c4, d4, c6, d6, wrap_succ (i := k) (by omega), c7, d7]
            try simp (disch := omega) only [wrapI]
            repeat refine ⟨by omega, ?_⟩
            refine hK _ ?_; clear hK K
            refine ⟨r + 1, back_of' (by simp) (.refl _) (by (simp [go_sem, wrap_succ (i := r) (by omega), c0, d0, hi, wrap_pred (i := i) (by omega), c1, d1, c4, d4, c6, d6, wrap_succ (i := k) (by omega), c7, d7] <;> omega)), ⟨by omega, fun z hz => by rcases Nat.lt_or_eq_of_le (Nat.le_of_lt_succ hz) with h | h; exact hc z h; rw [h]; exact hcy⟩, by first | omega | (dsimp only; omega)⟩
        · have d6 := c6; try simp at d6
          have hrn : r = n := by omega
          have hz := rows_4 hle hx hy (fun i hi => hc i (by omega))
          refine awp_exit ?_
          refine awp_reg_seq fun K hK => ?_
          simp [go_sem, c0, d0, hi, wrap_pred (i := i) (by omega), c1, d1, c4, d4, c6, d6]
          repeat refine ⟨by omega, ?_⟩
          refine hK _ ?_; clear hK K
          refine awp_ret ?_
          rw [hz]; simp [go_sem, Tryz.results17]
theorem ref35_start_cs (σ : List Blk) (c : Option Nat) (n : Nat) (g : Nat → Row) (p : Pol) (r u d : Int) (hn : n < 1000000000) (hp : PolOk p) : CSF Tryz.prog 66 [.d (SL c 3 Row.enc n g), .agg (p.enc.map .d), .d (I r), .d (I u), .d (I d)] σ (.d (I (askR n g p r u d))) := by
  refine CSF.of_body T.en66 Tryz.func66 rfl (by simp [Tryz.ntmps66]) (by simp [go_sem]) fun hwf => ?_
  refine awp_reg_seq fun K hK => ?_
  simp [go_sem, Tryz.ntmps66]
  repeat refine ⟨by omega, ?_⟩
  refine hK _ ?_; clear hK K
  refine awp_seq ?_
  refine awp_reg_seq fun K hK => ?_
  simp [go_sem]
  repeat refine ⟨by omega, ?_⟩
  refine CSk.mk (ref35_Rows_cs _ c n g hn) ?_
  simp [go_sem]
  repeat refine ⟨by omega, ?_⟩
  refine CSm.mk (ref35_Check_cs _ p hp) ?_
  simp [go_sem]
  repeat refine ⟨by omega, ?_⟩
  refine hK _ ?_; clear hK K
  refine awp_forget [0, 2, 3, 4, 18] (by simp only [restr, List.contains_cons, List.contains_nil, Nat.reduceBEq, Bool.or_false, Bool.or_true, Bool.true_or, Bool.false_or, if_true, if_false, Bool.false_eq_true]; rfl) ?_
  refine awp_cond rfl (fun c0 => ?_) (fun c0 => ?_)
  · have d0 := c0; try simp at d0
    have hz : askR n g p r u d = 1 := by unfold askR; rw [if_pos d0]
    refine awp_reg_seq fun K hK => ?_
    simp [go_sem, c0, d0]
    repeat refine ⟨by omega, ?_⟩
    refine hK _ ?_; clear hK K
    refine awp_ret ?_
    rw [hz]; simp [go_sem, Tryz.results66]
  · have d0 := c0; try simp at d0
    have hd0 : ¬(rowsChk n g ≠ 0 ∨ polChk p ≠ 0) := by omega
    refine awp_skip ?_
    refine awp_seq ?_
    refine awp_reg_seq fun K hK => ?_
    simp [go_sem, c0, d0]
    repeat refine ⟨by omega, ?_⟩
    refine hK _ ?_; clear hK K
    refine awp_forget [0, 3, 32] (by simp only [restr, List.contains_cons, List.contains_nil, Nat.reduceBEq, Bool.or_false, Bool.or_true, Bool.true_or, Bool.false_or, if_true, if_false, Bool.false_eq_true]; rfl) ?_
    refine awp_cond rfl (fun c1 => ?_) (fun c1 => ?_)
    · have d1 := c1; try simp at d1
      have hz : askR n g p r u d = 2 := by unfold askR idOk; rw [if_neg hd0, if_pos (by simp; omega)]
      refine awp_reg_seq fun K hK => ?_
      simp [go_sem, c0, d0, c1, d1]
      repeat refine ⟨by omega, ?_⟩
      refine hK _ ?_; clear hK K
      refine awp_ret ?_
      rw [hz]; simp [go_sem, Tryz.results66]
    · have d1 := c1; try simp at d1
      have hd1 : ¬(idOk r = false ∨ d < 0 ∨ 1048575 < d) := by unfold idOk; simp; omega
      refine awp_skip ?_
      refine awp_seq ?_
      refine awp_reg_seq fun K hK => ?_
      simp [go_sem, c0, d0, c1, d1]
      repeat refine ⟨by omega, ?_⟩
      refine CSm.mk (ref35_index_cs _ c n g u hn) ?_
      simp [go_sem, c0, d0, c1, d1]
      repeat refine ⟨by omega, ?_⟩
      refine hK _ ?_; clear hK K
      refine awp_forget [40] (by simp only [restr, List.contains_cons, List.contains_nil, Nat.reduceBEq, Bool.or_false, Bool.or_true, Bool.true_or, Bool.false_or, if_true, if_false, Bool.false_eq_true]; rfl) ?_
      refine awp_cond rfl (fun c2 => ?_) (fun c2 => ?_)
      · have d2 := c2; try simp at d2
        have hz : askR n g p r u d = 7 := by
          unfold askR
          rw [if_neg hd0, if_neg hd1, if_pos]
          apply Classical.byContradiction
          intro h
          have := unit_pos (n := n) (g := g) (by omega) (u := u) (by omega)
          omega
        refine awp_reg_seq fun K hK => ?_
        simp [go_sem, c0, d0, c1, d1, c2, d2]
        repeat refine ⟨by omega, ?_⟩
        refine hK _ ?_; clear hK K
        refine awp_ret ?_
        rw [hz]; simp [go_sem, Tryz.results66]
      · have d2 := c2; try simp at d2
        have hz : askR n g p r u d = 0 := by unfold askR; rw [if_neg hd0, if_neg hd1, if_neg (by omega)]
        refine awp_skip ?_
        refine awp_reg_seq fun K hK => ?_
        simp [go_sem, c0, d0, c1, d1, c2, d2]
        repeat refine ⟨by omega, ?_⟩
        refine hK _ ?_; clear hK K
        refine awp_ret ?_
        rw [hz]; simp [go_sem, Tryz.results66]
theorem policy_Path_cs (σ : List Blk) (c : Option Nat) (n : Nat) (g : Nat → Row) (u : Int) (hn : n < 1000000000) : CSF Tryz.prog 13 [.d (SL c 3 Row.enc n g), .d (I u)] σ (.tup [.d (SL none 1 encI (pathR n g u).1 (fun i => (g (wayX n g u i)).Unit)), .d (I (pathR n g u).2)]) := by
  refine CSF.of_body T.en13 Tryz.func13 rfl (by simp [Tryz.ntmps13]) (by simp [go_sem]) fun hwf => ?_
  refine awp_reg_seq fun K hK => ?_
  simp [go_sem, Tryz.ntmps13]
  repeat refine ⟨by omega, ?_⟩
  refine hK _ ?_; clear hK K
  refine awp_seq ?_
  refine awp_block ?_
  refine awp_reg_seq fun K hK => ?_
  simp [go_sem]
  repeat refine ⟨by omega, ?_⟩
  refine CSk.mk (policy_Rows_cs _ c n g hn) ?_
  simp [go_sem]
  repeat refine ⟨by omega, ?_⟩
  refine hK _ ?_; clear hK K
  refine awp_forget [0, 1, 6] (by simp only [restr, List.contains_cons, List.contains_nil, Nat.reduceBEq, Bool.or_false, Bool.or_true, Bool.true_or, Bool.false_or, if_true, if_false, Bool.false_eq_true]; rfl) ?_
  refine awp_cond rfl (fun c0 => ?_) (fun c0 => ?_)
  · have d0 := c0; try simp at d0
    have hz : pathR n g u = (0, 1) := by unfold pathR; rw [if_pos d0]
    refine awp_reg_seq fun K hK => ?_
    simp [go_sem, c0, d0]
    repeat refine ⟨by omega, ?_⟩
    refine hK _ ?_; clear hK K
    refine awp_ret ?_
    rw [hz]; simp [go_sem, Tryz.results13]
  · have d0 := c0; try simp at d0
    refine awp_reg_seq fun K hK => ?_
    simp [go_sem, c0, d0]
    repeat refine ⟨by omega, ?_⟩
    refine CSk.mk (policy_find_cs _ c n g u hn) ?_
    simp [go_sem, c0, d0]
    repeat refine ⟨by omega, ?_⟩
    refine hK _ ?_; clear hK K
    refine awp_forget [0, 1, 10] (by simp only [restr, List.contains_cons, List.contains_nil, Nat.reduceBEq, Bool.or_false, Bool.or_true, Bool.true_or, Bool.false_or, if_true, if_false, Bool.false_eq_true]; rfl) ?_
    refine awp_cond rfl (fun c1 => ?_) (fun c1 => ?_)
    · have d1 := c1; try simp at d1
      have hz : pathR n g u = (0, 7) := by unfold pathR; rw [if_neg (by simp [d0]), if_pos d1]
      refine awp_reg_seq fun K hK => ?_
      simp [go_sem, c0, d0, c1, d1]
      repeat refine ⟨by omega, ?_⟩
      refine hK _ ?_; clear hK K
      refine awp_ret ?_
      rw [hz]; simp [go_sem, Tryz.results13]
    · have d1 := c1; try simp at d1
      have hz : pathR n g u = (wayK n g u, 0) := by unfold pathR; rw [if_neg (by simp [d0]), if_neg (by omega)]
      refine awp_skip ?_
      refine awp_reg_seq fun K hK => ?_
      simp [go_sem, c0, d0, c1, d1]
      repeat refine ⟨by omega, ?_⟩
      refine CSk.mk (policy_path_cs _ c n g u _ _ (way_of d0 u).2 hn (by have := (way_of d0 u).1; omega)) ?_
      simp [go_sem, c0, d0, c1, d1]
      repeat refine ⟨by omega, ?_⟩
      refine hK _ ?_; clear hK K
      refine awp_ret ?_
      rw [hz]; simp [go_sem, Tryz.results13]
theorem ref35_Path_cs (σ : List Blk) (c : Option Nat) (n : Nat) (g : Nat → Row) (u : Int) (hn : n < 1000000000) : CSF Tryz.prog 15 [.d (SL c 3 Row.enc n g), .d (I u)] σ (.tup [.d (SL none 1 encI (pathR n g u).1 (fun i => (g (wayX n g u i)).Unit)), .d (I (pathR n g u).2)]) := by
  refine CSF.of_body T.en15 Tryz.func15 rfl (by simp [Tryz.ntmps15]) (by simp [go_sem]) fun hwf => ?_
  refine awp_reg_seq fun K hK => ?_
  simp [go_sem, Tryz.ntmps15]
  repeat refine ⟨by omega, ?_⟩
  refine hK _ ?_; clear hK K
  refine awp_seq ?_
  refine awp_reg_seq fun K hK => ?_
  simp [go_sem]
  repeat refine ⟨by omega, ?_⟩
  refine CSk.mk (ref35_Rows_cs _ c n g hn) ?_
  simp [go_sem]
  repeat refine ⟨by omega, ?_⟩
  refine hK _ ?_; clear hK K
  refine awp_forget [0, 1, 10] (by simp only [restr, List.contains_cons, List.contains_nil, Nat.reduceBEq, Bool.or_false, Bool.or_true, Bool.true_or, Bool.false_or, if_true, if_false, Bool.false_eq_true]; rfl) ?_
  refine awp_cond rfl (fun c0 => ?_) (fun c0 => ?_)
  · have d0 := c0; try simp at d0
    have hz : pathR n g u = (0, 1) := by unfold pathR; rw [if_pos d0]
    refine awp_reg_seq fun K hK => ?_
    simp [go_sem, c0, d0]
    repeat refine ⟨by omega, ?_⟩
    refine hK _ ?_; clear hK K
    refine awp_ret ?_
    rw [hz]; simp [go_sem, Tryz.results15]
  · have d0 := c0; try simp at d0
    refine awp_skip ?_
    refine awp_seq ?_
    refine awp_reg_seq fun K hK => ?_
    simp [go_sem, c0, d0]
    repeat refine ⟨by omega, ?_⟩
    refine CSm.mk (ref35_index_cs _ c n g u hn) ?_
    simp [go_sem, c0, d0]
    repeat refine ⟨by omega, ?_⟩
    refine hK _ ?_; clear hK K
    refine awp_forget [0, 1, 18] (by simp only [restr, List.contains_cons, List.contains_nil, Nat.reduceBEq, Bool.or_false, Bool.or_true, Bool.true_or, Bool.false_or, if_true, if_false, Bool.false_eq_true]; rfl) ?_
    refine awp_cond rfl (fun c1 => ?_) (fun c1 => ?_)
    · have d1 := c1; try simp at d1
      have hz : pathR n g u = (0, 7) := by
        unfold pathR; rw [if_neg (by simp [d0]), if_pos]
        apply Classical.byContradiction
        intro h
        have := unit_pos d0 (u := u) (by omega)
        omega
      refine awp_reg_seq fun K hK => ?_
      simp [go_sem, c0, d0, c1, d1]
      repeat refine ⟨by omega, ?_⟩
      refine hK _ ?_; clear hK K
      refine awp_ret ?_
      rw [hz]; simp [go_sem, Tryz.results15]
    · have d1 := c1; try simp at d1
      have hz : pathR n g u = (wayK n g u, 0) := by unfold pathR; rw [if_neg (by simp [d0]), if_neg (by omega)]
      obtain ⟨hwk, hway⟩ := way_of d0 u
      obtain ⟨hw0, hw1, hw2⟩ := way_units d0 u
      have hkp : 0 < wayK n g u := by
        rcases Nat.eq_zero_or_pos (wayK n g u) with h | h
        · have := (way_zero d0 u).1 h; omega
        · exact h
      have hgo := (rows_good d0).1
      refine awp_skip ?_
      refine awp_reg_seq fun K hK => ?_
      simp [go_sem, c0, d0, c1, d1]
      repeat refine ⟨by omega, ?_⟩
      refine hK _ ?_; clear hK K
      refine awp_seq ?_
      refine awp_thawT 6 1 (fun i => encI (g (wayX n g u i)).Unit) (by simp [go_sem]) (by simp [go_sem]; rfl) ?_
      refine awp_reg_seq fun K hK => ?_
      simp [go_sem, c0, d0, c1, d1]
      repeat refine ⟨by omega, ?_⟩
      refine hK _ ?_; clear hK K
      refine awp_block ?_
      refine awp_forget [0, 6, 7] (by simp [go_sem, restr]; rfl) ?_
      refine awp_mv [σ.length] (by simp) ?_
      refine awp_loopU (α := Nat) (fun k => [(6, .ms σ.length 1 0 k), (7, .d (I (if k = wayK n g u then 0 else (g (wayX n g u k)).Unit)))]) (fun k => σ ++ [.arr 1 k (fun i => encI (g (wayX n g u i)).Unit)]) (fun k => k ≤ wayK n g u) (fun k => wayK n g u - k) 0 (by simp [go_sem, show ¬ 0 = wayK n g u by omega, hw0 hkp]) rfl (by simp) ?_
      rintro k hk1
      refine awp_seq ?_
      refine awp_reg_seq fun K hK => ?_
      simp [go_sem, c0, d0, c1, d1]
      repeat refine ⟨by omega, ?_⟩
      refine hK _ ?_; clear hK K
      refine awp_forget [0, 6, 7, 21] (by simp only [restr, List.contains_cons, List.contains_nil, Nat.reduceBEq, Bool.or_false, Bool.or_true, Bool.true_or, Bool.false_or, if_true, if_false, Bool.false_eq_true]; rfl) ?_
      refine awp_cond rfl (fun c2 => ?_) (fun c2 => ?_)
      · have d2 := c2; try simp at d2
        have hkk : ¬ k = wayK n g u := d2.1
        have hnx : (if k + 1 = wayK n g u then 0 else (g (wayX n g u (k + 1))).Unit) = (g (wayX n g u k)).Parent := by
          by_cases h : k + 1 = wayK n g u
          · rw [if_pos h]; exact (hw2 k h).symm
          · rw [if_neg h]; exact (hw1 k (by omega)).1
        have hkl := hway.lt k (by omega)
        have hun := hgo.find hkl
        refine awp_skip ?_
        refine awp_seq ?_
        refine awp_block ?_
        refine awp_reg_end fun K hK => ?_
        simp [go_sem, c0, d0, c1, d1, c2, d2, hkk, hun, hnx, hwf.one, hwf.zero]
        repeat refine ⟨by omega, ?_⟩
        refine hK _ ?_; clear hK K
        refine awp_rows σ.length (fun i => encI (g (wayX n g u i)).Unit) (by simp [go_sem]; first | exact ⟨rfl, rfl, rfl⟩ | exact ⟨rfl, rfl⟩ | rfl) (by intro i hi; refine cat_fn (enc := encI) (f := fun i => (g (wayX n g u i)).Unit) ?_ hi; simp [encI]) (by simp [go_sem]; rfl) ?_
        refine awp_reg_end fun K hK => ?_
        simp [go_sem, c0, d0, c1, d1, c2, d2, hkk, hun, hnx]
        repeat refine ⟨by omega, ?_⟩
        refine CSk.mk (ref35_index_cs _ c n g (g (wayX n g u k)).Unit hn) ?_
        simp [go_sem, c0, d0, c1, d1, c2, d2, hkk, hun, hnx]
        repeat refine ⟨by omega, ?_⟩
        refine hK _ ?_; clear hK K
        refine ⟨k + 1, back_of' (by simp [go_sem, c0, d0, c1, d1, c2, d2, hkk, hun, hnx]) ((leaves_app (by simp [go_sem]))) (by (simp [go_sem, c0, d0, c1, d1, c2, d2, hkk, hun, hnx] <;> omega)), by omega, by first | omega | (dsimp only; omega)⟩
      · have d2 := c2; try simp at d2
        have hkk : k = wayK n g u := by
          apply Classical.byContradiction
          intro h
          have d2' := d2 h
          have hkl := hway.lt k (by omega)
          have := hgo.ok _ hkl
          simp [rowOk, idOk] at this
          omega
        refine awp_exit ?_
        refine awp_reg_seq fun K hK => ?_
        simp [go_sem, c0, d0, c1, d1, c2, d2]
        repeat refine ⟨by omega, ?_⟩
        refine hK _ ?_; clear hK K
        refine awp_freeze (σ.length) (by simp [go_sem]; first | exact ⟨rfl, rfl, rfl⟩ | exact ⟨rfl, rfl⟩ | rfl) (by simp [go_sem]; rfl) (by simp [go_sem, hwf.frz, hwf.frz0]; rfl) ?_
        refine awp_ret ?_
        rw [hz]; simp [go_sem, Tryz.results15, hkk]
theorem policy_Grounds_cs (σ : List Blk) (c : Option Nat) (n : Nat) (g : Nat → Row) (p : Pol) (u d : Int) (hn : n < 1000000000) (hp : PolOk p) (hσ : σ[0]? = some (.loc 0)) : CSF Tryz.prog 25 [.d (SL c 3 Row.enc n g), .agg (p.enc.map .d), .d (I u), .d (I d)] σ (.tup [.d (SL none 4 Ground.enc (grdR n g p u d).1.length (nth (grdR n g p u d).1)), .d (I (grdR n g p u d).2)]) := by
  refine CSF.of_body T.en25 Tryz.func25 rfl (by simp [Tryz.ntmps25]) (by simp [go_sem]) fun hwf => ?_
  refine awp_reg_seq fun K hK => ?_
  simp [go_sem, Tryz.ntmps25]
  repeat refine ⟨by omega, ?_⟩
  refine hK _ ?_; clear hK K
  refine awp_seq ?_
  refine awp_reg_seq fun K hK => ?_
  simp [go_sem]
  repeat refine ⟨by omega, ?_⟩
  refine CSk.mk (policy_asked_cs _ c n g p 1 u d hn hp (loc_app hσ)) ?_
  simp [go_sem]
  repeat refine ⟨by omega, ?_⟩
  refine hK _ ?_; clear hK K
  refine awp_reg_seq fun K hK => ?_
  simp [go_sem]
  repeat refine ⟨by omega, ?_⟩
  refine hK _ ?_; clear hK K
  refine awp_forget [0, 2, 3, 5, 10, 17] (by simp only [restr, List.contains_cons, List.contains_nil, Nat.reduceBEq, Bool.or_false, Bool.or_true, Bool.true_or, Bool.false_or, if_true, if_false, Bool.false_eq_true]; rfl) ?_
  refine awp_cond rfl (fun c0 => ?_) (fun c0 => ?_)
  · have d0 := c0; try simp at d0
    have hz : grdR n g p u d = ([], askR n g p 1 u d) := by unfold grdR; rw [if_pos d0]
    refine awp_reg_seq fun K hK => ?_
    simp [go_sem, c0, d0]
    repeat refine ⟨by omega, ?_⟩
    refine hK _ ?_; clear hK K
    refine awp_ret ?_
    rw [hz]; simp [go_sem, Tryz.results25]
  · have d0 := c0; try simp at d0
    have hz : grdR n g p u d = (wayG n g p u d, 0) := by unfold grdR; rw [if_neg (by simp [d0])]
    refine awp_skip ?_
    refine awp_reg_seq fun K hK => ?_
    simp [go_sem, c0, d0]
    repeat refine ⟨by omega, ?_⟩
    refine CSk.mk (policy_grounds_cs _ c n g p u d (rows_le (ask_zero d0).1) hp (ask_zero d0).1 (loc_app hσ)) ?_
    simp [go_sem, c0, d0]
    repeat refine ⟨by omega, ?_⟩
    refine hK _ ?_; clear hK K
    refine awp_ret ?_
    rw [hz]; simp [go_sem, Tryz.results25]
theorem policy_Decide_cs (σ : List Blk) (c : Option Nat) (n : Nat) (g : Nat → Row) (p : Pol) (r u d : Int) (hn : n < 1000000000) (hp : PolOk p) (hσ : σ[0]? = some (.loc 0)) : CSF Tryz.prog 22 [.d (SL c 3 Row.enc n g), .agg (p.enc.map .d), .d (I r), .d (I u), .d (I d)] σ (.tup [.agg ((decideR n g p r u d).1.enc.map .d), .d (I (decideR n g p r u d).2)]) := by
  refine CSF.of_body T.en22 Tryz.func22 rfl (by simp [Tryz.ntmps22]) (by simp [go_sem]) fun hwf => ?_
  refine awp_reg_seq fun K hK => ?_
  simp [go_sem, Tryz.ntmps22]
  repeat refine ⟨by omega, ?_⟩
  refine hK _ ?_; clear hK K
  refine awp_seq ?_
  refine awp_reg_seq fun K hK => ?_
  simp [go_sem]
  repeat refine ⟨by omega, ?_⟩
  refine CSk.mk (policy_asked_cs _ c n g p r u d hn hp (loc_app hσ)) ?_
  simp [go_sem]
  repeat refine ⟨by omega, ?_⟩
  refine hK _ ?_; clear hK K
  refine awp_reg_seq fun K hK => ?_
  simp [go_sem]
  repeat refine ⟨by omega, ?_⟩
  refine hK _ ?_; clear hK K
  refine awp_forget [0, 2, 3, 4, 6, 10, 12, 20] (by simp only [restr, List.contains_cons, List.contains_nil, Nat.reduceBEq, Bool.or_false, Bool.or_true, Bool.true_or, Bool.false_or, if_true, if_false, Bool.false_eq_true]; rfl) ?_
  refine awp_cond rfl (fun c0 => ?_) (fun c0 => ?_)
  · have d0 := c0; try simp at d0
    have hz : decideR n g p r u d = (Acc.zero, askR n g p r u d) := by unfold decideR; rw [if_pos d0]
    refine awp_reg_seq fun K hK => ?_
    simp [go_sem, c0, d0]
    repeat refine ⟨by omega, ?_⟩
    refine hK _ ?_; clear hK K
    refine awp_ret ?_
    rw [hz]; simp [go_sem, Tryz.results22, Acc.zero]
  · have d0 := c0; try simp at d0
    have hz : decideR n g p r u d = (decW n g p r u d, 0) := by unfold decideR; rw [if_neg (by simp [d0])]
    refine awp_skip ?_
    refine awp_reg_seq fun K hK => ?_
    simp [go_sem, c0, d0]
    repeat refine ⟨by omega, ?_⟩
    refine CSk.mk (policy_decide_cs _ c n g p r u d hp (ask_zero d0).1 (loc_app hσ)) ?_
    simp [go_sem, c0, d0]
    repeat refine ⟨by omega, ?_⟩
    refine hK _ ?_; clear hK K
    refine awp_ret ?_
    rw [hz]; simp [go_sem, Tryz.results22]
theorem policy_Verify_cs (σ : List Blk) (c : Option Nat) (n : Nat) (g : Nat → Row) (p : Pol) (x : Acc) (hn : n < 1000000000) (hp : PolOk p) (hx : x.nr < 1000000000) (hσ : σ[0]? = some (.loc 0)) : CSF Tryz.prog 23 [.d (SL c 3 Row.enc n g), .agg (p.enc.map .d), .agg (x.enc.map .d)] σ (.d (I (verR n g p x))) := by
  refine CSF.of_body T.en23 Tryz.func23 rfl (by simp [Tryz.ntmps23]) (by simp [go_sem]) fun hwf => ?_
  refine awp_reg_seq fun K hK => ?_
  simp [go_sem, Tryz.ntmps23]
  repeat refine ⟨by omega, ?_⟩
  refine hK _ ?_; clear hK K
  refine awp_seq ?_
  refine awp_reg_seq fun K hK => ?_
  simp [go_sem]
  repeat refine ⟨by omega, ?_⟩
  refine CSk.mk (policy_asked_cs _ c n g p x.Reader x.Unit x.Day hn hp (loc_app hσ)) ?_
  simp [go_sem]
  repeat refine ⟨by omega, ?_⟩
  refine hK _ ?_; clear hK K
  refine awp_reg_seq fun K hK => ?_
  simp [go_sem]
  repeat refine ⟨by omega, ?_⟩
  refine hK _ ?_; clear hK K
  refine awp_forget [0, 4, 5, 7, 19] (by simp only [restr, List.contains_cons, List.contains_nil, Nat.reduceBEq, Bool.or_false, Bool.or_true, Bool.true_or, Bool.false_or, if_true, if_false, Bool.false_eq_true]; rfl) ?_
  refine awp_cond rfl (fun c0 => ?_) (fun c0 => ?_)
  · have d0 := c0; try simp at d0
    have hz : verR n g p x = askR n g p x.Reader x.Unit x.Day := by unfold verR; rw [if_pos d0]
    refine awp_reg_seq fun K hK => ?_
    simp [go_sem, c0, d0]
    repeat refine ⟨by omega, ?_⟩
    refine hK _ ?_; clear hK K
    refine awp_ret ?_
    rw [hz]; simp [go_sem, Tryz.results23]
  · have d0 := c0; try simp at d0
    refine awp_skip ?_
    refine awp_seq ?_
    refine awp_reg_seq fun K hK => ?_
    simp [go_sem, c0, d0]
    repeat refine ⟨by omega, ?_⟩
    refine CSk.mk (policy_decide_cs _ c n g p x.Reader x.Unit x.Day hp (ask_zero d0).1 (loc_app hσ)) ?_
    simp [go_sem, c0, d0]
    repeat refine ⟨by omega, ?_⟩
    refine hK _ ?_; clear hK K
    refine awp_reg_seq fun K hK => ?_
    simp [go_sem, c0, d0]
    repeat refine ⟨by omega, ?_⟩
    refine CSm.mk (equalReason_cs _ none none x.nr (decW n g p x.Reader x.Unit x.Day).nr x.rs (decW n g p x.Reader x.Unit x.Day).rs hx (by have := decW_nr hp (ask_zero d0).1 x.Reader x.Unit x.Day; omega)) ?_
    simp [go_sem, c0, d0]
    repeat refine ⟨by omega, ?_⟩
    refine hK _ ?_; clear hK K
    refine awp_forget [42] (by simp only [restr, List.contains_cons, List.contains_nil, Nat.reduceBEq, Bool.or_false, Bool.or_true, Bool.true_or, Bool.false_or, if_true, if_false, Bool.false_eq_true]; rfl) ?_
    refine awp_cond rfl (fun c1 => ?_) (fun c1 => ?_)
    · have d1 := c1; try simp at d1
      have hz : verR n g p x = 14 := by unfold verR; rw [if_neg (by simp [d0]), if_pos d1]
      refine awp_reg_seq fun K hK => ?_
      simp [go_sem, c0, d0, c1, d1]
      repeat refine ⟨by omega, ?_⟩
      refine hK _ ?_; clear hK K
      refine awp_ret ?_
      rw [hz]; simp [go_sem, Tryz.results23]
    · have d1 := c1; try simp at d1
      have hz : verR n g p x = 0 := by
        unfold verR; rw [if_neg (by simp [d0]), if_neg]
        rintro (h | h)
        · exact h d1.1
        · have := d1.2; rw [h] at this; cases this
      refine awp_skip ?_
      refine awp_reg_seq fun K hK => ?_
      simp [go_sem, c0, d0, c1, d1]
      repeat refine ⟨by omega, ?_⟩
      refine hK _ ?_; clear hK K
      refine awp_ret ?_
      rw [hz]; simp [go_sem, Tryz.results23]
end Go.Proofs.YtkochmppmpmddaaGreat

/-! Dj -/
namespace Go.Proofs.YtkochmppmpmddaaGreat
open Go.Abs Go.Arch
set_option linter.unusedVariables false
set_option linter.unusedSimpArgs false
set_option maxRecDepth 100000
set_option maxHeartbeats 1000000
theorem firstR_no {N : Nat} {G : Nat → Pmt} {r : Int} {n : Nat} {g : Nat → Int} {k d : Int} (h : (firstR N G r n g k d).2 = false) : (firstR N G r n g k d).1 = 0 := by
  unfold firstR at h ⊢
  split
  · rfl
  · rename_i hn; rw [if_neg hn] at h; cases h
theorem cat_app {α : Type} [Inhabited α] {enc : α → List D} {l m : List α} {q : Nat} (hq : q < l.length + m.length) : catRows l.length (fun i => enc (nth l i)) (fun i => enc (nth m i)) q = enc (nth (l ++ m) q) := by
  unfold catRows
  by_cases h : q < l.length
  · rw [if_pos h]; simp [nth, List.getElem?_append_left h]
  · rw [if_neg h]; simp [nth, List.getElem?_append_right (Nat.le_of_not_lt h)]
def visF (n : Nat) (f : Nat → Bool) (g : Nat → Row) (i : Nat) : List Int := if f i = true then [(g i).Unit] else []
theorem visF_len (n : Nat) (f : Nat → Bool) (g : Nat → Row) (i : Nat) : (visF n f g i).length ≤ 1 := by unfold visF; split <;> simp
noncomputable def visR (n : Nat) (g : Nat → Row) (p : Pol) (r d : Int) : List Int × Int := if rowsChk n g ≠ 0 ∨ polChk p ≠ 0 then ([], 1) else if idOk r = false ∨ d < 0 ∨ 1048575 < d then ([], 2)
  else (gather (visF n (fun i => (decW n g p r (g i).Unit d).Granted) g) n, 0)
theorem subs_uniq {p : Pol} (h : subChk p = 0) {i j : Nat} (hi : i < p.ns) (hj : j < p.ns) (he : (p.gs i).Unit = (p.gs j).Unit) : i = j := by
  have h1 : ∀ i, i < p.ns → 0 < i → (p.gs (i - 1)).Unit < (p.gs i).Unit := fun i hi hp => by
    unfold subChk at h
    split at h
    · omega
    have := firstE_zero h i (by omega) (by omega)
    unfold subE at this
    split at this
    · omega
    split at this
    · omega
    split at this
    · omega
    rename_i h3
    apply Classical.byContradiction
    intro hn
    exact h3 (.inl ⟨hp, by omega⟩)
  have h2 : ∀ i, i < p.ns → ∀ j, j < i → (p.gs j).Unit < (p.gs i).Unit := by
    intro i
    induction i with
    | zero => intro _ j hj; omega
    | succ i ih =>
      intro hi j hj
      have h3 := h1 (i + 1) hi (by omega)
      simp only [Nat.add_sub_cancel] at h3
      rcases Nat.lt_or_eq_of_le (Nat.le_of_lt_succ hj) with h | h
      · have := ih (by omega) j h; omega
      · rw [h]; exact h3
  rcases Nat.lt_trichotomy i j with h3 | h3 | h3
  · have := h2 j hj i h3; omega
  · exact h3
  · have := h2 i hi j h3; omega
theorem findS_ge (n : Nat) (g : Nat → Sbj) (u : Int) : -1 ≤ findS n g u := by
  rcases idx_spec (fun r : Sbj => r.Unit == u) (lst n g) 0 with ⟨h2, _⟩ | ⟨q, h2, h3, _⟩ <;> unfold findS <;> omega
theorem findS_at {n : Nat} {g : Nat → Sbj} {u : Int} (h : 0 ≤ findS n g u) : (findS n g u).toNat < n ∧ (g (findS n g u).toNat).Unit = u := by
  have h1 := findS_lt n g u
  refine ⟨by omega, ?_⟩
  rcases idx_spec (fun r : Sbj => r.Unit == u) (lst n g) 0 with ⟨h2, _⟩ | ⟨q, h2, h3, x, h4, h5, _⟩
  · unfold findS at h; omega
  · have e : (findS n g u).toNat = q := by unfold findS; rw [h3]; omega
    rw [lst_length] at h2
    rw [lst_get h2] at h4
    rw [e]; cases h4; simpa using h5
theorem findS_is {p : Pol} (h : subChk p = 0) {i : Nat} (hi : i < p.ns) : findS p.ns p.gs (p.gs i).Unit = (i : Int) := by
  have h1 : 0 ≤ findS p.ns p.gs (p.gs i).Unit := by
    rcases idx_spec (fun r : Sbj => r.Unit == (p.gs i).Unit) (lst p.ns p.gs) 0 with ⟨h2, h3⟩ | ⟨q, h2, h3, _⟩
    · have := h3 (p.gs i) (by simp only [lst, List.mem_map, List.mem_range]; exact ⟨i, hi, rfl⟩)
      simp at this
    · unfold findS; omega
  obtain ⟨h2, h3⟩ := findS_at h1
  have := subs_uniq h h2 hi h3
  omega
theorem pol_parts {p : Pol} (h : polChk p = 0) : check p.nc p.gc = 0 ∧ prsChk p.np p.gp = 0 ∧ agrChk p.na p.ga = 0 ∧ pmtChk p.nm p.gm = 0 ∧ 0 ≤ p.Years ∧ p.Years ≤ 200 ∧ subChk p = 0 := by
  unfold polChk at h
  split at h
  · exact absurd h (by assumption)
  rename_i h1
  split at h
  · omega
  have h1 := Decidable.not_not.1 h1
  exact ⟨firstE_zero h1 0 (by omega) (by omega), firstE_zero h1 1 (by omega) (by omega), firstE_zero h1 2 (by omega) (by omega), firstE_zero h1 3 (by omega) (by omega), by omega, by omega, h⟩
theorem sub_class {p : Pol} (h : subChk p = 0) {i : Nat} (hi : i < p.ns) : 0 ≤ (p.gs i).Class := by
  unfold subChk at h
  split at h
  · omega
  have := firstE_zero h i (by omega) (by omega)
  unfold subE at this
  split at this
  · omega
  · omega
def subsG (p : Pol) (r : Row) (d : Int) (i : Nat) : List Ground := if 0 ≤ findS p.ns p.gs r.Unit ∧ findS p.ns p.gs r.Unit < i then clsG p r d 0 ++ clsG p r d 1 else []
theorem subsG_succ {p : Pol} (h : subChk p = 0) {r : Row} {d : Int} {i : Nat} (hi : i < p.ns) : subsG p r d (i + 1) = if (p.gs i).Unit = r.Unit then clsG p r d 0 ++ clsG p r d 1 else subsG p r d i := by
  unfold subsG
  by_cases he : (p.gs i).Unit = r.Unit
  · have := findS_is h hi
    rw [he] at this
    rw [if_pos he, if_pos (by omega)]
  · rw [if_neg he]
    have hne : findS p.ns p.gs r.Unit ≠ i := fun hf => by
      have := findS_at (n := p.ns) (g := p.gs) (u := r.Unit) (by omega)
      rw [hf] at this
      exact he (by simpa using this.2)
    by_cases h2 : 0 ≤ findS p.ns p.gs r.Unit ∧ findS p.ns p.gs r.Unit < (i : Int)
    · rw [if_pos h2, if_pos (by omega)]
    · rw [if_neg h2, if_neg (by omega)]
theorem subsG_here {p : Pol} (h : subChk p = 0) {r : Row} {d : Int} {i : Nat} (hi : i < p.ns) (he : (p.gs i).Unit = r.Unit) : subsG p r d i = [] ∧ (subjR p r.Unit).1 = p.gs i := by
  have := findS_is h hi
  rw [he] at this
  unfold subsG subjR
  rw [if_neg (by omega), if_neg (by omega), this]
  exact ⟨rfl, by simp⟩
theorem subsG_all {p : Pol} (r : Row) (d : Int) : subsG p r d p.ns = clsG p r d 0 ++ clsG p r d 1 := by
  unfold subsG
  have h1 := findS_lt p.ns p.gs r.Unit
  by_cases h0 : 0 ≤ findS p.ns p.gs r.Unit
  · rw [if_pos ⟨h0, h1⟩]
  · rw [if_neg (by omega)]
    have hs : (subjR p r.Unit).1 = Sbj.zero := by unfold subjR; rw [if_pos (by omega)]
    rw [clsG_0, clsG_1, hs, if_neg (by simp [Sbj.zero])]
    have : (prsGr p.np p.gp Sbj.zero.np Sbj.zero.ps Sbj.zero.Made p.Years d).1.length ≤ 0 := prsGr_len _ _ _ _ _ _ _
    rw [List.eq_nil_of_length_eq_zero (Nat.le_zero.1 this)]
    rfl
theorem rowG_eq (p : Pol) (d : Int) (r : Row) : rowG p d r = (clsG p r d 0 ++ clsG p r d 1 ++ clsG p r d 2).map (setU r.Unit) := by
  unfold rowG gather clsU
  simp [gather]
theorem policy_Visible_cs (σ : List Blk) (c : Option Nat) (n : Nat) (g : Nat → Row) (p : Pol) (r d : Int) (hn : n < 1000000000) (hp : PolOk p) (hσ : σ[0]? = some (.loc 0)) : CSF Tryz.prog 33 [.d (SL c 3 Row.enc n g), .agg (p.enc.map .d), .d (I r), .d (I d)] σ (.tup [.d (SL none 1 encI (visR n g p r d).1.length (nth (visR n g p r d).1)), .d (I (visR n g p r d).2)]) := by
  refine CSF.of_body T.en33 Tryz.func33 rfl (by simp [Tryz.ntmps33]) (by simp [go_sem]) fun hwf => ?_
  refine awp_reg_seq fun K hK => ?_
  simp [go_sem, Tryz.ntmps33]
  repeat refine ⟨by omega, ?_⟩
  refine hK _ ?_; clear hK K
  refine awp_seq ?_
  refine awp_block ?_
  refine awp_reg_seq fun K hK => ?_
  simp [go_sem]
  repeat refine ⟨by omega, ?_⟩
  refine CSk.mk (policy_Rows_cs _ c n g hn) ?_
  simp [go_sem]
  repeat refine ⟨by omega, ?_⟩
  refine CSm.mk (policy_Check_cs _ p hp (loc_app hσ)) ?_
  simp [go_sem]
  repeat refine ⟨by omega, ?_⟩
  refine hK _ ?_; clear hK K
  refine awp_forget [0, 2, 3, 5, 13] (by simp only [restr, List.contains_cons, List.contains_nil, Nat.reduceBEq, Bool.or_false, Bool.or_true, Bool.true_or, Bool.false_or, if_true, if_false, Bool.false_eq_true]; rfl) ?_
  refine awp_cond rfl (fun c0 => ?_) (fun c0 => ?_)
  · have d0 := c0; try simp at d0
    have hz : visR n g p r d = ([], 1) := by unfold visR; rw [if_pos d0]
    refine awp_reg_seq fun K hK => ?_
    simp [go_sem, c0, d0]
    repeat refine ⟨by omega, ?_⟩
    refine hK _ ?_; clear hK K
    refine awp_ret ?_
    rw [hz]; simp [go_sem, Tryz.results33]
  · have d0 := c0; try simp at d0
    have hd0 : ¬(rowsChk n g ≠ 0 ∨ polChk p ≠ 0) := by omega
    refine awp_reg_seq fun K hK => ?_
    simp [go_sem, c0, d0]
    repeat refine ⟨by omega, ?_⟩
    refine CSk.mk (policy_id_cs _ r) ?_
    simp [go_sem, c0, d0]
    repeat refine ⟨by omega, ?_⟩
    refine hK _ ?_; clear hK K
    refine awp_forget [0, 2, 3, 5, 22] (by simp only [restr, List.contains_cons, List.contains_nil, Nat.reduceBEq, Bool.or_false, Bool.or_true, Bool.true_or, Bool.false_or, if_true, if_false, Bool.false_eq_true]; rfl) ?_
    refine awp_cond rfl (fun c1 => ?_) (fun c1 => ?_)
    · have d1 := c1; try simp at d1
      have hz : visR n g p r d = ([], 2) := by unfold visR; rw [if_neg hd0, if_pos (by simpa [or_assoc] using d1)]
      refine awp_reg_seq fun K hK => ?_
      simp [go_sem, c0, d0, c1, d1]
      repeat refine ⟨by omega, ?_⟩
      refine hK _ ?_; clear hK K
      refine awp_ret ?_
      rw [hz]; simp [go_sem, Tryz.results33]
    · have d1 := c1; try simp at d1
      have hd1 : ¬(idOk r = false ∨ d < 0 ∨ 1048575 < d) := by
        rintro (h | h | h)
        · have := d1.1.1; rw [h] at this; cases this
        · omega
        · omega
      have hz : visR n g p r d = (gather (visF n (fun i => (decW n g p r (g i).Unit d).Granted) g) n, 0) := by unfold visR; rw [if_neg hd0, if_neg hd1]
      refine awp_skip ?_
      refine awp_reg_seq fun K hK => ?_
      simp [go_sem, c0, d0, c1, d1]
      repeat refine ⟨by omega, ?_⟩
      refine hK _ ?_; clear hK K
      refine awp_seq ?_
      refine awp_thawT 10 1 (fun i => encI (nth ([] : List Int) i)) (by simp [go_sem]) (by simp [go_sem]; rfl) ?_
      refine awp_reg_seq fun K hK => ?_
      simp [go_sem, c0, d0, c1, d1]
      repeat refine ⟨by omega, ?_⟩
      refine hK _ ?_; clear hK K
      refine awp_block ?_
      refine awp_forget [0, 2, 3, 5, 10, 34, 35, 36] (by simp [go_sem, restr]; rfl) ?_
      refine awp_mv [σ.length + 1] (by simp) ?_
      refine awp_loopU (α := Nat) (fun i => [(10, .ms (σ.length + 1) 1 0 (gather (visF n (fun i => (decW n g p r (g i).Unit d).Granted) g) i).length), (36, .d (I i))]) (fun i => σ ++ [.var (p.enc.map .d), .arr 1 (gather (visF n (fun i => (decW n g p r (g i).Unit d).Granted) g) i).length (fun q => encI (nth (gather (visF n (fun i => (decW n g p r (g i).Unit d).Granted) g) i) q))]) (fun i => i ≤ n) (fun i => n - i) 0 (by simp [go_sem, gather]) rfl (by simp) ?_
      rintro i hi
      refine awp_reg_seq fun K hK => ?_
      simp [go_sem, c0, d0, c1, d1]
      repeat refine ⟨by omega, ?_⟩
      refine hK _ ?_; clear hK K
      refine awp_seq ?_
      refine awp_forget [0, 2, 3, 5, 10, 34, 35, 36, 37] (by simp only [restr, List.contains_cons, List.contains_nil, Nat.reduceBEq, Bool.or_false, Bool.or_true, Bool.true_or, Bool.false_or, if_true, if_false, Bool.false_eq_true]; rfl) ?_
      refine awp_cond rfl (fun c2 => ?_) (fun c2 => ?_)
      · have d2 := c2; try simp at d2
        have hl := gather_len (visF_len n (fun i => (decW n g p r (g i).Unit d).Granted) g) i
        refine awp_skip ?_
        refine awp_seq ?_
        refine awp_block ?_
        refine awp_reg_seq fun K hK => ?_
        simp [go_sem, c0, d0, c1, d1, c2, d2]
        repeat refine ⟨by omega, ?_⟩
        refine hK _ ?_; clear hK K
        refine awp_reg_seq fun K hK => ?_
        simp [go_sem, c0, d0, c1, d1, c2, d2]
        repeat refine ⟨by omega, ?_⟩
        refine CSk.mk (policy_decide_cs _ c n g p r (g i).Unit d hp d0.1 (loc_app hσ)) ?_
        simp [go_sem, c0, d0, c1, d1, c2, d2]
        repeat refine ⟨by omega, ?_⟩
        refine hK _ ?_; clear hK K
        refine awp_forget [0, 2, 3, 5, 10, 12, 34, 35, 36, 47] (by simp only [restr, List.contains_cons, List.contains_nil, Nat.reduceBEq, Bool.or_false, Bool.or_true, Bool.true_or, Bool.false_or, if_true, if_false, Bool.false_eq_true]; rfl) ?_
        refine awp_cond rfl (fun c3 => ?_) (fun c3 => ?_)
        · have d3 := c3; try simp at d3
          have ha : gather (visF n (fun i => (decW n g p r (g i).Unit d).Granted) g) (i + 1) = gather (visF n (fun i => (decW n g p r (g i).Unit d).Granted) g) i ++ [(g i).Unit] := by rw [gather, visF, if_pos d3]
          refine awp_reg_end fun K hK => ?_
          simp [go_sem, c0, d0, c1, d1, c2, d2, c3, d3, ha, hwf.one, hwf.zero]
          repeat refine ⟨by omega, ?_⟩
          refine hK _ ?_; clear hK K
          refine awp_rows (σ.length + 1) (fun q => encI (nth (gather (visF n (fun i => (decW n g p r (g i).Unit d).Granted) g) i ++ [(g i).Unit]) q)) (by simp [go_sem]; first | exact ⟨rfl, rfl, rfl⟩ | exact ⟨rfl, rfl⟩ | rfl) (by exact fun q hq => cat_nth (enc := encI) (x := (g i).Unit) rfl hq) (by simp [go_sem]; rfl) ?_
          refine awp_reg_end fun K hK => ?_
          simp [go_sem, c0, d0, c1, d1, c2, d2, c3, d3, ha]
          try simp (disch := omega) only [wrapI]
          repeat refine ⟨by omega, ?_⟩
          refine hK _ ?_; clear hK K
          refine ⟨i + 1, back_of' (by simp [go_sem, wrap_succ (i := i) (by omega), c0, d0, c1, d1, c2, d2, c3, d3, ha]) ((leaves_app (by simp [go_sem]))) (by (simp [go_sem, wrap_succ (i := i) (by omega), c0, d0, c1, d1, c2, d2, c3, d3, ha] <;> omega)), by omega, by first | omega | (dsimp only; omega)⟩
        · have d3 := c3; try simp at d3
          have ha : gather (visF n (fun i => (decW n g p r (g i).Unit d).Granted) g) (i + 1) = gather (visF n (fun i => (decW n g p r (g i).Unit d).Granted) g) i := by rw [gather, visF, if_neg (by simp [d3])]; simp
          refine awp_skip ?_
          refine awp_reg_end fun K hK => ?_
          simp [go_sem, c0, d0, c1, d1, c2, d2, c3, d3, ha]
          try simp (disch := omega) only [wrapI]
          repeat refine ⟨by omega, ?_⟩
          refine hK _ ?_; clear hK K
          refine ⟨i + 1, back_of' (by simp [go_sem, wrap_succ (i := i) (by omega), c0, d0, c1, d1, c2, d2, c3, d3, ha]) ((leaves_app (by simp [go_sem]))) (by (simp [go_sem, wrap_succ (i := i) (by omega), c0, d0, c1, d1, c2, d2, c3, d3, ha] <;> omega)), by omega, by first | omega | (dsimp only; omega)⟩
      · have d2 := c2; try simp at d2
        have hin : i = n := by omega
        refine awp_exit ?_
        refine awp_reg_seq fun K hK => ?_
        simp [go_sem, c0, d0, c1, d1, c2, d2]
        repeat refine ⟨by omega, ?_⟩
        refine hK _ ?_; clear hK K
        refine awp_freeze (σ.length + 1) (by simp [go_sem]; first | exact ⟨rfl, rfl, rfl⟩ | exact ⟨rfl, rfl⟩ | rfl) (by simp [go_sem]; rfl) (by simp [go_sem, hwf.frz, hwf.frz0]; rfl) ?_
        refine awp_ret ?_
        rw [hz]; simp [go_sem, Tryz.results33, hin]
end Go.Proofs.YtkochmppmpmddaaGreat

/-! Dk -/
namespace Go.Proofs.YtkochmppmpmddaaGreat
open Go.Abs Go.Arch
set_option linter.unusedVariables false
set_option linter.unusedSimpArgs false
set_option maxRecDepth 100000
set_option maxHeartbeats 1000000
theorem cat_app' {α : Type} [Inhabited α] {enc : α → List D} {l m : List α} {n q : Nat} (hn : n = l.length) (hq : q < n + m.length) : catRows n (fun i => enc (nth l i)) (fun i => enc (nth m i)) q = enc (nth (l ++ m) q) := by
  subst hn; exact cat_app hq
theorem nth_map {α β : Type} [Inhabited α] [Inhabited β] (f : α → β) {L : List α} {i : Nat} (h : i < L.length) : nth (L.map f) i = f (nth L i) := by simp [nth, h]
theorem set_step (B : List Ground) (u : Int) {j q : Nat} : (if q = j then [I (nth B j).Kind, I (nth B j).Source, I u, I (nth B j).Until] else if q < j then Ground.enc (setU u (nth B q)) else Ground.enc (nth B q)) = if q < j + 1 then Ground.enc (setU u (nth B q)) else Ground.enc (nth B q) := by
  by_cases h : q = j
  · rw [if_pos h, if_pos (by omega), h]; rfl
  · rw [if_neg h]
    by_cases h2 : q < j
    · rw [if_pos h2, if_pos (by omega)]
    · rw [if_neg h2, if_neg (by omega)]
def ruleR (p : Pol) (k : Int) : Rule × Bool := if idxFrom (fun r => r.ID == k) (lst p.nc p.gc) 0 < 0 then (Rule.zero, false) else (p.gc (idxFrom (fun r => r.ID == k) (lst p.nc p.gc) 0).toNat, true)
noncomputable def sameB (x y : Acc) : Bool := decide (x.Reader = y.Reader) && decide (x.Unit = y.Unit) && decide (x.Day = y.Day) && decide (x.Granted = y.Granted) && eqL (lst x.nr x.rs) (lst y.nr y.rs)
def polFew (n : Nat) (p : Pol) : Bool := ((lst p.ns p.gs).all fun s => decide (s.np ≤ 20)) && decide (n ≤ 30) && decide (p.ns ≤ 30) && decide (p.nc ≤ 20) && prsFew p.np p.gp && decide (p.na ≤ 20) && decide (p.nm ≤ 20)
theorem ref35_alone_cs (σ : List Blk) (c : Option Nat) (n : Nat) (g : Nat → Row) (p : Pol) (k : Nat) (d : Int) (hr : rowsChk n g = 0) (hp : PolOk p) (hc : polChk p = 0) (hk : k < n) : CSF Tryz.prog 67 [.d (SL c 3 Row.enc n g), .agg (p.enc.map .d), .d (I (g k).Unit), .d (I d)] σ (.d (SL none 4 Ground.enc (rowG p d (g k)).length (nth (rowG p d (g k))))) := by
  obtain ⟨hc1, hc2, hc3, hc4, hy1, hy2, hsc⟩ := pol_parts hc
  have hn := rows_le hr
  have hfk := (rows_good hr).1.find hk
  have hrk := (rows_good hr).1.ok k hk
  simp [rowOk, idOk] at hrk
  have hl0 := clsG_len hp (g k) d 0
  have hl1 := clsG_len hp (g k) d 1
  have hl2 := clsG_len hp (g k) d 2
  have hs0 : subsG p (g k) d 0 = [] := by unfold subsG; rw [if_neg (by omega)]
  have hsl : ∀ i, (subsG p (g k) d i).length ≤ 2000 := fun i => by
    unfold subsG; split
    · simp; omega
    · simp
  refine CSF.of_body T.en67 Tryz.func67 rfl (by simp [Tryz.ntmps67]) (by simp [go_sem]) fun hwf => ?_
  refine awp_reg_seq fun K hK => ?_
  simp [go_sem, Tryz.ntmps67]
  repeat refine ⟨by omega, ?_⟩
  refine hK _ ?_; clear hK K
  refine awp_reg_seq fun K hK => ?_
  simp [go_sem]
  repeat refine ⟨by omega, ?_⟩
  refine hK _ ?_; clear hK K
  refine awp_seq ?_
  refine awp_thawT 9 4 (fun i => Ground.enc (nth ([] : List Ground) i)) (by simp [go_sem]) (by simp [go_sem]; rfl) ?_
  refine awp_reg_seq fun K hK => ?_
  simp [go_sem]
  repeat refine ⟨by omega, ?_⟩
  refine hK _ ?_; clear hK K
  refine awp_block ?_
  refine awp_forget [0, 2, 3, 5, 9, 19, 20, 21] (by simp [go_sem, restr]; rfl) ?_
  refine awp_mv [σ.length + 1] (by simp) ?_
  refine awp_loopU (α := Nat) (fun i => [(9, .ms (σ.length + 1) 4 0 (subsG p (g k) d i).length), (21, .d (I i))]) (fun i => σ ++ [.var (p.enc.map .d), .arr 4 (subsG p (g k) d i).length (fun q => Ground.enc (nth (subsG p (g k) d i) q))]) (fun i => i ≤ p.ns) (fun i => p.ns - i) 0 (by simp [go_sem, hs0]) (by simp [hs0, Pol.enc, Ground.enc]) (by simp) ?_
  rintro i hi
  refine awp_reg_seq fun K hK => ?_
  simp [go_sem]
  repeat refine ⟨by omega, ?_⟩
  refine hK _ ?_; clear hK K
  refine awp_seq ?_
  refine awp_forget [0, 2, 3, 5, 9, 19, 20, 21, 22] (by simp only [restr, List.contains_cons, List.contains_nil, Nat.reduceBEq, Bool.or_false, Bool.or_true, Bool.true_or, Bool.false_or, if_true, if_false, Bool.false_eq_true]; rfl) ?_
  refine awp_cond rfl (fun c0 => ?_) (fun c0 => ?_)
  · have d0 := c0; try simp at d0
    have hsi := hsl i
    refine awp_skip ?_
    refine awp_seq ?_
    refine awp_block ?_
    refine awp_reg_seq fun K hK => ?_
    simp [go_sem, c0, d0]
    repeat refine ⟨by omega, ?_⟩
    refine hK _ ?_; clear hK K
    refine awp_seq ?_
    refine awp_reg_seq fun K hK => ?_
    simp [go_sem, c0, d0]
    repeat refine ⟨by omega, ?_⟩
    refine hK _ ?_; clear hK K
    refine awp_forget [0, 2, 3, 5, 9, 11, 19, 20, 21, 28] (by simp only [restr, List.contains_cons, List.contains_nil, Nat.reduceBEq, Bool.or_false, Bool.or_true, Bool.true_or, Bool.false_or, if_true, if_false, Bool.false_eq_true]; rfl) ?_
    refine awp_cond rfl (fun c1 => ?_) (fun c1 => ?_)
    · have d1 := c1; try simp at d1
      have he : subsG p (g k) d (i + 1) = subsG p (g k) d i := by rw [subsG_succ hsc (by omega), if_neg d1]
      refine awp_exit ?_
      refine awp_reg_end fun K hK => ?_
      simp [go_sem, c0, d0, c1, d1, he]
      try simp (disch := omega) only [wrapI]
      repeat refine ⟨by omega, ?_⟩
      refine hK _ ?_; clear hK K
      refine ⟨i + 1, back_of' (by simp [go_sem, wrap_succ (i := i) (by have := hp.ns; omega), c0, d0, c1, d1, he]) ((leaves_app (by simp [go_sem]))) (by (simp [go_sem, wrap_succ (i := i) (by have := hp.ns; omega), c0, d0, c1, d1, he] <;> omega)), by omega, by first | omega | (dsimp only; omega)⟩
    · have d1 := c1; try simp at d1
      obtain ⟨hi0, hsub⟩ := subsG_here (d := d) hsc (by omega) d1
      have hi1 := sub_class hsc (i := i) (by omega)
      have hcl1 : (prsGr p.np p.gp (p.gs i).np (p.gs i).ps (p.gs i).Made p.Years d).1 = clsG p (g k) d 1 := by rw [clsG_1, hsub]
      have he0 : subsG p (g k) d (i + 1) = clsG p (g k) d 0 ++ clsG p (g k) d 1 := by rw [subsG_succ hsc (by omega), if_pos d1]
      generalize hA : subsG p (g k) d i = A at hi0 hsi
      refine awp_skip ?_
      refine awp_seq ?_
      refine awp_reg_seq fun K hK => ?_
      simp [go_sem, c0, d0, c1, d1, hcl1, hA]
      repeat refine ⟨by omega, ?_⟩
      refine hK _ ?_; clear hK K
      refine awp_forget [0, 2, 3, 5, 9, 11, 19, 20, 21, 31] (by simp only [restr, List.contains_cons, List.contains_nil, Nat.reduceBEq, Bool.or_false, Bool.or_true, Bool.true_or, Bool.false_or, if_true, if_false, Bool.false_eq_true]; rfl) ?_
      refine awp_cond rfl (fun c2 => ?_) (fun c2 => ?_)
      · have d2 := c2; try simp at d2
        refine awp_reg_seq fun K hK => ?_
        simp [go_sem, c0, d0, c1, d1, hcl1, hA, c2, d2]
        repeat refine ⟨by omega, ?_⟩
        refine CSk.mk (ref31_Closed_cs _ none p.nc p.gc (p.gs i).Class (p.gs i).Made d (by have := hp.nc; omega)) ?_
        simp [go_sem, c0, d0, c1, d1, hcl1, hA, c2, d2]
        repeat refine ⟨by omega, ?_⟩
        refine hK _ ?_; clear hK K
        refine awp_reg_seq fun K hK => ?_
        simp [go_sem, c0, d0, c1, d1, hcl1, hA, c2, d2]
        repeat refine ⟨by omega, ?_⟩
        refine hK _ ?_; clear hK K
        refine awp_forget [0, 2, 3, 5, 9, 11, 12, 19, 20, 21, 43] (by simp only [restr, List.contains_cons, List.contains_nil, Nat.reduceBEq, Bool.or_false, Bool.or_true, Bool.true_or, Bool.false_or, if_true, if_false, Bool.false_eq_true]; rfl) ?_
        refine awp_cond rfl (fun c3 => ?_) (fun c3 => ?_)
        · have d3 := c3; try simp at d3
          have hcl0 : clsG p (g k) d 0 = [(closedR p.nc p.gc (p.gs i).Class (p.gs i).Made d).1] := by rw [clsG_0, hsub, if_pos ⟨d3, by omega⟩]
          obtain ⟨B1, hB1⟩ : ∃ B, B = A ++ [(closedR p.nc p.gc (p.gs i).Class (p.gs i).Made d).1] := ⟨_, rfl⟩
          have hB1l : A.length + 1 = B1.length := by rw [hB1]; simp
          obtain ⟨B2, hB2⟩ : ∃ B, B = B1 ++ clsG p (g k) d 1 := ⟨_, rfl⟩
          have hB2l : B1.length + (clsG p (g k) d 1).length = B2.length := by rw [hB2]; simp
          have he : subsG p (g k) d (i + 1) = B2 := by rw [he0, hB2, hB1, hcl0, hi0]; rfl
          refine awp_reg_end fun K hK => ?_
          simp [go_sem, c0, d0, c1, d1, hcl1, hA, c2, d2, c3, d3, hB1l, hB2l, he, hwf.one, hwf.zero]
          repeat refine ⟨by omega, ?_⟩
          refine hK _ ?_; clear hK K
          refine awp_rows (σ.length + 1) (fun q => Ground.enc (nth B1 q)) (by simp [go_sem]; first | exact ⟨rfl, rfl, rfl⟩ | exact ⟨rfl, rfl⟩ | rfl) (by intro q hq; rw [hB1]; exact cat_nth (enc := Ground.enc) (x := (closedR p.nc p.gc (p.gs i).Class (p.gs i).Made d).1) rfl (by omega)) (by simp [go_sem]; rfl) ?_
          refine awp_reg_seq fun K hK => ?_
          simp [go_sem, c0, d0, c1, d1, hcl1, hA, c2, d2, c3, d3, hB1l, hB2l, he]
          repeat refine ⟨by omega, ?_⟩
          refine CSk.mk (ref32_Grounds_cs _ none p.np p.gp none (p.gs i).np (p.gs i).ps (p.gs i).Made p.Years d (by have := hp.np; omega) (by have := hp.ps i (by omega); omega) hp.nn) ?_
          simp [go_sem, c0, d0, c1, d1, hcl1, hA, c2, d2, c3, d3, hB1l, hB2l, he]
          repeat refine ⟨by omega, ?_⟩
          refine hK _ ?_; clear hK K
          refine awp_reg_end fun K hK => ?_
          simp [go_sem, c0, d0, c1, d1, hcl1, hA, c2, d2, c3, d3, hB1l, hB2l, he, hwf.one, hwf.zero]
          repeat refine ⟨by omega, ?_⟩
          refine hK _ ?_; clear hK K
          refine awp_rows (σ.length + 1) (fun q => Ground.enc (nth B2 q)) (by simp [go_sem]; first | exact ⟨rfl, rfl, rfl⟩ | exact ⟨rfl, rfl⟩ | rfl) (by intro q hq; rw [hB2]; exact cat_app' (enc := Ground.enc) rfl (by omega)) (by simp [go_sem]; rfl) ?_
          refine awp_reg_end fun K hK => ?_
          simp [go_sem, c0, d0, c1, d1, hcl1, hA, c2, d2, c3, d3, hB1l, hB2l, he]
          try simp (disch := omega) only [wrapI]
          repeat refine ⟨by omega, ?_⟩
          refine hK _ ?_; clear hK K
          refine ⟨i + 1, back_of' (by simp [go_sem, wrap_succ (i := i) (by have := hp.ns; omega), c0, d0, c1, d1, hcl1, hA, c2, d2, c3, d3, hB1l, hB2l, he]) ((leaves_app (by simp [go_sem]))) (by (simp [go_sem, wrap_succ (i := i) (by have := hp.ns; omega), c0, d0, c1, d1, hcl1, hA, c2, d2, c3, d3, hB1l, hB2l, he] <;> omega)), by omega, by first | omega | (dsimp only; omega)⟩
        · have d3 := c3; try simp at d3
          have hcl0 : clsG p (g k) d 0 = [] := by rw [clsG_0, hsub, if_neg (by simp [d3])]
          obtain ⟨B2, hB2⟩ : ∃ B, B = A ++ clsG p (g k) d 1 := ⟨_, rfl⟩
          have hB2l : A.length + (clsG p (g k) d 1).length = B2.length := by rw [hB2]; simp
          have he : subsG p (g k) d (i + 1) = B2 := by rw [he0, hB2, hcl0, hi0]
          refine awp_skip ?_
          refine awp_reg_seq fun K hK => ?_
          simp [go_sem, c0, d0, c1, d1, hcl1, hA, c2, d2, c3, d3, hB2l, he]
          repeat refine ⟨by omega, ?_⟩
          refine CSk.mk (ref32_Grounds_cs _ none p.np p.gp none (p.gs i).np (p.gs i).ps (p.gs i).Made p.Years d (by have := hp.np; omega) (by have := hp.ps i (by omega); omega) hp.nn) ?_
          simp [go_sem, c0, d0, c1, d1, hcl1, hA, c2, d2, c3, d3, hB2l, he]
          repeat refine ⟨by omega, ?_⟩
          refine hK _ ?_; clear hK K
          refine awp_reg_end fun K hK => ?_
          simp [go_sem, c0, d0, c1, d1, hcl1, hA, c2, d2, c3, d3, hB2l, he, hwf.one, hwf.zero]
          repeat refine ⟨by omega, ?_⟩
          refine hK _ ?_; clear hK K
          refine awp_rows (σ.length + 1) (fun q => Ground.enc (nth B2 q)) (by simp [go_sem]; first | exact ⟨rfl, rfl, rfl⟩ | exact ⟨rfl, rfl⟩ | rfl) (by intro q hq; rw [hB2]; exact cat_app' (enc := Ground.enc) rfl (by omega)) (by simp [go_sem]; rfl) ?_
          refine awp_reg_end fun K hK => ?_
          simp [go_sem, c0, d0, c1, d1, hcl1, hA, c2, d2, c3, d3, hB2l, he]
          try simp (disch := omega) only [wrapI]
          repeat refine ⟨by omega, ?_⟩
          refine hK _ ?_; clear hK K
          refine ⟨i + 1, back_of' (by simp [go_sem, wrap_succ (i := i) (by have := hp.ns; omega), c0, d0, c1, d1, hcl1, hA, c2, d2, c3, d3, hB2l, he]) ((leaves_app (by simp [go_sem]))) (by (simp [go_sem, wrap_succ (i := i) (by have := hp.ns; omega), c0, d0, c1, d1, hcl1, hA, c2, d2, c3, d3, hB2l, he] <;> omega)), by omega, by first | omega | (dsimp only; omega)⟩
      · have d2 := c2; try simp at d2
        have hcl0 : clsG p (g k) d 0 = [] := by rw [clsG_0, hsub, if_neg (by rintro ⟨_, h⟩; omega)]
        obtain ⟨B2, hB2⟩ : ∃ B, B = A ++ clsG p (g k) d 1 := ⟨_, rfl⟩
        have hB2l : A.length + (clsG p (g k) d 1).length = B2.length := by rw [hB2]; simp
        have he : subsG p (g k) d (i + 1) = B2 := by rw [he0, hB2, hcl0, hi0]
        refine awp_skip ?_
        refine awp_reg_seq fun K hK => ?_
        simp [go_sem, c0, d0, c1, d1, hcl1, hA, c2, d2, hB2l, he]
        repeat refine ⟨by omega, ?_⟩
        refine CSk.mk (ref32_Grounds_cs _ none p.np p.gp none (p.gs i).np (p.gs i).ps (p.gs i).Made p.Years d (by have := hp.np; omega) (by have := hp.ps i (by omega); omega) hp.nn) ?_
        simp [go_sem, c0, d0, c1, d1, hcl1, hA, c2, d2, hB2l, he]
        repeat refine ⟨by omega, ?_⟩
        refine hK _ ?_; clear hK K
        refine awp_reg_end fun K hK => ?_
        simp [go_sem, c0, d0, c1, d1, hcl1, hA, c2, d2, hB2l, he, hwf.one, hwf.zero]
        repeat refine ⟨by omega, ?_⟩
        refine hK _ ?_; clear hK K
        refine awp_rows (σ.length + 1) (fun q => Ground.enc (nth B2 q)) (by simp [go_sem]; first | exact ⟨rfl, rfl, rfl⟩ | exact ⟨rfl, rfl⟩ | rfl) (by intro q hq; rw [hB2]; exact cat_app' (enc := Ground.enc) rfl (by omega)) (by simp [go_sem]; rfl) ?_
        refine awp_reg_end fun K hK => ?_
        simp [go_sem, c0, d0, c1, d1, hcl1, hA, c2, d2, hB2l, he]
        try simp (disch := omega) only [wrapI]
        repeat refine ⟨by omega, ?_⟩
        refine hK _ ?_; clear hK K
        refine ⟨i + 1, back_of' (by simp [go_sem, wrap_succ (i := i) (by have := hp.ns; omega), c0, d0, c1, d1, hcl1, hA, c2, d2, hB2l, he]) ((leaves_app (by simp [go_sem]))) (by (simp [go_sem, wrap_succ (i := i) (by have := hp.ns; omega), c0, d0, c1, d1, hcl1, hA, c2, d2, hB2l, he] <;> omega)), by omega, by first | omega | (dsimp only; omega)⟩
  · have d0 := c0; try simp at d0
    obtain rfl : i = p.ns := by omega
    have hall := subsG_all (p := p) (g k) d
    have hsi := hsl p.ns
    generalize hA : subsG p (g k) d p.ns = A at hall hsi
    refine awp_exit ?_
    refine awp_seq ?_
    refine awp_reg_seq fun K hK => ?_
    simp [go_sem, c0, d0, hA, hfk]
    repeat refine ⟨by omega, ?_⟩
    refine CSk.mk (ref35_index_cs _ c n g (g k).Unit (by omega)) ?_
    simp [go_sem, c0, d0, hA, hfk]
    repeat refine ⟨by omega, ?_⟩
    refine hK _ ?_; clear hK K
    refine awp_reg_seq fun K hK => ?_
    simp [go_sem, c0, d0, hA, hfk]
    repeat refine ⟨by omega, ?_⟩
    refine hK _ ?_; clear hK K
    refine awp_forget [2, 3, 5, 9, 16, 73] (by simp only [restr, List.contains_cons, List.contains_nil, Nat.reduceBEq, Bool.or_false, Bool.or_true, Bool.true_or, Bool.false_or, if_true, if_false, Bool.false_eq_true]; rfl) ?_
    refine awp_cond rfl (fun c4 => ?_) (fun c4 => ?_)
    · have d4 := c4; try simp at d4
      have hcl2 : agrGr p.na p.ga (g k).Accession d = clsG p (g k) d 2 := by rw [clsG_2, if_neg (by omega)]
      obtain ⟨B2, hB2⟩ : ∃ B, B = A ++ clsG p (g k) d 2 := ⟨_, rfl⟩
      have hB2l : A.length + (clsG p (g k) d 2).length = B2.length := by rw [hB2]; simp
      have hrow : rowG p d (g k) = B2.map (setU (g k).Unit) := by rw [rowG_eq, hB2, hall]
      refine awp_reg_end fun K hK => ?_
      simp [go_sem, c0, d0, hA, hfk, c4, d4, hcl2, hB2l, hwf.one, hwf.zero]
      repeat refine ⟨by omega, ?_⟩
      refine CSk.mk (ref33_Grounds_cs _ none p.na p.ga (g k).Accession d (by have := hp.na; omega)) ?_
      simp [go_sem, c0, d0, hA, hfk, c4, d4, hcl2, hB2l, hwf.one, hwf.zero]
      repeat refine ⟨by omega, ?_⟩
      refine hK _ ?_; clear hK K
      refine awp_seq ?_
      refine awp_rows (σ.length + 1) (fun q => Ground.enc (nth B2 q)) (by simp [go_sem]; first | exact ⟨rfl, rfl, rfl⟩ | exact ⟨rfl, rfl⟩ | rfl) (by intro q hq; rw [hB2]; exact cat_app' (enc := Ground.enc) rfl (by omega)) (by simp [go_sem]; rfl) ?_
      refine awp_reg_seq fun K hK => ?_
      simp [go_sem, c0, d0, hA, hfk, c4, d4, hcl2, hB2l]
      repeat refine ⟨by omega, ?_⟩
      refine hK _ ?_; clear hK K
      refine awp_block ?_
      refine awp_forget [2, 9, 82, 83] (by simp [go_sem, restr]; rfl) ?_
      refine awp_loopU (α := Nat) (fun j => [(83, .d (I j))]) (fun j => σ ++ [.var (p.enc.map .d), .arr 4 B2.length (fun q => if q < j then Ground.enc (setU (g k).Unit (nth B2 q)) else Ground.enc (nth B2 q))]) (fun j => j ≤ B2.length) (fun j => B2.length - j) 0 (by simp [go_sem]) (by simp [Pol.enc, Ground.enc]) (by simp) ?_
      rintro j hj
      refine awp_reg_seq fun K hK => ?_
      simp [go_sem, c0, d0, hA, hfk, c4, d4, hcl2, hB2l]
      repeat refine ⟨by omega, ?_⟩
      refine hK _ ?_; clear hK K
      refine awp_seq ?_
      refine awp_forget [2, 9, 82, 83, 84] (by simp only [restr, List.contains_cons, List.contains_nil, Nat.reduceBEq, Bool.or_false, Bool.or_true, Bool.true_or, Bool.false_or, if_true, if_false, Bool.false_eq_true]; rfl) ?_
      refine awp_cond rfl (fun c5 => ?_) (fun c5 => ?_)
      · have d5 := c5; try simp at d5
        refine awp_skip ?_
        refine awp_seq ?_
        refine awp_block ?_
        refine awp_reg_seq fun K hK => ?_
        simp [go_sem, c0, d0, hA, hfk, c4, d4, hcl2, hB2l, c5, d5]
        repeat refine ⟨by omega, ?_⟩
        refine hK _ ?_; clear hK K
        refine awp_reg_end fun K hK => ?_
        simp [go_sem, c0, d0, hA, hfk, c4, d4, hcl2, hB2l, c5, d5]
        repeat refine ⟨by omega, ?_⟩
        refine hK _ ?_; clear hK K
        refine awp_rows (σ.length + 1) (fun q => if q < j + 1 then Ground.enc (setU (g k).Unit (nth B2 q)) else Ground.enc (nth B2 q)) (by simp [go_sem]; first | exact ⟨rfl, rfl, rfl⟩ | exact ⟨rfl, rfl⟩ | rfl) (by intro q hq; exact set_step B2 _) (by simp [go_sem]; rfl) ?_
        refine awp_reg_end fun K hK => ?_
        simp [go_sem, c0, d0, hA, hfk, c4, d4, hcl2, hB2l, c5, d5]
        try simp (disch := omega) only [wrapI]
        repeat refine ⟨by omega, ?_⟩
        refine hK _ ?_; clear hK K
        refine ⟨j + 1, back_of' (by simp [go_sem, wrap_succ (i := j) (by omega), c0, d0, hA, hfk, c4, d4, hcl2, hB2l, c5, d5]) ((leaves_app (by simp [go_sem]))) (by (simp [go_sem, wrap_succ (i := j) (by omega), c0, d0, hA, hfk, c4, d4, hcl2, hB2l, c5, d5] <;> omega)), by omega, by first | omega | (dsimp only; omega)⟩
      · have d5 := c5; try simp at d5
        obtain rfl : j = B2.length := by omega
        refine awp_exit ?_
        refine awp_reg_seq fun K hK => ?_
        simp [go_sem, c0, d0, hA, hfk, c4, d4, hcl2, hB2l, c5, d5]
        repeat refine ⟨by omega, ?_⟩
        refine hK _ ?_; clear hK K
        refine awp_freeze (σ.length + 1) (by simp [go_sem]; first | exact ⟨rfl, rfl, rfl⟩ | exact ⟨rfl, rfl⟩ | rfl) (by simp [go_sem]; rfl) (by simp [go_sem, hwf.frz, hwf.frz0]; rfl) ?_
        refine awp_ret ?_
        rw [hrow]; simp [go_sem, Tryz.results67]
        intro i hi
        rw [if_pos hi, nth_map _ hi]
    · have d4 := c4; try simp at d4
      have hcl2 : clsG p (g k) d 2 = [] := by rw [clsG_2, if_pos (by omega)]
      have hrow : rowG p d (g k) = A.map (setU (g k).Unit) := by rw [rowG_eq, hall, hcl2]; simp
      refine awp_skip ?_
      refine awp_seq ?_
      refine awp_reg_seq fun K hK => ?_
      simp [go_sem, c0, d0, hA, hfk, c4, d4]
      repeat refine ⟨by omega, ?_⟩
      refine hK _ ?_; clear hK K
      refine awp_block ?_
      refine awp_forget [2, 9, 82, 83] (by simp [go_sem, restr]; rfl) ?_
      refine awp_loopU (α := Nat) (fun j => [(83, .d (I j))]) (fun j => σ ++ [.var (p.enc.map .d), .arr 4 A.length (fun q => if q < j then Ground.enc (setU (g k).Unit (nth A q)) else Ground.enc (nth A q))]) (fun j => j ≤ A.length) (fun j => A.length - j) 0 (by simp [go_sem]) (by simp [Pol.enc, Ground.enc]) (by simp) ?_
      rintro j hj
      refine awp_reg_seq fun K hK => ?_
      simp [go_sem, c0, d0, hA, hfk, c4, d4]
      repeat refine ⟨by omega, ?_⟩
      refine hK _ ?_; clear hK K
      refine awp_seq ?_
      refine awp_forget [2, 9, 82, 83, 84] (by simp only [restr, List.contains_cons, List.contains_nil, Nat.reduceBEq, Bool.or_false, Bool.or_true, Bool.true_or, Bool.false_or, if_true, if_false, Bool.false_eq_true]; rfl) ?_
      refine awp_cond rfl (fun c6 => ?_) (fun c6 => ?_)
      · have d6 := c6; try simp at d6
        refine awp_skip ?_
        refine awp_seq ?_
        refine awp_block ?_
        refine awp_reg_seq fun K hK => ?_
        simp [go_sem, c0, d0, hA, hfk, c4, d4, c6, d6]
        repeat refine ⟨by omega, ?_⟩
        refine hK _ ?_; clear hK K
        refine awp_reg_end fun K hK => ?_
        simp [go_sem, c0, d0, hA, hfk, c4, d4, c6, d6]
        repeat refine ⟨by omega, ?_⟩
        refine hK _ ?_; clear hK K
        refine awp_rows (σ.length + 1) (fun q => if q < j + 1 then Ground.enc (setU (g k).Unit (nth A q)) else Ground.enc (nth A q)) (by simp [go_sem]; first | exact ⟨rfl, rfl, rfl⟩ | exact ⟨rfl, rfl⟩ | rfl) (by intro q hq; exact set_step A _) (by simp [go_sem]; rfl) ?_
        refine awp_reg_end fun K hK => ?_
        simp [go_sem, c0, d0, hA, hfk, c4, d4, c6, d6]
        try simp (disch := omega) only [wrapI]
        repeat refine ⟨by omega, ?_⟩
        refine hK _ ?_; clear hK K
        refine ⟨j + 1, back_of' (by simp [go_sem, wrap_succ (i := j) (by omega), c0, d0, hA, hfk, c4, d4, c6, d6]) ((leaves_app (by simp [go_sem]))) (by (simp [go_sem, wrap_succ (i := j) (by omega), c0, d0, hA, hfk, c4, d4, c6, d6] <;> omega)), by omega, by first | omega | (dsimp only; omega)⟩
      · have d6 := c6; try simp at d6
        obtain rfl : j = A.length := by omega
        refine awp_exit ?_
        refine awp_reg_seq fun K hK => ?_
        simp [go_sem, c0, d0, hA, hfk, c4, d4, c6, d6]
        repeat refine ⟨by omega, ?_⟩
        refine hK _ ?_; clear hK K
        refine awp_freeze (σ.length + 1) (by simp [go_sem]; first | exact ⟨rfl, rfl, rfl⟩ | exact ⟨rfl, rfl⟩ | rfl) (by simp [go_sem]; rfl) (by simp [go_sem, hwf.frz, hwf.frz0]; rfl) ?_
        refine awp_ret ?_
        rw [hrow]; simp [go_sem, Tryz.results67]
        intro i hi
        rw [if_pos hi, nth_map _ hi]
theorem ref35_Grounds_cs (σ : List Blk) (c : Option Nat) (n : Nat) (g : Nat → Row) (p : Pol) (u d : Int) (hn : n < 1000000000) (hp : PolOk p) : CSF Tryz.prog 26 [.d (SL c 3 Row.enc n g), .agg (p.enc.map .d), .d (I u), .d (I d)] σ (.tup [.d (SL none 4 Ground.enc (grdR n g p u d).1.length (nth (grdR n g p u d).1)), .d (I (grdR n g p u d).2)]) := by
  refine CSF.of_body T.en26 Tryz.func26 rfl (by simp [Tryz.ntmps26]) (by simp [go_sem]) fun hwf => ?_
  refine awp_reg_seq fun K hK => ?_
  simp [go_sem, Tryz.ntmps26]
  repeat refine ⟨by omega, ?_⟩
  refine hK _ ?_; clear hK K
  refine awp_seq ?_
  refine awp_reg_seq fun K hK => ?_
  simp [go_sem]
  repeat refine ⟨by omega, ?_⟩
  refine CSk.mk (ref35_start_cs _ c n g p 1 u d hn hp) ?_
  simp [go_sem]
  repeat refine ⟨by omega, ?_⟩
  refine hK _ ?_; clear hK K
  refine awp_reg_seq fun K hK => ?_
  simp [go_sem]
  repeat refine ⟨by omega, ?_⟩
  refine hK _ ?_; clear hK K
  refine awp_forget [0, 2, 3, 5, 10, 22] (by simp only [restr, List.contains_cons, List.contains_nil, Nat.reduceBEq, Bool.or_false, Bool.or_true, Bool.true_or, Bool.false_or, if_true, if_false, Bool.false_eq_true]; rfl) ?_
  refine awp_cond rfl (fun c0 => ?_) (fun c0 => ?_)
  · have d0 := c0; try simp at d0
    have hz : grdR n g p u d = ([], askR n g p 1 u d) := by unfold grdR; rw [if_pos d0]
    refine awp_reg_seq fun K hK => ?_
    simp [go_sem, c0, d0]
    repeat refine ⟨by omega, ?_⟩
    refine hK _ ?_; clear hK K
    refine awp_ret ?_
    rw [hz]; simp [go_sem, Tryz.results26]
  · have d0 := c0; try simp at d0
    have hz : grdR n g p u d = (wayG n g p u d, 0) := by unfold grdR; rw [if_neg (by simp [d0])]
    obtain ⟨hr, hpc, hir, hd1, hd2, hfu⟩ := ask_zero d0
    have hp1 : pathR n g u = (wayK n g u, 0) := by unfold pathR; rw [if_neg (by simp [hr]), if_neg (by omega)]
    have hn := rows_le hr
    obtain ⟨hwk, hway⟩ := way_of hr u
    refine awp_skip ?_
    refine awp_reg_seq fun K hK => ?_
    simp [go_sem, c0, d0, hp1]
    repeat refine ⟨by omega, ?_⟩
    refine CSk.mk (ref35_Path_cs _ c n g u (by omega)) ?_
    simp [go_sem, c0, d0, hp1]
    repeat refine ⟨by omega, ?_⟩
    refine hK _ ?_; clear hK K
    refine awp_reg_seq fun K hK => ?_
    simp [go_sem, c0, d0, hp1]
    repeat refine ⟨by omega, ?_⟩
    refine hK _ ?_; clear hK K
    refine awp_seq ?_
    refine awp_thawT 13 4 (fun i => Ground.enc (nth ([] : List Ground) i)) (by simp [go_sem]) (by simp [go_sem]; rfl) ?_
    refine awp_reg_seq fun K hK => ?_
    simp [go_sem, c0, d0, hp1]
    repeat refine ⟨by omega, ?_⟩
    refine hK _ ?_; clear hK K
    refine awp_block ?_
    refine awp_forget [0, 3, 5, 13, 30, 31, 32] (by simp [go_sem, restr]; rfl) ?_
    refine awp_mv [σ.length + 1] (by simp) ?_
    refine awp_loopU (α := Nat) (fun i => [(13, .ms (σ.length + 1) 4 0 (gather (fun k => rowG p d (g (wayX n g u k))) i).length), (32, .d (I i))]) (fun i => σ ++ [.var (p.enc.map .d), .arr 4 (gather (fun k => rowG p d (g (wayX n g u k))) i).length (fun q => Ground.enc (nth (gather (fun k => rowG p d (g (wayX n g u k))) i) q))]) (fun i => i ≤ wayK n g u) (fun i => wayK n g u - i) 0 (by simp [go_sem, gather]) (rfl) (by simp) ?_
    rintro i hi
    refine awp_reg_seq fun K hK => ?_
    simp [go_sem, c0, d0, hp1]
    repeat refine ⟨by omega, ?_⟩
    refine hK _ ?_; clear hK K
    refine awp_seq ?_
    refine awp_forget [0, 3, 5, 13, 30, 31, 32, 33] (by simp only [restr, List.contains_cons, List.contains_nil, Nat.reduceBEq, Bool.or_false, Bool.or_true, Bool.true_or, Bool.false_or, if_true, if_false, Bool.false_eq_true]; rfl) ?_
    refine awp_cond rfl (fun c1 => ?_) (fun c1 => ?_)
    · have d1 := c1; try simp at d1
      have hl := gather_le (f := (fun k => rowG p d (g (wayX n g u k)))) (i := i) (m := 3000) fun q _ => rowG_len hp d _
      have hl1 := rowG_len hp d (g (wayX n g u i))
      have hal : (gather (fun k => rowG p d (g (wayX n g u k))) i).length + (rowG p d (g (wayX n g u i))).length = (gather (fun k => rowG p d (g (wayX n g u k))) (i + 1)).length := by simp [gather]
      refine awp_skip ?_
      refine awp_seq ?_
      refine awp_block ?_
      refine awp_reg_seq fun K hK => ?_
      simp [go_sem, c0, d0, hp1, c1, d1, hal]
      repeat refine ⟨by omega, ?_⟩
      refine hK _ ?_; clear hK K
      refine awp_reg_end fun K hK => ?_
      simp [go_sem, c0, d0, hp1, c1, d1, hal, hwf.one, hwf.zero]
      repeat refine ⟨by omega, ?_⟩
      refine CSk.mk (ref35_alone_cs _ c n g p (wayX n g u i) d hr hp hpc (hway.lt i (by omega))) ?_
      simp [go_sem, c0, d0, hp1, c1, d1, hal, hwf.one, hwf.zero]
      repeat refine ⟨by omega, ?_⟩
      refine hK _ ?_; clear hK K
      refine awp_rows (σ.length + 1) (fun q => Ground.enc (nth (gather (fun k => rowG p d (g (wayX n g u k))) (i + 1)) q)) (by simp [go_sem]; first | exact ⟨rfl, rfl, rfl⟩ | exact ⟨rfl, rfl⟩ | rfl) (by intro q hq; exact cat_app' (enc := Ground.enc) rfl (by rw [hal]; exact hq)) (by simp [go_sem]; rfl) ?_
      refine awp_reg_end fun K hK => ?_
      simp [go_sem, c0, d0, hp1, c1, d1, hal]
      try simp (disch := omega) only [wrapI]
      repeat refine ⟨by omega, ?_⟩
      refine hK _ ?_; clear hK K
      refine ⟨i + 1, back_of' (by simp [go_sem, wrap_succ (i := i) (by omega), c0, d0, hp1, c1, d1, hal]) ((leaves_app (by simp [go_sem]))) (by (simp [go_sem, wrap_succ (i := i) (by omega), c0, d0, hp1, c1, d1, hal] <;> omega)), by omega, by first | omega | (dsimp only; omega)⟩
    · have d1 := c1; try simp at d1
      have hin : i = wayK n g u := by omega
      refine awp_exit ?_
      refine awp_reg_seq fun K hK => ?_
      simp [go_sem, c0, d0, hp1, c1, d1]
      repeat refine ⟨by omega, ?_⟩
      refine hK _ ?_; clear hK K
      refine awp_freeze (σ.length + 1) (by simp [go_sem]; first | exact ⟨rfl, rfl, rfl⟩ | exact ⟨rfl, rfl⟩ | rfl) (by simp [go_sem]; rfl) (by simp [go_sem, hwf.frz, hwf.frz0]; rfl) ?_
      refine awp_ret ?_
      rw [hz]; simp [go_sem, Tryz.results26, wayG, hin]
theorem ref35_Decide_cs (σ : List Blk) (c : Option Nat) (n : Nat) (g : Nat → Row) (p : Pol) (r u d : Int) (hn : n < 1000000000) (hp : PolOk p) : CSF Tryz.prog 27 [.d (SL c 3 Row.enc n g), .agg (p.enc.map .d), .d (I r), .d (I u), .d (I d)] σ (.tup [.agg ((decideR n g p r u d).1.enc.map .d), .d (I (decideR n g p r u d).2)]) := by
  refine CSF.of_body T.en27 Tryz.func27 rfl (by simp [Tryz.ntmps27]) (by simp [go_sem]) fun hwf => ?_
  refine awp_reg_seq fun K hK => ?_
  simp [go_sem, Tryz.ntmps27]
  repeat refine ⟨by omega, ?_⟩
  refine hK _ ?_; clear hK K
  refine awp_seq ?_
  refine awp_reg_seq fun K hK => ?_
  simp [go_sem]
  repeat refine ⟨by omega, ?_⟩
  refine CSk.mk (ref35_start_cs _ c n g p r u d hn hp) ?_
  simp [go_sem]
  repeat refine ⟨by omega, ?_⟩
  refine hK _ ?_; clear hK K
  refine awp_reg_seq fun K hK => ?_
  simp [go_sem]
  repeat refine ⟨by omega, ?_⟩
  refine hK _ ?_; clear hK K
  refine awp_forget [0, 2, 3, 4, 6, 10, 12, 29] (by simp only [restr, List.contains_cons, List.contains_nil, Nat.reduceBEq, Bool.or_false, Bool.or_true, Bool.true_or, Bool.false_or, if_true, if_false, Bool.false_eq_true]; rfl) ?_
  refine awp_cond rfl (fun c0 => ?_) (fun c0 => ?_)
  · have d0 := c0; try simp at d0
    have hz : decideR n g p r u d = (Acc.zero, askR n g p r u d) := by unfold decideR; rw [if_pos d0]
    refine awp_reg_seq fun K hK => ?_
    simp [go_sem, c0, d0]
    repeat refine ⟨by omega, ?_⟩
    refine hK _ ?_; clear hK K
    refine awp_ret ?_
    rw [hz]; simp [go_sem, Tryz.results27, Acc.zero]
  · have d0 := c0; try simp at d0
    have hz : decideR n g p r u d = (decW n g p r u d, 0) := by unfold decideR; rw [if_neg (by simp [d0])]
    obtain ⟨hr, hpc, hir, hd1, hd2, hfu⟩ := ask_zero d0
    have hg1 : grdR n g p u d = (wayG n g p u d, 0) := by
      unfold grdR; rw [if_neg]
      unfold askR idOk
      simp [hr, hpc, hd1, hd2, hfu]
      omega
    have hp1 : pathR n g u = (wayK n g u, 0) := by unfold pathR; rw [if_neg (by simp [hr]), if_neg (by omega)]
    have hn := rows_le hr
    obtain ⟨hwk, hway⟩ := way_of hr u
    have hwl := wayG_len hp hn hr u d
    refine awp_skip ?_
    refine awp_reg_seq fun K hK => ?_
    simp [go_sem, c0, d0, hg1, hp1]
    repeat refine ⟨by omega, ?_⟩
    refine CSk.mk (ref35_Grounds_cs _ c n g p u d (by omega) hp) ?_
    simp [go_sem, c0, d0, hg1, hp1]
    repeat refine ⟨by omega, ?_⟩
    refine hK _ ?_; clear hK K
    refine awp_reg_seq fun K hK => ?_
    simp [go_sem, c0, d0, hg1, hp1]
    repeat refine ⟨by omega, ?_⟩
    refine CSk.mk (ref35_Path_cs _ c n g u (by omega)) ?_
    simp [go_sem, c0, d0, hg1, hp1]
    repeat refine ⟨by omega, ?_⟩
    refine hK _ ?_; clear hK K
    refine awp_reg_seq fun K hK => ?_
    simp [go_sem, c0, d0, hg1, hp1]
    repeat refine ⟨by omega, ?_⟩
    refine hK _ ?_; clear hK K
    refine awp_seq ?_
    refine awp_thawC (σ.length + 2) 4 5 (fun q => Reason.enc (rsn p r (wayK n g u) (fun i => (g (wayX n g u i)).Unit) d (nth (wayG n g p u d) q))) (by simp [go_sem]; rfl) (by simp [go_sem]) (by simp [go_sem]; rfl) (by simp [go_sem]; rfl) ?_
    refine awp_reg_seq fun K hK => ?_
    simp [go_sem, c0, d0, hg1, hp1]
    repeat refine ⟨by omega, ?_⟩
    refine hK _ ?_; clear hK K
    refine awp_block ?_
    refine awp_forget [2, 4, 6, 10, 15, 17, 50, 51, 52] (by simp [go_sem, restr]; rfl) ?_
    refine awp_mv [σ.length + 3] (by simp) ?_
    refine awp_loopU (α := Nat) (fun q => [(52, .d (I q))]) (fun q => σ ++ [.var (p.enc.map .d), .var [.d (I 0), .d (I 0), .d (I 0), .d (B false), .d (.v (.slice none 0 0))], .var [.d (I r), .d (I u), .d (I d), .d (B (lifted (fun q => rsn p r (wayK n g u) (fun i => (g (wayX n g u i)).Unit) d (nth (wayG n g p u d) q)) q)), .ms (σ.length + 3) 5 0 q], .arr 5 q (fun q => Reason.enc (rsn p r (wayK n g u) (fun i => (g (wayX n g u i)).Unit) d (nth (wayG n g p u d) q)))]) (fun q => q ≤ (wayG n g p u d).length) (fun q => (wayG n g p u d).length - q) 0 (by simp [go_sem, lifted]) (rfl) (by simp) ?_
    rintro q hq
    refine awp_reg_seq fun K hK => ?_
    simp [go_sem, c0, d0, hg1, hp1]
    repeat refine ⟨by omega, ?_⟩
    refine hK _ ?_; clear hK K
    refine awp_seq ?_
    refine awp_forget [2, 4, 6, 10, 15, 17, 50, 51, 52, 53] (by simp only [restr, List.contains_cons, List.contains_nil, Nat.reduceBEq, Bool.or_false, Bool.or_true, Bool.true_or, Bool.false_or, if_true, if_false, Bool.false_eq_true]; rfl) ?_
    refine awp_cond rfl (fun c1 => ?_) (fun c1 => ?_)
    · have d1 := c1; try simp at d1
      refine awp_skip ?_
      refine awp_seq ?_
      refine awp_block ?_
      refine awp_reg_seq fun K hK => ?_
      simp [go_sem, c0, d0, hg1, hp1, c1, d1]
      repeat refine ⟨by omega, ?_⟩
      refine hK _ ?_; clear hK K
      refine awp_reg_seq fun K hK => ?_
      simp [go_sem, c0, d0, hg1, hp1, c1, d1]
      repeat refine ⟨by omega, ?_⟩
      refine CSk.mk (ref34_First_cs _ none p.nm p.gm r none (wayK n g u) (fun i => (g (wayX n g u i)).Unit) (nth (wayG n g p u d) q).Kind d (by have := hp.nm; omega) (by omega)) ?_
      simp [go_sem, c0, d0, hg1, hp1, c1, d1]
      repeat refine ⟨by omega, ?_⟩
      refine hK _ ?_; clear hK K
      refine awp_seq ?_
      refine awp_reg_seq fun K hK => ?_
      simp [go_sem, c0, d0, hg1, hp1, c1, d1]
      repeat refine ⟨by omega, ?_⟩
      refine CSm.mk (ref33_Strict_cs _ none p.na p.ga (nth (wayG n g p u d) q).Source (by have := hp.na; omega)) ?_
      simp [go_sem, c0, d0, hg1, hp1, c1, d1]
      repeat refine ⟨by omega, ?_⟩
      refine hK _ ?_; clear hK K
      refine awp_forget [2, 4, 6, 10, 15, 17, 19, 20, 50, 51, 52, 76] (by simp only [restr, List.contains_cons, List.contains_nil, Nat.reduceBEq, Bool.or_false, Bool.or_true, Bool.true_or, Bool.false_or, if_true, if_false, Bool.false_eq_true]; rfl) ?_
      refine awp_cond rfl (fun c2 => ?_) (fun c2 => ?_)
      · have d2 := c2; try simp at d2
        have hdec : dec1 p r (wayK n g u) (fun i => (g (wayX n g u i)).Unit) d (nth (wayG n g p u d) q) = 0 := by unfold dec1; rw [if_pos (.inr d2)]
        have hlf : lifted (fun q => rsn p r (wayK n g u) (fun i => (g (wayX n g u i)).Unit) d (nth (wayG n g p u d) q)) (q + 1) = false := by simp [lifted, rsn, hdec]
        refine awp_reg_end fun K hK => ?_
        simp [go_sem, c0, d0, hg1, hp1, c1, d1, c2, d2, hlf]
        repeat refine ⟨by omega, ?_⟩
        refine hK _ ?_; clear hK K
        refine awp_reg_seq fun K hK => ?_
        simp [go_sem, c0, d0, hg1, hp1, c1, d1, c2, d2, hlf, hwf.one, hwf.zero]
        repeat refine ⟨by omega, ?_⟩
        refine hK _ ?_; clear hK K
        refine awp_rows (σ.length + 3) (fun q => Reason.enc (rsn p r (wayK n g u) (fun i => (g (wayX n g u i)).Unit) d (nth (wayG n g p u d) q))) (by simp [go_sem]; first | exact ⟨rfl, rfl, rfl⟩ | exact ⟨rfl, rfl⟩ | rfl) (by intro i hi; refine cat_fn (enc := Reason.enc) (f := (fun q => rsn p r (wayK n g u) (fun i => (g (wayX n g u i)).Unit) d (nth (wayG n g p u d) q))) ?_ hi; simp [rsn, Reason.enc, hdec, d2]) (by simp [go_sem]; rfl) ?_
        refine awp_reg_end fun K hK => ?_
        simp [go_sem, c0, d0, hg1, hp1, c1, d1, c2, d2, hlf]
        repeat refine ⟨by omega, ?_⟩
        refine hK _ ?_; clear hK K
        refine awp_reg_end fun K hK => ?_
        simp [go_sem, c0, d0, hg1, hp1, c1, d1, c2, d2, hlf]
        try simp (disch := omega) only [wrapI]
        repeat refine ⟨by omega, ?_⟩
        refine hK _ ?_; clear hK K
        refine ⟨q + 1, back_of' (by simp [go_sem, wrap_succ (i := q) (by omega), c0, d0, hg1, hp1, c1, d1, c2, d2, hlf]) ((leaves_app (by simp [go_sem]))) (by (simp [go_sem, wrap_succ (i := q) (by omega), c0, d0, hg1, hp1, c1, d1, c2, d2, hlf] <;> omega)), by omega, by first | omega | (dsimp only; omega)⟩
      · have d2 := c2; try simp at d2
        have hdec : dec1 p r (wayK n g u) (fun i => (g (wayX n g u i)).Unit) d (nth (wayG n g p u d) q) = (firstR p.nm p.gm r (wayK n g u) (fun i => (g (wayX n g u i)).Unit) (nth (wayG n g p u d) q).Kind d).1 := by
          unfold dec1
          split
          · rename_i h
            rcases h with h | ⟨h1, h2⟩
            · exact (firstR_no h).symm
            · have := d2 h1; rw [h2] at this; cases this
          · rfl
        have hlf : lifted (fun q => rsn p r (wayK n g u) (fun i => (g (wayX n g u i)).Unit) d (nth (wayG n g p u d) q)) (q + 1) = (lifted (fun q => rsn p r (wayK n g u) (fun i => (g (wayX n g u i)).Unit) d (nth (wayG n g p u d) q)) q && ((firstR p.nm p.gm r (wayK n g u) (fun i => (g (wayX n g u i)).Unit) (nth (wayG n g p u d) q).Kind d).1 != 0)) := by simp [lifted, rsn, hdec]
        refine awp_skip ?_
        refine awp_reg_seq fun K hK => ?_
        simp [go_sem, c0, d0, hg1, hp1, c1, d1, c2, d2, hlf, hwf.one, hwf.zero]
        repeat refine ⟨by omega, ?_⟩
        refine hK _ ?_; clear hK K
        refine awp_rows (σ.length + 3) (fun q => Reason.enc (rsn p r (wayK n g u) (fun i => (g (wayX n g u i)).Unit) d (nth (wayG n g p u d) q))) (by simp [go_sem]; first | exact ⟨rfl, rfl, rfl⟩ | exact ⟨rfl, rfl⟩ | rfl) (by intro i hi; refine cat_fn (enc := Reason.enc) (f := (fun q => rsn p r (wayK n g u) (fun i => (g (wayX n g u i)).Unit) d (nth (wayG n g p u d) q))) ?_ hi; simp [rsn, Reason.enc, hdec]) (by simp [go_sem]; rfl) ?_
        refine awp_reg_end fun K hK => ?_
        simp [go_sem, c0, d0, hg1, hp1, c1, d1, c2, d2, hlf]
        repeat refine ⟨by omega, ?_⟩
        refine hK _ ?_; clear hK K
        refine awp_reg_end fun K hK => ?_
        simp [go_sem, c0, d0, hg1, hp1, c1, d1, c2, d2, hlf]
        try simp (disch := omega) only [wrapI]
        repeat refine ⟨by omega, ?_⟩
        refine hK _ ?_; clear hK K
        refine ⟨q + 1, back_of' (by simp [go_sem, wrap_succ (i := q) (by omega), c0, d0, hg1, hp1, c1, d1, c2, d2, hlf]) ((leaves_app (by simp [go_sem]))) (by (simp [go_sem, wrap_succ (i := q) (by omega), c0, d0, hg1, hp1, c1, d1, c2, d2, hlf] <;> omega)), by omega, by first | omega | (dsimp only; omega)⟩
    · have d1 := c1; try simp at d1
      obtain rfl : q = (wayG n g p u d).length := by omega
      refine awp_exit ?_
      refine awp_reg_seq fun K hK => ?_
      simp [go_sem, c0, d0, hg1, hp1, c1, d1]
      repeat refine ⟨by omega, ?_⟩
      refine hK _ ?_; clear hK K
      refine awp_freeze (σ.length + 3) (by simp [go_sem]; first | exact ⟨rfl, rfl, rfl⟩ | exact ⟨rfl, rfl⟩ | rfl) (by simp [go_sem]; rfl) (by simp [go_sem, hwf.frz, hwf.frz0]; rfl) ?_
      refine awp_ret ?_
      rw [hz]; simp [go_sem, Tryz.results27, decW, decR]
theorem ref35_Visible_cs (σ : List Blk) (c : Option Nat) (n : Nat) (g : Nat → Row) (p : Pol) (r d : Int) (hn : n < 1000000000) (hp : PolOk p) : CSF Tryz.prog 34 [.d (SL c 3 Row.enc n g), .agg (p.enc.map .d), .d (I r), .d (I d)] σ (.tup [.d (SL none 1 encI (visR n g p r d).1.length (nth (visR n g p r d).1)), .d (I (visR n g p r d).2)]) := by
  refine CSF.of_body T.en34 Tryz.func34 rfl (by simp [Tryz.ntmps34]) (by simp [go_sem]) fun hwf => ?_
  refine awp_reg_seq fun K hK => ?_
  simp [go_sem, Tryz.ntmps34]
  repeat refine ⟨by omega, ?_⟩
  refine hK _ ?_; clear hK K
  refine awp_seq ?_
  refine awp_reg_seq fun K hK => ?_
  simp [go_sem]
  repeat refine ⟨by omega, ?_⟩
  refine CSk.mk (ref35_Rows_cs _ c n g hn) ?_
  simp [go_sem]
  repeat refine ⟨by omega, ?_⟩
  refine CSm.mk (ref35_Check_cs _ p hp) ?_
  simp [go_sem]
  repeat refine ⟨by omega, ?_⟩
  refine hK _ ?_; clear hK K
  refine awp_forget [0, 2, 3, 5, 22] (by simp only [restr, List.contains_cons, List.contains_nil, Nat.reduceBEq, Bool.or_false, Bool.or_true, Bool.true_or, Bool.false_or, if_true, if_false, Bool.false_eq_true]; rfl) ?_
  refine awp_cond rfl (fun c0 => ?_) (fun c0 => ?_)
  · have d0 := c0; try simp at d0
    have hz : visR n g p r d = ([], 1) := by unfold visR; rw [if_pos d0]
    refine awp_reg_seq fun K hK => ?_
    simp [go_sem, c0, d0]
    repeat refine ⟨by omega, ?_⟩
    refine hK _ ?_; clear hK K
    refine awp_ret ?_
    rw [hz]; simp [go_sem, Tryz.results34]
  · have d0 := c0; try simp at d0
    have hd0 : ¬(rowsChk n g ≠ 0 ∨ polChk p ≠ 0) := by omega
    refine awp_skip ?_
    refine awp_seq ?_
    refine awp_reg_seq fun K hK => ?_
    simp [go_sem, c0, d0]
    repeat refine ⟨by omega, ?_⟩
    refine hK _ ?_; clear hK K
    refine awp_forget [0, 2, 3, 5, 36] (by simp only [restr, List.contains_cons, List.contains_nil, Nat.reduceBEq, Bool.or_false, Bool.or_true, Bool.true_or, Bool.false_or, if_true, if_false, Bool.false_eq_true]; rfl) ?_
    refine awp_cond rfl (fun c1 => ?_) (fun c1 => ?_)
    · have d1 := c1; try simp at d1
      have hz : visR n g p r d = ([], 2) := by unfold visR idOk; rw [if_neg hd0, if_pos (by simp; omega)]
      refine awp_reg_seq fun K hK => ?_
      simp [go_sem, c0, d0, c1, d1]
      repeat refine ⟨by omega, ?_⟩
      refine hK _ ?_; clear hK K
      refine awp_ret ?_
      rw [hz]; simp [go_sem, Tryz.results34]
    · have d1 := c1; try simp at d1
      have hd1 : ¬(idOk r = false ∨ d < 0 ∨ 1048575 < d) := by unfold idOk; simp; omega
      have hz : visR n g p r d = (gather (visF n (fun i => (decW n g p r (g i).Unit d).Granted) g) n, 0) := by unfold visR; rw [if_neg hd0, if_neg hd1]
      refine awp_skip ?_
      refine awp_reg_seq fun K hK => ?_
      simp [go_sem, c0, d0, c1, d1]
      repeat refine ⟨by omega, ?_⟩
      refine hK _ ?_; clear hK K
      refine awp_seq ?_
      refine awp_thawT 10 1 (fun i => encI (nth ([] : List Int) i)) (by simp [go_sem]) (by simp [go_sem]; rfl) ?_
      refine awp_reg_seq fun K hK => ?_
      simp [go_sem, c0, d0, c1, d1]
      repeat refine ⟨by omega, ?_⟩
      refine hK _ ?_; clear hK K
      refine awp_block ?_
      refine awp_forget [0, 2, 3, 5, 10, 37, 38, 39] (by simp [go_sem, restr]; rfl) ?_
      refine awp_mv [σ.length + 1] (by simp) ?_
      refine awp_loopU (α := Nat) (fun i => [(10, .ms (σ.length + 1) 1 0 (gather (visF n (fun i => (decW n g p r (g i).Unit d).Granted) g) i).length), (39, .d (I i))]) (fun i => σ ++ [.var (p.enc.map .d), .arr 1 (gather (visF n (fun i => (decW n g p r (g i).Unit d).Granted) g) i).length (fun q => encI (nth (gather (visF n (fun i => (decW n g p r (g i).Unit d).Granted) g) i) q))]) (fun i => i ≤ n) (fun i => n - i) 0 (by simp [go_sem, gather]) (rfl) (by simp) ?_
      rintro i hi
      refine awp_reg_seq fun K hK => ?_
      simp [go_sem, c0, d0, c1, d1]
      repeat refine ⟨by omega, ?_⟩
      refine hK _ ?_; clear hK K
      refine awp_seq ?_
      refine awp_forget [0, 2, 3, 5, 10, 37, 38, 39, 40] (by simp only [restr, List.contains_cons, List.contains_nil, Nat.reduceBEq, Bool.or_false, Bool.or_true, Bool.true_or, Bool.false_or, if_true, if_false, Bool.false_eq_true]; rfl) ?_
      refine awp_cond rfl (fun c2 => ?_) (fun c2 => ?_)
      · have d2 := c2; try simp at d2
        have hl := gather_len (visF_len n (fun i => (decW n g p r (g i).Unit d).Granted) g) i
        have hde : decideR n g p r (g i).Unit d = (decW n g p r (g i).Unit d, 0) := by
          unfold decideR; rw [if_neg]
          have hfi := (rows_good d0.1).1.find (i := i) (by omega)
          unfold askR
          rw [if_neg hd0, if_neg hd1, if_neg (by omega)]
          simp
        refine awp_skip ?_
        refine awp_seq ?_
        refine awp_block ?_
        refine awp_reg_seq fun K hK => ?_
        simp [go_sem, c0, d0, c1, d1, c2, d2, hde]
        repeat refine ⟨by omega, ?_⟩
        refine hK _ ?_; clear hK K
        refine awp_reg_seq fun K hK => ?_
        simp [go_sem, c0, d0, c1, d1, c2, d2, hde]
        repeat refine ⟨by omega, ?_⟩
        refine CSk.mk (ref35_Decide_cs _ c n g p r (g i).Unit d hn hp) ?_
        simp [go_sem, c0, d0, c1, d1, c2, d2, hde]
        repeat refine ⟨by omega, ?_⟩
        refine hK _ ?_; clear hK K
        refine awp_reg_seq fun K hK => ?_
        simp [go_sem, c0, d0, c1, d1, c2, d2, hde]
        repeat refine ⟨by omega, ?_⟩
        refine hK _ ?_; clear hK K
        refine awp_forget [0, 2, 3, 5, 10, 12, 37, 38, 39, 54] (by simp only [restr, List.contains_cons, List.contains_nil, Nat.reduceBEq, Bool.or_false, Bool.or_true, Bool.true_or, Bool.false_or, if_true, if_false, Bool.false_eq_true]; rfl) ?_
        refine awp_cond rfl (fun c3 => ?_) (fun c3 => ?_)
        · have d3 := c3; try simp at d3
          have ha : gather (visF n (fun i => (decW n g p r (g i).Unit d).Granted) g) (i + 1) = gather (visF n (fun i => (decW n g p r (g i).Unit d).Granted) g) i ++ [(g i).Unit] := by rw [gather, visF, if_pos d3]
          refine awp_reg_end fun K hK => ?_
          simp [go_sem, c0, d0, c1, d1, c2, d2, hde, c3, d3, ha, hwf.one, hwf.zero]
          repeat refine ⟨by omega, ?_⟩
          refine hK _ ?_; clear hK K
          refine awp_rows (σ.length + 1) (fun q => encI (nth (gather (visF n (fun i => (decW n g p r (g i).Unit d).Granted) g) i ++ [(g i).Unit]) q)) (by simp [go_sem]; first | exact ⟨rfl, rfl, rfl⟩ | exact ⟨rfl, rfl⟩ | rfl) (by exact fun q hq => cat_nth (enc := encI) (x := (g i).Unit) rfl hq) (by simp [go_sem]; rfl) ?_
          refine awp_reg_end fun K hK => ?_
          simp [go_sem, c0, d0, c1, d1, c2, d2, hde, c3, d3, ha]
          try simp (disch := omega) only [wrapI]
          repeat refine ⟨by omega, ?_⟩
          refine hK _ ?_; clear hK K
          refine ⟨i + 1, back_of' (by simp [go_sem, wrap_succ (i := i) (by omega), c0, d0, c1, d1, c2, d2, hde, c3, d3, ha]) ((leaves_app (by simp [go_sem]))) (by (simp [go_sem, wrap_succ (i := i) (by omega), c0, d0, c1, d1, c2, d2, hde, c3, d3, ha] <;> omega)), by omega, by first | omega | (dsimp only; omega)⟩
        · have d3 := c3; try simp at d3
          have ha : gather (visF n (fun i => (decW n g p r (g i).Unit d).Granted) g) (i + 1) = gather (visF n (fun i => (decW n g p r (g i).Unit d).Granted) g) i := by rw [gather, visF, if_neg (by simp [d3])]; simp
          refine awp_skip ?_
          refine awp_reg_end fun K hK => ?_
          simp [go_sem, c0, d0, c1, d1, c2, d2, hde, c3, d3, ha]
          try simp (disch := omega) only [wrapI]
          repeat refine ⟨by omega, ?_⟩
          refine hK _ ?_; clear hK K
          refine ⟨i + 1, back_of' (by simp [go_sem, wrap_succ (i := i) (by omega), c0, d0, c1, d1, c2, d2, hde, c3, d3, ha]) ((leaves_app (by simp [go_sem]))) (by (simp [go_sem, wrap_succ (i := i) (by omega), c0, d0, c1, d1, c2, d2, hde, c3, d3, ha] <;> omega)), by omega, by first | omega | (dsimp only; omega)⟩
      · have d2 := c2; try simp at d2
        have hin : i = n := by omega
        refine awp_exit ?_
        refine awp_reg_seq fun K hK => ?_
        simp [go_sem, c0, d0, c1, d1, c2, d2]
        repeat refine ⟨by omega, ?_⟩
        refine hK _ ?_; clear hK K
        refine awp_freeze (σ.length + 1) (by simp [go_sem]; first | exact ⟨rfl, rfl, rfl⟩ | exact ⟨rfl, rfl⟩ | rfl) (by simp [go_sem]; rfl) (by simp [go_sem, hwf.frz, hwf.frz0]; rfl) ?_
        refine awp_ret ?_
        rw [hz]; simp [go_sem, Tryz.results34, hin]
end Go.Proofs.YtkochmppmpmddaaGreat

/-! Er -/
namespace Go.Proofs.YtkochmppmpmddaaGreat
open Go.Abs Go.Arch
open Go.ChangeShapes Go.WideShapes Go.ChangeAt Go.RowKit
set_option linter.unusedVariables false
set_option linter.unusedSimpArgs false
theorem own : ownKnob Tryz.prog.godebug = none := by kernel_rfl
theorem laidOut : laidOutB Tryz.prog = true := by kernel_rfl
theorem maxLenCell (w : World) (h : w.ShapedOpen Tryz.prog) : ∃ m, w.cell? ⟨0, 0, none⟩ = some (.int .i64 m) :=
  Go.Proofs.cell_of_shapedOpen_int (zero := #[.int .i64 0]) (t := 3) h (of_decide_eq_true (by kernel_rfl)) (by kernel_rfl) rfl (by kernel_rfl) (by kernel_rfl) Tryz.underlying3
theorem opn3 : Opn Tryz.prog 3 fun ds => ∃ n, ds = [I n] ∧ (Lit.int .i64 n).wf = true := opn_int Tryz.underlying3
theorem opn4 : Opn Tryz.prog 4 fun ds => ∃ b, ds = [B b] := opn_bool Tryz.underlying4
theorem opn9 : Opn Tryz.prog 9 fun ds => ∃ s : ByteArray, ds = [Sb s] ∧ s.size ≤ maxLen := opn_string Tryz.underlying9
theorem opn66 : Opn Tryz.prog 66 fun ds => ∃ s : Span, ds = s.enc := (opn_struct Tryz.underlying66 (by kernel_rfl) (.cons opn3 (.cons opn3 .nil))).mono fun ds h => by
  obtain ⟨_, _, rfl, ⟨a, rfl, _⟩, _, _, rfl, ⟨b, rfl, _⟩, rfl⟩ := h
  exact ⟨⟨a, b⟩, rfl⟩
theorem opn74 : Opn Tryz.prog 74 fun ds => ∃ m : Dating, ds = m.enc := (opn_struct Tryz.underlying74 (by kernel_rfl) (.cons opn3 (.cons opn3 .nil))).mono fun ds h => by
  obtain ⟨_, _, rfl, ⟨a, rfl, _⟩, _, _, rfl, ⟨b, rfl, _⟩, rfl⟩ := h
  exact ⟨⟨a, b⟩, rfl⟩
theorem opn109 : Opn Tryz.prog 109 fun ds => ∃ r : Rule, ds = r.enc := (opn_struct Tryz.underlying109 (by kernel_rfl) (.cons opn3 (.cons opn3 (.cons opn3 (.cons opn4 (.cons opn66 .nil)))))).mono fun ds h => by
  obtain ⟨_, _, rfl, ⟨a, rfl, _⟩, _, _, rfl, ⟨b, rfl, _⟩, _, _, rfl, ⟨c, rfl, _⟩, _, _, rfl, ⟨e, rfl⟩, _, _, rfl, ⟨s, rfl⟩, rfl⟩ := h
  exact ⟨⟨a, b, c, e, s⟩, rfl⟩
theorem opn68 : Opn Tryz.prog 68 fun ds => ∃ r : Agr, ds = r.enc := (opn_struct Tryz.underlying68 (by kernel_rfl) (.cons opn3 (.cons opn3 (.cons opn3 (.cons opn4 (.cons opn66 .nil)))))).mono fun ds h => by
  obtain ⟨_, _, rfl, ⟨a, rfl, _⟩, _, _, rfl, ⟨b, rfl, _⟩, _, _, rfl, ⟨c, rfl, _⟩, _, _, rfl, ⟨e, rfl⟩, _, _, rfl, ⟨s, rfl⟩, rfl⟩ := h
  exact ⟨⟨a, b, c, e, s⟩, rfl⟩
theorem opn71 : Opn Tryz.prog 71 fun ds => ∃ r : Pmt, ds = r.enc := (opn_struct Tryz.underlying71 (by kernel_rfl) (.cons opn3 (.cons opn3 (.cons opn3 (.cons opn3 (.cons opn66 .nil)))))).mono fun ds h => by
  obtain ⟨_, _, rfl, ⟨a, rfl, _⟩, _, _, rfl, ⟨b, rfl, _⟩, _, _, rfl, ⟨c, rfl, _⟩, _, _, rfl, ⟨e, rfl, _⟩, _, _, rfl, ⟨s, rfl⟩, rfl⟩ := h
  exact ⟨⟨a, b, c, e, s⟩, rfl⟩
theorem opn80 : Opn Tryz.prog 80 fun ds => ∃ r : Prs, ds = r.enc := (opn_struct Tryz.underlying80 (by kernel_rfl) (.cons opn3 (.cons opn9 (.cons opn74 (.cons opn74 .nil))))).mono fun ds h => by
  obtain ⟨_, _, rfl, ⟨a, rfl, _⟩, _, _, rfl, ⟨b, rfl, _⟩, _, _, rfl, ⟨c, rfl⟩, _, _, rfl, ⟨e, rfl⟩, rfl⟩ := h
  exact ⟨⟨a, b, c, e⟩, rfl⟩
theorem opn38 : Opn Tryz.prog 38 fun ds => ∃ r : Row, ds = r.enc := (opn_struct Tryz.underlying38 (by kernel_rfl) (.cons opn3 (.cons opn3 (.cons opn3 .nil)))).mono fun ds h => by
  obtain ⟨_, _, rfl, ⟨a, rfl, _⟩, _, _, rfl, ⟨b, rfl, _⟩, _, _, rfl, ⟨c, rfl, _⟩, rfl⟩ := h
  exact ⟨⟨a, b, c⟩, rfl⟩
theorem opn32 : Opn Tryz.prog 32 fun ds => ∃ y, ds = [y] ∧ ∃ n g, y = SL none 1 encI n g ∧ n ≤ maxLen := (opn_slice (sz := 1) (encI 0) Tryz.underlying32 (by kernel_rfl) (by omega) opn3 ⟨_, rfl, by decide⟩).mono fun ds h => by
  obtain ⟨n, row, rfl, hn, h⟩ := h
  exact ⟨_, rfl, n, fun i => (h i).choose, congrArg (D.sl none 1 n) (funext fun i => (h i).choose_spec.1), hn⟩
theorem opn89 : Opn Tryz.prog 89 fun ds => ∃ r : Sbj, ds = r.enc := (opn_struct Tryz.underlying89 (by kernel_rfl) (.cons opn3 (.cons opn74 (.cons opn3 (.cons opn32 .nil))))).mono fun ds h => by
  obtain ⟨_, _, rfl, ⟨a, rfl, _⟩, _, _, rfl, ⟨b, rfl⟩, _, _, rfl, ⟨c, rfl, _⟩, _, _, rfl, ⟨y, rfl, n, g, rfl, _⟩, rfl⟩ := h
  exact ⟨⟨a, b, c, n, g⟩, rfl⟩
theorem opn22 : Opn Tryz.prog 22 fun ds => ∃ y, ds = [y] ∧ ∃ n g, y = SL none 3 Row.enc n g ∧ n ≤ maxLen := (opn_slice (sz := 3) (Row.enc default) Tryz.underlying22 (by kernel_rfl) (by omega) opn38 ⟨_, rfl⟩).mono fun ds h => by
  obtain ⟨n, row, rfl, hn, h⟩ := h
  exact ⟨_, rfl, n, fun i => (h i).choose, congrArg (D.sl none 3 n) (funext fun i => (h i).choose_spec), hn⟩
theorem opn23 : Opn Tryz.prog 23 fun ds => ∃ y, ds = [y] ∧ ∃ n g, y = SL none 5 Sbj.enc n g ∧ n ≤ maxLen := (opn_slice (sz := 5) (Sbj.enc default) Tryz.underlying23 (by kernel_rfl) (by omega) opn89 ⟨_, rfl⟩).mono fun ds h => by
  obtain ⟨n, row, rfl, hn, h⟩ := h
  exact ⟨_, rfl, n, fun i => (h i).choose, congrArg (D.sl none 5 n) (funext fun i => (h i).choose_spec), hn⟩
theorem opn24 : Opn Tryz.prog 24 fun ds => ∃ y, ds = [y] ∧ ∃ n g, y = SL none 6 Rule.enc n g ∧ n ≤ maxLen := (opn_slice (sz := 6) (Rule.enc default) Tryz.underlying24 (by kernel_rfl) (by omega) opn109 ⟨_, rfl⟩).mono fun ds h => by
  obtain ⟨n, row, rfl, hn, h⟩ := h
  exact ⟨_, rfl, n, fun i => (h i).choose, congrArg (D.sl none 6 n) (funext fun i => (h i).choose_spec), hn⟩
theorem opn25 : Opn Tryz.prog 25 fun ds => ∃ y, ds = [y] ∧ ∃ n g, y = SL none 6 Prs.enc n g ∧ n ≤ maxLen := (opn_slice (sz := 6) (Prs.enc default) Tryz.underlying25 (by kernel_rfl) (by omega) opn80 ⟨_, rfl⟩).mono fun ds h => by
  obtain ⟨n, row, rfl, hn, h⟩ := h
  exact ⟨_, rfl, n, fun i => (h i).choose, congrArg (D.sl none 6 n) (funext fun i => (h i).choose_spec), hn⟩
theorem opn26 : Opn Tryz.prog 26 fun ds => ∃ y, ds = [y] ∧ ∃ n g, y = SL none 6 Agr.enc n g ∧ n ≤ maxLen := (opn_slice (sz := 6) (Agr.enc default) Tryz.underlying26 (by kernel_rfl) (by omega) opn68 ⟨_, rfl⟩).mono fun ds h => by
  obtain ⟨n, row, rfl, hn, h⟩ := h
  exact ⟨_, rfl, n, fun i => (h i).choose, congrArg (D.sl none 6 n) (funext fun i => (h i).choose_spec), hn⟩
theorem opn27 : Opn Tryz.prog 27 fun ds => ∃ y, ds = [y] ∧ ∃ n g, y = SL none 6 Pmt.enc n g ∧ n ≤ maxLen := (opn_slice (sz := 6) (Pmt.enc default) Tryz.underlying27 (by kernel_rfl) (by omega) opn71 ⟨_, rfl⟩).mono fun ds h => by
  obtain ⟨n, row, rfl, hn, h⟩ := h
  exact ⟨_, rfl, n, fun i => (h i).choose, congrArg (D.sl none 6 n) (funext fun i => (h i).choose_spec), hn⟩
theorem opn29 : Opn Tryz.prog 29 fun ds => ∃ p : Pol, ds = p.enc ∧ p.ns ≤ 9223372036854775807 ∧ p.np ≤ 9223372036854775807 := (opn_struct Tryz.underlying29 (by kernel_rfl) (.cons opn23 (.cons opn24 (.cons opn25 (.cons opn3 (.cons opn26 (.cons opn27 .nil))))))).mono fun ds h => by
  obtain ⟨_, _, rfl, ⟨a, rfl, n1, g1, rfl, h1⟩, _, _, rfl, ⟨b, rfl, n2, g2, rfl, _⟩, _, _, rfl, ⟨c, rfl, n3, g3, rfl, h3⟩, _, _, rfl, ⟨e, rfl, _⟩, _, _, rfl, ⟨s, rfl, n4, g4, rfl, _⟩, _, _, rfl, ⟨s', rfl, n5, g5, rfl, _⟩, rfl⟩ := h
  exact ⟨⟨n1, g1, n2, g2, n3, g3, e, n4, g4, n5, g5⟩, rfl, h1, h3⟩
theorem opn46 : Opn Tryz.prog 46 fun ds => ∃ a b c, ds = [I a, I b, I c] := (opn_array Tryz.underlying46 (by kernel_rfl) opn3).mono fun ds h => by
  obtain ⟨_, _, rfl, ⟨a, rfl, _⟩, _, _, rfl, ⟨b, rfl, _⟩, _, _, rfl, ⟨c, rfl, _⟩, rfl⟩ := h
  exact ⟨a, b, c, rfl⟩
end Go.Proofs.YtkochmppmpmddaaGreat

/-! Dl -/
namespace Go.Proofs.YtkochmppmpmddaaGreat
open Go.Abs Go.Arch
set_option linter.unusedVariables false
set_option linter.unusedSimpArgs false
set_option maxRecDepth 100000
set_option maxHeartbeats 1000000
theorem mem_gather {β : Type} {f : Nat → List β} {x : β} : ∀ {n : Nat}, x ∈ gather f n ↔ ∃ q, q < n ∧ x ∈ f q
  | 0 => by simp [gather]
  | n + 1 => by
    rw [gather, List.mem_append, mem_gather]
    constructor
    · rintro (⟨q, h1, h2⟩ | h)
      · exact ⟨q, by omega, h2⟩
      · exact ⟨n, by omega, h⟩
    · rintro ⟨q, h1, h2⟩
      rcases Nat.lt_or_eq_of_le (Nat.le_of_lt_succ h1) with h | h
      · exact .inl ⟨q, h, h2⟩
      · exact .inr (h ▸ h2)
structure SubOk (p : Pol) (s : Sbj) : Prop where
  c0 : 0 ≤ s.Class
  c1 : s.Class ≤ 999
  made : datChk s.Made = 0
  asc : ascB s.ps s.np = true
  found : ∀ q, q < s.np → 0 ≤ findP p.np p.gp (s.ps q)
theorem sub_ok {p : Pol} (h : subChk p = 0) (u : Int) : SubOk p (subjR p u).1 := by
  unfold subjR
  by_cases hf : findS p.ns p.gs u < 0
  · rw [if_pos hf]
    exact ⟨by simp [Sbj.zero], by simp [Sbj.zero], by simp [Sbj.zero, datChk, datOk], rfl, fun q hq => by simp [Sbj.zero] at hq⟩
  · rw [if_neg hf]
    have hlt := findS_lt p.ns p.gs u
    unfold subChk at h
    split at h
    · omega
    have := firstE_zero h (findS p.ns p.gs u).toNat (by omega) (by omega)
    unfold subE at this
    split at this
    · omega
    rename_i h1
    split at this
    · omega
    rename_i h2
    split at this
    · omega
    rename_i h3
    show SubOk p (p.gs (findS p.ns p.gs u).toNat)
    refine ⟨by omega, by omega, by omega, ?_, fun q hq => ?_⟩
    · cases hb : ascB (p.gs (findS p.ns p.gs u).toNat).ps (p.gs (findS p.ns p.gs u).toNat).np with
      | true => rfl
      | false => exact absurd (.inr hb) h3
    · unfold subE1 at this
      have := firstE_zero this q (by omega) (by omega)
      split at this
      · omega
      · rename_i h4
        have : hasP p.np p.gp ((p.gs (findS p.ns p.gs u).toNat).ps q) = true := by simpa using h4
        rw [hasP_iff] at this; simpa using this
/-! closure rules -/
theorem inForce_of {n : Nat} {g : Nat → Rule} (h0 : check n g = 0) {k d : Int} {i : Nat} (hi : i < n) (hk : (g i).Class = k) (h1 : (g i).In.From ≤ d) (h2 : d < (g i).In.Until) : inForceR n g k d = (g i, true) := by
  have huniq : ∀ j, j < n → inB k d (g j) = true → j = i := fun j hj hb => by
    simp [inB] at hb
    rcases Nat.lt_trichotomy j i with h | h | h
    · rcases not_clash h0 h hi (by rw [hb.1.1, hk]) with h3 | h3 <;> omega
    · exact h
    · rcases not_clash h0 h hj (by rw [hb.1.1, hk]) with h3 | h3 <;> omega
  have hb : inB k d (g i) = true := by simp [inB, hk, h1, h2]
  rcases idx_spec (inB k d) (lst n g) 0 with ⟨h3, h4⟩ | ⟨q, h3, h4, x, h5, h6, _⟩
  · have := h4 (g i) (by simp only [lst, List.mem_map, List.mem_range]; exact ⟨i, hi, rfl⟩)
    rw [hb] at this; cases this
  · rw [lst_length] at h3
    rw [lst_get h3] at h5
    cases h5
    have := huniq q h3 h6
    subst this
    unfold inForceR inForceI
    rw [h4, if_neg (by rintro (h | h); omega; exact h h0)]
    simp
theorem inForce_is {n : Nat} {g : Nat → Rule} {k d : Int} (h : (inForceR n g k d).2 = true) : ∃ i, i < n ∧ (g i).Class = k ∧ (g i).In.From ≤ d ∧ d < (g i).In.Until ∧ (inForceR n g k d).1 = g i := by
  unfold inForceR at h ⊢
  split at h
  · cases h
  rename_i hn
  rw [if_neg hn]
  have hlt := idx_lt' (inB k d) n g
  rcases idx_spec (inB k d) (lst n g) 0 with ⟨h3, h4⟩ | ⟨q, h3, h4, x, h5, h6, _⟩
  · exfalso; apply hn; left; unfold inForceI; omega
  · rw [lst_length] at h3
    rw [lst_get h3] at h5
    cases h5
    simp [inB] at h6
    refine ⟨q, h3, h6.1.1, h6.1.2, h6.2, ?_⟩
    unfold inForceI; rw [h4]; simp
theorem closed_iff {n : Nat} {g : Nat → Rule} (h0 : check n g = 0) {k : Int} {m : Dating} (hm : datChk m = 0) (d : Int) : (closedR n g k m d).2 = true ↔ ∃ i, i < n ∧ (g i).Class = k ∧ (g i).In.From ≤ d ∧ d < (g i).In.Until ∧ d < lastF (g i) m + 1 := by
  unfold closedR
  constructor
  · intro h
    split at h
    · cases h
    rename_i hn
    have h1 : (inForceR n g k d).2 = true := by
      cases hb : (inForceR n g k d).2 with
      | true => rfl
      | false => exact absurd (.inl hb) hn
    obtain ⟨i, h2, h3, h4, h5, h6⟩ := inForce_is h1
    refine ⟨i, h2, h3, h4, h5, ?_⟩
    rw [← h6]; omega
  · rintro ⟨i, h2, h3, h4, h5, h6⟩
    rw [inForce_of h0 h2 h3 h4 h5, if_neg]
    rintro (h | h | h)
    · cases h
    · exact h hm
    · simp only at h; omega
structure Src (cl : Int → List Ground) (d : Int) (o : Int × Int) (e : Int) : Prop where
  ge : d ≤ e
  le : e ≤ 1048576
  out : o = if e = 1048576 then (0, 23) else (e, 0)
  yes : ∀ d', d ≤ d' → d' < e → cl d' ≠ []
  no : e ≤ 1048575 → cl e = []
theorem src_0 {p : Pol} (hc : polChk p = 0) (r : Row) {d : Int} (h0 : 0 ≤ d) (h1 : d ≤ 1048575) : ∃ e, Src (fun d => clsG p r d 0) d (opnS p r d 0) e := by
  obtain ⟨hc1, hc2, hc3, hc4, hy1, hy2, hsc⟩ := pol_parts hc
  have hs := sub_ok hsc r.Unit
  by_cases hk : (subjR p r.Unit).1.Class = 0
  · exact ⟨d, Int.le_refl _, by omega, by rw [opnS_0, if_pos hk, if_neg (by omega)], fun d' h1 h2 => by omega, fun _ => by simp only [clsG_0]; rw [if_neg (by simp [hk])]⟩
  · have hg := refSpans_good hc1 (subjR p r.Unit).1.Class (subjR p r.Unit).1.Made
    have ho := opensF_spec hg.1 (f := d) (by omega)
    have hcl : ∀ d', clsG p r d' 0 ≠ [] ↔ inS (refSpans p.nc p.gc (subjR p r.Unit).1.Class (subjR p r.Unit).1.Made) d' := fun d' => by
      rw [hg.2, ← closed_iff hc1 hs.made, clsG_0]
      by_cases h : (closedR p.nc p.gc (subjR p r.Unit).1.Class (subjR p r.Unit).1.Made d').2 = true
      · rw [if_pos ⟨h, hk⟩]; simp [h]
      · rw [if_neg (by rintro ⟨h', _⟩; exact h h')]; simp [h]
    refine ⟨opensF (refSpans p.nc p.gc (subjR p r.Unit).1.Class (subjR p r.Unit).1.Made) d, ho.1, ho.2.1, ?_, fun d' h2 h3 => (hcl d').2 (ho.2.2.2 d' h2 h3), fun _ => ?_⟩
    · have ha : askedR p.nc p.gc (subjR p r.Unit).1.Class (subjR p r.Unit).1.Made d = 0 := by
        unfold askedR; rw [if_neg (by rintro (h | h); exact h hc1; exact h hs.made), if_neg (by have := hs.c0; have := hs.c1; omega)]
      rw [opnS_0, if_neg hk, refOpensR_asked, if_neg (by simp [ha])]
    · apply Classical.byContradiction
      intro h
      exact ho.2.2.1 ((hcl _).1 h)
/-! persons -/
theorem maxU_spec (d : Int) (L : List Ground) : ∀ i, i ≤ L.length → d ≤ maxU d L i ∧ (maxU d L i = d ∨ ∃ q, q < i ∧ (nth L q).Until = maxU d L i) ∧ ∀ q, q < i → (nth L q).Until ≤ maxU d L i
  | 0, _ => ⟨Int.le_refl _, .inl rfl, fun q hq => by omega⟩
  | i + 1, h => by
    obtain ⟨h1, h2, h3⟩ := maxU_spec d L i (by omega)
    rw [maxU]
    refine ⟨by omega, ?_, fun q hq => ?_⟩
    · by_cases hm : maxU d L i ≤ (nth L i).Until
      · right; exact ⟨i, by omega, by omega⟩
      · rcases h2 with h2 | ⟨q, h4, h5⟩
        · left; omega
        · right; exact ⟨q, by omega, by omega⟩
    · rcases Nat.lt_or_eq_of_le (Nat.le_of_lt_succ hq) with h4 | h4
      · have := h3 q h4; omega
      · rw [h4]; omega
theorem nth_mem {α : Type} [Inhabited α] {L : List α} {i : Nat} (h : i < L.length) : nth L i ∈ L := by rw [nth_eq h]; exact List.getElem_mem h
theorem mem_nth {α : Type} [Inhabited α] {L : List α} {x : α} (h : x ∈ L) : ∃ i, i < L.length ∧ nth L i = x := by
  obtain ⟨i, hi, he⟩ := List.mem_iff_getElem.1 h
  exact ⟨i, hi, by rw [nth_eq hi]; exact he⟩
theorem prsGr_ok {p : Pol} (hc : polChk p = 0) {s : Sbj} (hs : SubOk p s) {d : Int} (h0 : 0 ≤ d) (h1 : d ≤ 1048575) : (prsGr p.np p.gp s.np s.ps s.Made p.Years d).1 = gather (prsGf p.np p.gp s.ps s.Made p.Years d) s.np := by
  obtain ⟨hc1, hc2, hc3, hc4, hy1, hy2, hsc⟩ := pol_parts hc
  unfold prsGr
  rw [if_neg (by rintro (h | h); exact h hc2; exact h hs.made), if_neg (by omega), if_neg (by simp [hs.asc]), if_neg]
  simp only [ne_eq, Decidable.not_not]
  exact firstE_of fun q h2 h3 => by unfold grE; rw [if_neg (by have := hs.found q (by omega); omega)]
theorem mem_prs {n : Nat} {g : Nat → Prs} {ids : Nat → Int} {made : Dating} {y d : Int} {m : Nat} {x : Ground} : x ∈ gather (prsGf n g ids made y d) m ↔ ∃ q, q < m ∧ d < untilP (g (findP n g (ids q)).toNat) made y ∧ x = prsGd (ids q) (untilP (g (findP n g (ids q)).toNat) made y) := by
  rw [mem_gather]
  constructor
  · rintro ⟨q, h1, h2⟩
    unfold prsGf at h2
    split at h2
    · rename_i h; exact ⟨q, h1, h, by simpa using h2⟩
    · simp at h2
  · rintro ⟨q, h1, h2, rfl⟩
    exact ⟨q, h1, by unfold prsGf; rw [if_pos h2]; simp⟩
theorem untilP_le (x : Prs) (made : Dating) (y : Int) : untilP x made y ≤ 1048576 := by
  have := yearsR_bd x.Death.Last y
  unfold isDay at this
  unfold untilP; omega
theorem src_1 {p : Pol} (hc : polChk p = 0) (r : Row) {d : Int} (h0 : 0 ≤ d) (h1 : d ≤ 1048575) : ∃ e, Src (fun d => clsG p r d 1) d (opnS p r d 1) e := by
  obtain ⟨hc1, hc2, hc3, hc4, hy1, hy2, hsc⟩ := pol_parts hc
  have hs := sub_ok hsc r.Unit
  have hL : ∀ d', 0 ≤ d' → d' ≤ 1048575 → clsG p r d' 1 = gather (prsGf p.np p.gp (subjR p r.Unit).1.ps (subjR p r.Unit).1.Made p.Years d') (subjR p r.Unit).1.np := fun d' h2 h3 => by rw [clsG_1]; exact prsGr_ok hc hs h2 h3
  obtain ⟨g1, g2, g3⟩ := maxU_spec d (clsG p r d 1) (clsG p r d 1).length (Nat.le_refl _)
  have hle : maxU d (clsG p r d 1) (clsG p r d 1).length ≤ 1048576 := by
    rcases g2 with g2 | ⟨q, hq, he⟩
    · omega
    · have := nth_mem hq
      rw [hL d h0 h1, mem_prs] at this
      obtain ⟨z, _, _, hz⟩ := this
      rw [← he, hL d h0 h1, hz]
      exact untilP_le _ _ _
  refine ⟨maxU d (clsG p r d 1) (clsG p r d 1).length, g1, hle, by rw [opnS_1], fun d' h2 h3 => ?_, fun h2 => ?_⟩
  · rcases g2 with g2 | ⟨q, hq, he⟩
    · omega
    · have hm := nth_mem hq
      rw [hL d h0 h1, mem_prs] at hm
      obtain ⟨z, hz1, hz2, hz⟩ := hm
      have hu : untilP (p.gp (findP p.np p.gp ((subjR p r.Unit).1.ps z)).toNat) (subjR p r.Unit).1.Made p.Years = maxU d (clsG p r d 1) (clsG p r d 1).length := by
        rw [← he]; conv => rhs; rw [hL d h0 h1]
        rw [hz]; rfl
      rw [hL d' (by omega) (by omega)]
      intro hn
      have : prsGd ((subjR p r.Unit).1.ps z) (untilP (p.gp (findP p.np p.gp ((subjR p r.Unit).1.ps z)).toNat) (subjR p r.Unit).1.Made p.Years) ∈ gather (prsGf p.np p.gp (subjR p r.Unit).1.ps (subjR p r.Unit).1.Made p.Years d') (subjR p r.Unit).1.np := mem_prs.2 ⟨z, hz1, by omega, rfl⟩
      rw [hn] at this; simp at this
  · rw [List.eq_nil_iff_forall_not_mem]
    intro x hx
    rw [hL _ (by omega) h2, mem_prs] at hx
    obtain ⟨z, hz1, hz2, hz⟩ := hx
    have hm : prsGd ((subjR p r.Unit).1.ps z) (untilP (p.gp (findP p.np p.gp ((subjR p r.Unit).1.ps z)).toNat) (subjR p r.Unit).1.Made p.Years) ∈ clsG p r d 1 := by
      rw [hL d h0 h1]; exact mem_prs.2 ⟨z, hz1, by omega, rfl⟩
    obtain ⟨i, hi, he⟩ := mem_nth hm
    have := g3 i hi
    rw [he] at this
    simp only [prsGd] at this
    omega
/-! agreements -/
theorem agrCl_iff {a : Agr} {k d : Int} : agrCl a k d = true ↔ agrOk a = true ∧ a.Accession = k ∧ a.In.From ≤ d ∧ d < a.In.Until ∧ d < a.Until := by
  unfold agrCl; simp [and_assoc]
theorem stepF_spec (g : Nat → Agr) (k d : Int) : ∀ i, (stepF g k d i = d ∨ ∃ q, q < i ∧ agrCl (g q) k d = true ∧ stepF g k d i = min (g q).Until (g q).In.Until) ∧ ∀ q, q < i → agrCl (g q) k d = true → min (g q).Until (g q).In.Until ≤ stepF g k d i
  | 0 => ⟨.inl rfl, fun q hq => by omega⟩
  | i + 1 => by
    obtain ⟨h1, h2⟩ := stepF_spec g k d i
    rw [stepF]
    by_cases hc : agrCl (g i) k d = true
    · rw [if_pos hc]
      refine ⟨?_, fun q hq hcq => ?_⟩
      · by_cases hm : stepF g k d i ≤ min (g i).Until (g i).In.Until
        · right; exact ⟨i, by omega, hc, by omega⟩
        · rcases h1 with h1 | ⟨q, h3, h4, h5⟩
          · left; have := agrCl_iff.1 hc; omega
          · right; exact ⟨q, by omega, h4, by omega⟩
      · rcases Nat.lt_or_eq_of_le (Nat.le_of_lt_succ hq) with h4 | h4
        · have := h2 q h4 hcq; omega
        · rw [h4]; omega
    · rw [if_neg hc]
      refine ⟨?_, fun q hq hcq => ?_⟩
      · rcases h1 with h1 | ⟨q, h3, h4, h5⟩
        · exact .inl h1
        · exact .inr ⟨q, by omega, h4, h5⟩
      · rcases Nat.lt_or_eq_of_le (Nat.le_of_lt_succ hq) with h4 | h4
        · exact h2 q h4 hcq
        · subst h4; exact absurd hcq hc
theorem opA_spec (n : Nat) (g : Nat → Agr) (k : Int) : ∀ (m : Nat) (d : Int), (1048576 - d).toNat = m → d ≤ 1048576 → d ≤ opA n g k d ∧ opA n g k d ≤ 1048576 ∧ (∀ d', d ≤ d' → d' < opA n g k d → ∃ i, i < n ∧ agrCl (g i) k d' = true) ∧ ∀ i, i < n → agrCl (g i) k (opA n g k d) = false := by
  intro m
  induction m using Nat.strongRecOn with
  | _ m ih =>
    intro d hm hd
    obtain ⟨h1, h2⟩ := stepF_spec g k d n
    have hge := stepF_ge g k d n
    have hle := stepF_le g k d hd n
    rw [opA]
    by_cases hlt : d < stepF g k d n
    · rw [dif_pos ⟨hlt, hle⟩]
      obtain ⟨g1, g2, g3, g4⟩ := ih _ (by clear h1 h2; omega) (stepF g k d n) rfl hle
      refine ⟨by omega, g2, fun d' h3 h4 => ?_, g4⟩
      by_cases h5 : d' < stepF g k d n
      · rcases h1 with h1 | ⟨q, h6, h7, h8⟩
        · omega
        · refine ⟨q, h6, ?_⟩
          have e1 : stepF g k d n ≤ (g q).Until := by rw [h8]; exact Int.min_le_left _ _
          have e2 : stepF g k d n ≤ (g q).In.Until := by rw [h8]; exact Int.min_le_right _ _
          obtain ⟨k1, k2, k3, k4, k5⟩ := agrCl_iff.1 h7
          exact agrCl_iff.2 ⟨k1, k2, by omega, by omega, by omega⟩
      · exact g3 d' (by omega) h4
    · rw [dif_neg (by omega)]
      refine ⟨Int.le_refl _, hd, fun d' h3 h4 => by omega, fun i hi => ?_⟩
      cases hc : agrCl (g i) k d with
      | false => rfl
      | true =>
        have := h2 i hi hc
        have := agrCl_iff.1 hc
        omega
theorem mem_agr {n : Nat} {g : Nat → Agr} (h0 : agrChk n g = 0) {k d : Int} {x : Ground} : x ∈ agrGr n g k d ↔ ∃ i, i < n ∧ agrCl (g i) k d = true ∧ x = agrGd (g i) := by
  unfold agrGr
  rw [if_neg (by simp [h0]), mem_gather]
  constructor
  · rintro ⟨q, h1, h2⟩
    unfold agrGf at h2
    split at h2
    · rename_i h; exact ⟨q, h1, h, by simpa using h2⟩
    · simp at h2
  · rintro ⟨q, h1, h2, rfl⟩
    exact ⟨q, h1, by unfold agrGf; rw [if_pos h2]; simp⟩
theorem src_2 {p : Pol} (hc : polChk p = 0) {r : Row} (hr : rowOk r = true) {d : Int} (h0 : 0 ≤ d) (h1 : d ≤ 1048575) : ∃ e, Src (fun d => clsG p r d 2) d (opnS p r d 2) e := by
  obtain ⟨hc1, hc2, hc3, hc4, hy1, hy2, hsc⟩ := pol_parts hc
  by_cases hk : r.Accession = 0
  · exact ⟨d, Int.le_refl _, by omega, by rw [opnS_2, if_pos hk, if_neg (by omega)], fun d' h1 h2 => by omega, fun _ => by simp only [clsG_2]; rw [if_pos hk]⟩
  · obtain ⟨g1, g2, g3, g4⟩ := opA_spec p.na p.ga r.Accession _ d rfl (by omega)
    simp [rowOk, idOk] at hr
    refine ⟨opA p.na p.ga r.Accession d, g1, g2, ?_, fun d' h2 h3 => ?_, fun h2 => ?_⟩
    · rw [opnS_2, if_neg hk]
      unfold agrOp
      rw [if_neg (by simp [hc3]), if_neg (by omega)]
    · obtain ⟨i, h4, h5⟩ := g3 d' h2 h3
      simp only [clsG_2]
      rw [if_neg hk]
      intro hn
      have := (mem_agr hc3).2 ⟨i, h4, h5, rfl⟩
      rw [hn] at this; simp at this
    · simp only [clsG_2]
      rw [if_neg hk, List.eq_nil_iff_forall_not_mem]
      intro x hx
      obtain ⟨i, h4, h5, _⟩ := (mem_agr hc3).1 hx
      rw [g4 i h4] at h5; cases h5
theorem src_all {p : Pol} (hc : polChk p = 0) {r : Row} (hr : rowOk r = true) {d : Int} (h0 : 0 ≤ d) (h1 : d ≤ 1048575) {j : Nat} (hj : j < 3) : ∃ e, Src (fun d => clsG p r d j) d (opnS p r d j) e := by
  have hj3 : j = 0 ∨ j = 1 ∨ j = 2 := by omega
  rcases hj3 with rfl | rfl | rfl
  · exact src_0 hc r h0 h1
  · exact src_1 hc r h0 h1
  · exact src_2 hc hr h0 h1
theorem mem_rowG {p : Pol} {d : Int} {r : Row} {x : Ground} : x ∈ rowG p d r ↔ ∃ j, j < 3 ∧ ∃ y, y ∈ clsG p r d j ∧ setU r.Unit y = x := by
  unfold rowG
  rw [mem_gather]
  simp only [clsU, List.mem_map]
theorem mem_wayG {n : Nat} {g : Nat → Row} {p : Pol} {u d : Int} {x : Ground} : x ∈ wayG n g p u d ↔ ∃ k, k < wayK n g u ∧ ∃ j, j < 3 ∧ ∃ y, y ∈ clsG p (g (wayX n g u k)) d j ∧ setU (g (wayX n g u k)).Unit y = x := by
  unfold wayG
  rw [mem_gather]
  simp only [mem_rowG]
theorem wayG_some {n : Nat} {g : Nat → Row} {p : Pol} {u d : Int} {k j : Nat} (hk : k < wayK n g u) (hj : j < 3) (h : clsG p (g (wayX n g u k)) d j ≠ []) : wayG n g p u d ≠ [] := by
  obtain ⟨y, hy⟩ := List.exists_mem_of_ne_nil _ h
  intro hn
  have := mem_wayG.2 ⟨k, hk, j, hj, y, hy, rfl⟩
  rw [hn] at this; simp at this
theorem wayG_none {n : Nat} {g : Nat → Row} {p : Pol} {u d : Int} (h : ∀ k, k < wayK n g u → ∀ j, j < 3 → clsG p (g (wayX n g u k)) d j = []) : wayG n g p u d = [] := by
  rw [List.eq_nil_iff_forall_not_mem]
  intro x hx
  obtain ⟨k, hk, j, hj, y, hy, _⟩ := mem_wayG.1 hx
  rw [h k hk j hj] at hy; simp at hy
open Classical in
noncomputable def openD (gr : Int → List Ground) (d : Int) : Int × Int := if h : ∃ e, d ≤ e ∧ e ≤ 1048575 ∧ gr e = [] ∧ ∀ d', d ≤ d' → d' < e → gr d' ≠ [] then (Classical.choose h, 0) else (0, 23)
theorem open_at {gr : Int → List Ground} {d e : Int} (h1 : d ≤ e) (h2 : e ≤ 1048575) (h3 : gr e = []) (h4 : ∀ d', d ≤ d' → d' < e → gr d' ≠ []) : openD gr d = (e, 0) := by
  have hex : ∃ e, d ≤ e ∧ e ≤ 1048575 ∧ gr e = [] ∧ ∀ d', d ≤ d' → d' < e → gr d' ≠ [] := ⟨e, h1, h2, h3, h4⟩
  unfold openD
  rw [dif_pos hex]
  obtain ⟨g1, g2, g3, g4⟩ := Classical.choose_spec hex
  rcases Int.lt_trichotomy (Classical.choose hex) e with h | h | h
  · exact absurd g3 (h4 _ g1 h)
  · rw [h]
  · exact absurd h3 (g4 e h1 h)
theorem open_no {gr : Int → List Ground} {d : Int} (h : ∀ e, d ≤ e → e ≤ 1048575 → gr e ≠ []) : openD gr d = (0, 23) := by
  unfold openD
  rw [dif_neg]
  rintro ⟨e, h1, h2, h3, _⟩
  exact h e h1 h2 h3
end Go.Proofs.YtkochmppmpmddaaGreat

/-! Dm -/
namespace Go.Proofs.YtkochmppmpmddaaGreat
open Go.Abs Go.Arch
set_option linter.unusedVariables false
set_option linter.unusedSimpArgs false
set_option maxRecDepth 100000
set_option maxHeartbeats 1000000
def mxJ (p : Pol) (r : Row) (d m0 : Int) : Nat → Int
  | 0 => m0
  | j + 1 => max (mxJ p r d m0 j) (opnS p r d j).1
noncomputable def mxK (n : Nat) (g : Nat → Row) (p : Pol) (u d : Int) : Nat → Int
  | 0 => d
  | k + 1 => mxJ p (g (wayX n g u k)) d (mxK n g p u d k) 3
def errJ (p : Pol) (r : Row) (d : Int) : Nat := if (opnS p r d 0).2 ≠ 0 then 0 else if (opnS p r d 1).2 ≠ 0 then 1 else 2
def errB (p : Pol) (r : Row) (d : Int) : Bool := decide ((opnS p r d 0).2 ≠ 0) || decide ((opnS p r d 1).2 ≠ 0) || decide ((opnS p r d 2).2 ≠ 0)
theorem errB_iff {p : Pol} {r : Row} {d : Int} : errB p r d = true ↔ ∃ j, j < 3 ∧ (opnS p r d j).2 ≠ 0 := by
  unfold errB
  simp only [Bool.or_eq_true, decide_eq_true_eq]
  constructor
  · rintro ((h | h) | h)
    · exact ⟨0, by omega, h⟩
    · exact ⟨1, by omega, h⟩
    · exact ⟨2, by omega, h⟩
  · rintro ⟨j, hj, h⟩
    have hj3 : j = 0 ∨ j = 1 ∨ j = 2 := by omega
    rcases hj3 with rfl | rfl | rfl
    · exact .inl (.inl h)
    · exact .inl (.inr h)
    · exact .inr h
theorem errJ_at {p : Pol} {r : Row} {d : Int} {j : Nat} (hj : j < 3) (h1 : ∀ i, i < j → (opnS p r d i).2 = 0) (h2 : (opnS p r d j).2 ≠ 0) : errJ p r d = j := by
  unfold errJ
  have hj3 : j = 0 ∨ j = 1 ∨ j = 2 := by omega
  rcases hj3 with rfl | rfl | rfl
  · rw [if_pos h2]
  · rw [if_neg (by simp [h1 0 (by omega)]), if_pos h2]
  · rw [if_neg (by simp [h1 0 (by omega)]), if_neg (by simp [h1 1 (by omega)])]
theorem mxJ_spec (p : Pol) (r : Row) (d m0 : Int) : ∀ j, m0 ≤ mxJ p r d m0 j ∧ (mxJ p r d m0 j = m0 ∨ ∃ i, i < j ∧ (opnS p r d i).1 = mxJ p r d m0 j) ∧ ∀ i, i < j → (opnS p r d i).1 ≤ mxJ p r d m0 j
  | 0 => ⟨Int.le_refl _, .inl rfl, fun i hi => by omega⟩
  | j + 1 => by
    obtain ⟨h1, h2, h3⟩ := mxJ_spec p r d m0 j
    rw [mxJ]
    refine ⟨by omega, ?_, fun q hq => ?_⟩
    · by_cases hm : mxJ p r d m0 j ≤ (opnS p r d j).1
      · right; exact ⟨j, by omega, by omega⟩
      · rcases h2 with h2 | ⟨q, h4, h5⟩
        · left; omega
        · right; exact ⟨q, by omega, by omega⟩
    · rcases Nat.lt_or_eq_of_le (Nat.le_of_lt_succ hq) with h4 | h4
      · have := h3 q h4; omega
      · rw [h4]; omega
theorem mxK_spec (n : Nat) (g : Nat → Row) (p : Pol) (u d : Int) : ∀ k, d ≤ mxK n g p u d k ∧ (mxK n g p u d k = d ∨ ∃ k', k' < k ∧ ∃ i, i < 3 ∧ (opnS p (g (wayX n g u k')) d i).1 = mxK n g p u d k) ∧ ∀ k', k' < k → ∀ i, i < 3 → (opnS p (g (wayX n g u k')) d i).1 ≤ mxK n g p u d k
  | 0 => ⟨Int.le_refl _, .inl rfl, fun i hi => by omega⟩
  | k + 1 => by
    obtain ⟨h1, h2, h3⟩ := mxK_spec n g p u d k
    obtain ⟨g1, g2, g3⟩ := mxJ_spec p (g (wayX n g u k)) d (mxK n g p u d k) 3
    rw [mxK]
    refine ⟨by omega, ?_, fun q hq i hi => ?_⟩
    · rcases g2 with g2 | ⟨i, h4, h5⟩
      · rw [g2]
        rcases h2 with h2 | ⟨k', h4, i, h5, h6⟩
        · exact .inl h2
        · exact .inr ⟨k', by omega, i, h5, h6⟩
      · exact .inr ⟨k, by omega, i, h4, h5⟩
    · rcases Nat.lt_or_eq_of_le (Nat.le_of_lt_succ hq) with h4 | h4
      · have := h3 q h4 i hi; omega
      · rw [h4]; exact g3 i hi
theorem src_err {cl : Int → List Ground} {d e : Int} {o : Int × Int} (h : Src cl d o e) (he : o.2 ≠ 0) : ∀ d', d ≤ d' → d' ≤ 1048575 → cl d' ≠ [] := by
  have h1 := h.out
  by_cases h2 : e = 1048576
  · exact fun d' h3 h4 => h.yes d' h3 (by omega)
  · rw [if_neg h2] at h1; rw [h1] at he; exact absurd rfl he
theorem src_ok {cl : Int → List Ground} {d e : Int} {o : Int × Int} (h : Src cl d o e) (he : o.2 = 0) : o.1 = e ∧ e ≤ 1048575 := by
  have h1 := h.out
  have h3 := h.le
  by_cases h2 : e = 1048576
  · rw [if_pos h2] at h1; rw [h1] at he; cases he
  · rw [if_neg h2] at h1; rw [h1]; exact ⟨rfl, by omega⟩
structure Ctx (n : Nat) (g : Nat → Row) (p : Pol) (u : Int) : Prop where
  hr : rowsChk n g = 0
  hc : polChk p = 0
  hu : 0 ≤ findR n g u
theorem Ctx.row {n : Nat} {g : Nat → Row} {p : Pol} {u : Int} (h : Ctx n g p u) {k : Nat} (hk : k < wayK n g u) : rowOk (g (wayX n g u k)) = true := (rows_good h.hr).1.ok _ ((way_of h.hr u).2.lt k hk)
theorem Ctx.err {n : Nat} {g : Nat → Row} {p : Pol} {u : Int} (h : Ctx n g p u) {d : Int} (h0 : 0 ≤ d) (h1 : d ≤ 1048575) {k : Nat} (hk : k < wayK n g u) (he : errB p (g (wayX n g u k)) d = true) : ∀ e, d ≤ e → e ≤ 1048575 → wayG n g p u e ≠ [] := by
  obtain ⟨j, hj, hn⟩ := errB_iff.1 he
  obtain ⟨e, hs⟩ := src_all h.hc (h.row hk) h0 h1 hj
  exact fun d' h2 h3 => wayG_some hk hj (src_err hs hn d' h2 h3)
theorem Ctx.max {n : Nat} {g : Nat → Row} {p : Pol} {u : Int} (h : Ctx n g p u) {d : Int} (h0 : 0 ≤ d) (h1 : d ≤ 1048575) (he : ∀ k, k < wayK n g u → errB p (g (wayX n g u k)) d = false) :
    d ≤ mxK n g p u d (wayK n g u) ∧ mxK n g p u d (wayK n g u) ≤ 1048575 ∧ (∀ e, d ≤ e → e < mxK n g p u d (wayK n g u) → wayG n g p u e ≠ []) ∧ (mxK n g p u d (wayK n g u) = d → wayG n g p u d = []) := by
  obtain ⟨g1, g2, g3⟩ := mxK_spec n g p u d (wayK n g u)
  have hz : ∀ k, k < wayK n g u → ∀ j, j < 3 → (opnS p (g (wayX n g u k)) d j).2 = 0 := fun k hk j hj => by
    apply Classical.byContradiction
    intro hn
    have := he k hk
    rw [errB_iff.2 ⟨j, hj, hn⟩] at this; cases this
  refine ⟨g1, ?_, fun e h2 h3 => ?_, fun hm => wayG_none fun k hk j hj => ?_⟩
  · rcases g2 with g2 | ⟨k, hk, i, hi, g2⟩
    · omega
    · obtain ⟨e, hs⟩ := src_all h.hc (h.row hk) h0 h1 hi
      have := src_ok hs (hz k hk i hi); omega
  · rcases g2 with g2 | ⟨k, hk, i, hi, g2⟩
    · omega
    · obtain ⟨e', hs⟩ := src_all h.hc (h.row hk) h0 h1 hi
      have := src_ok hs (hz k hk i hi)
      exact wayG_some hk hi (hs.yes e h2 (by omega))
  · obtain ⟨e, hs⟩ := src_all h.hc (h.row hk) h0 h1 hj
    have h4 := src_ok hs (hz k hk j hj)
    have h5 := g3 k hk j hj
    have h6 := hs.ge
    have : e = d := by omega
    have := hs.no h4.2
    rwa [‹e = d›] at this
noncomputable def opR (n : Nat) (g : Nat → Row) (p : Pol) (u d : Int) : Int × Int := if askR n g p 1 u d ≠ 0 then (0, askR n g p 1 u d) else openD (fun d => wayG n g p u d) d
theorem policy_Opens_cs (σ : List Blk) (c : Option Nat) (n : Nat) (g : Nat → Row) (p : Pol) (u d : Int) (hn : n < 1000000000) (hp : PolOk p) (hσ : σ[0]? = some (.loc 0)) : CSF Tryz.prog 29 [.d (SL c 3 Row.enc n g), .agg (p.enc.map .d), .d (I u), .d (I d)] σ (.tup [.d (I (opR n g p u d).1), .d (I (opR n g p u d).2)]) := by
  refine CSF.of_body T.en29 Tryz.func29 rfl (by simp [Tryz.ntmps29]) (by simp [go_sem]) fun hwf => ?_
  refine awp_reg_seq fun K hK => ?_
  simp [go_sem, Tryz.ntmps29]
  repeat refine ⟨by omega, ?_⟩
  refine hK _ ?_; clear hK K
  refine awp_seq ?_
  refine awp_reg_seq fun K hK => ?_
  simp [go_sem]
  repeat refine ⟨by omega, ?_⟩
  refine CSk.mk (policy_asked_cs _ c n g p 1 u d hn hp (loc_app hσ)) ?_
  simp [go_sem]
  repeat refine ⟨by omega, ?_⟩
  refine hK _ ?_; clear hK K
  refine awp_reg_seq fun K hK => ?_
  simp [go_sem]
  repeat refine ⟨by omega, ?_⟩
  refine hK _ ?_; clear hK K
  refine awp_forget [0, 2, 5, 7, 8, 9, 10, 12, 23, 29] (by simp only [restr, List.contains_cons, List.contains_nil, Nat.reduceBEq, Bool.or_false, Bool.or_true, Bool.true_or, Bool.false_or, if_true, if_false, Bool.false_eq_true]; rfl) ?_
  refine awp_cond rfl (fun c0 => ?_) (fun c0 => ?_)
  · have d0 := c0; try simp at d0
    have hz : opR n g p u d = (0, askR n g p 1 u d) := by unfold opR; rw [if_pos d0]
    refine awp_reg_seq fun K hK => ?_
    simp [go_sem, c0, d0]
    repeat refine ⟨by omega, ?_⟩
    refine hK _ ?_; clear hK K
    refine awp_ret ?_
    rw [hz]; simp [go_sem, Tryz.results29]
  · have d0 := c0; try simp at d0
    have hz : opR n g p u d = openD (fun d => wayG n g p u d) d := by unfold opR; rw [if_neg (by simp [d0])]
    obtain ⟨hr, hpc, hir, hd1, hd2, hfu⟩ := ask_zero d0
    have hctx : Ctx n g p u := ⟨hr, hpc, hfu⟩
    obtain ⟨hwk, hway⟩ := way_of hr u
    have hle := rows_le hr
    refine awp_skip ?_
    refine awp_block ?_
    refine awp_forget [0, 2, 5, 7, 8, 9, 12, 29] (by simp [go_sem, restr]; rfl) ?_
    refine awp_mv [σ.length + 50] (by simp) ?_
    refine awp_loopU (α := Int) (fun x => []) (fun x => σ ++ [.var (p.enc.map .d), .var [.d (I x)], .var [.d (I 0)], .var [.d (I 0)]]) (fun x => d ≤ x ∧ x ≤ 1048575 ∧ ∀ e, d ≤ e → e < x → wayG n g p u e ≠ []) (fun x => (1048576 - x).toNat) d (by simp [go_sem]) (rfl) (⟨Int.le_refl _, hd2, fun e h1 h2 => by omega⟩) ?_
    rintro x ⟨hx1, hx2, hx3⟩
    refine awp_block ?_
    refine awp_reg_seq fun K hK => ?_
    simp [go_sem, c0, d0]
    repeat refine ⟨by omega, ?_⟩
    refine hK _ ?_; clear hK K
    refine awp_seq ?_
    refine awp_reg_seq fun K hK => ?_
    simp [go_sem, c0, d0]
    repeat refine ⟨by omega, ?_⟩
    have hcl := policy_above_cs (σ ++ [.var (p.enc.map .d), .var [.d (I x)], .var [.d (I 0)], .var [.d (I 0)], .var [.d (I x)]]) c n g u; simp only [List.append_assoc, List.cons_append, List.nil_append, List.length_append, List.length_cons, List.length_nil, Nat.zero_add, Nat.reduceAdd] at hcl; refine CSk.gen hcl ?_; rintro r' σ' X ⟨rfl, rfl, rfl⟩
    simp [go_sem, c0, d0]
    repeat refine ⟨by omega, ?_⟩
    refine hK _ ?_; clear hK K
    refine awp_block ?_
    refine awp_rangeL rfl [(0, .d (SL c 3 Row.enc n g)), (2, .d (I u)), (5, .ptr σ.length 0), (7, .ptr (σ.length + 1) 0), (8, .ptr (σ.length + 2) 0), (9, .ptr (σ.length + 3) 0), (11, .ptr (σ.length + 4) 0)] (by simp [go_sem]) ?_
    intro La hLa
    have hLu : ∀ k av, (k, av) ∈ La.t → av.under (σ.length + 8) := by
      rw [hLa]
      intro k av hm
      simp at hm
      rcases hm with ⟨_, rfl⟩ | ⟨_, rfl⟩ | ⟨_, rfl⟩ | ⟨_, rfl⟩ | ⟨_, rfl⟩ | ⟨_, rfl⟩ | ⟨_, rfl⟩ <;> simp [AV.under] <;> omega
    have hround : ∀ k, k < wayK n g u → YS Tryz.prog (σ.length + 7) [.agg ((g (wayX n g u k)).enc.map .d)] (σ ++ [.var (p.enc.map .d), .var [.d (I x)], .var [.d (I 0)], .var [.d (I 0)], .var [.d (I (mxK n g p u x k))], .var [.d (SL c 3 Row.enc n g)], .var [.d (I u)], .lp La .ready none]) (fun r' σ' X => X = [σ.length + 50] ∧ (r' = .d (B (!errB p (g (wayX n g u k)) x)) ∧ σ' = σ ++ [.var (p.enc.map .d), .var [.d (I x)], .var [.d (I 0)], .var [.d (I (if errB p (g (wayX n g u k)) x = true then 23 else 0))], .var [.d (I (if errB p (g (wayX n g u k)) x = true then mxJ p (g (wayX n g u k)) x (mxK n g p u x k) (errJ p (g (wayX n g u k)) x) else mxK n g p u x (k + 1)))], .var [.d (SL c 3 Row.enc n g)], .var [.d (I u)], .lp La (if errB p (g (wayX n g u k)) x = true then .done else .ready) (if errB p (g (wayX n g u k)) x = true then some .ret else none)])) := by
      intro k hk
      refine YS.of_awp (L := La) (pd := none) (by simp [go_sem]) (by rw [hLa]; rfl) ?_
      intro hwf'
      have eN := congrArg LoopA.N hLa
      have et := congrArg LoopA.t hLa
      have ep := congrArg LoopA.ps hLa
      have ea := congrArg LoopA.assign hLa
      have eb := congrArg LoopA.body hLa
      dsimp only at eN et ep ea eb
      rw [eN, et, ep, ea, eb]
      clear eN et ep ea eb hLa hcl
      refine awp_reg_end fun K hK => ?_
      simp [go_sem, c0, d0, St.putL]
      repeat refine ⟨by omega, ?_⟩
      refine hK _ ?_; clear hK K
      simp [begunQ, go_sem, mvNot]
      refine awp_post ?_
      refine awp_block ?_
      refine awp_reg_seq fun K hK => ?_
      simp [go_sem, c0, d0]
      repeat refine ⟨by omega, ?_⟩
      refine CSk.mk (policy_sources_cs _) ?_
      simp [go_sem, c0, d0]
      repeat refine ⟨by omega, ?_⟩
      refine hK _ ?_; clear hK K
      refine awp_block ?_
      refine awp_forget [5, 7, 8, 9, 11, 12, 30, 31, 32] (by simp [go_sem, restr]; rfl) ?_
      refine awp_loopU (α := Nat) (fun j => [(32, .d (I j))]) (fun j => σ ++ [.var (p.enc.map .d), .var [.d (I x)], .var [.d (I 0)], .var [.d (I 0)], .var [.d (I (mxJ p (g (wayX n g u k)) x (mxK n g p u x k) j))], .var [.d (SL c 3 Row.enc n g)], .var [.d (I u)], .lp La .busy none, .var ((g (wayX n g u k)).enc.map .d)]) (fun j => j ≤ 3 ∧ ∀ i, i < j → (opnS p (g (wayX n g u k)) x i).2 = 0) (fun j => 3 - j) 0 (by simp [go_sem, mxJ]) (rfl) (by simp) ?_
      rintro j ⟨hj, hjz⟩
      refine awp_reg_seq fun K hK => ?_
      simp [go_sem, c0, d0, mxJ]
      repeat refine ⟨by omega, ?_⟩
      refine hK _ ?_; clear hK K
      refine awp_seq ?_
      refine awp_forget [5, 7, 8, 9, 11, 12, 30, 31, 32, 33] (by simp only [restr, List.contains_cons, List.contains_nil, Nat.reduceBEq, Bool.or_false, Bool.or_true, Bool.true_or, Bool.false_or, if_true, if_false, Bool.false_eq_true]; rfl) ?_
      refine awp_cond rfl (fun c1 => ?_) (fun c1 => ?_)
      · have d1 := c1; try simp at d1
        refine awp_skip ?_
        refine awp_seq ?_
        refine awp_block ?_
        refine awp_reg_seq fun K hK => ?_
        simp [go_sem, c0, d0, mxJ, c1, d1]
        repeat refine ⟨by omega, ?_⟩
        refine hK _ ?_; clear hK K
        refine awp_reg_seq fun K hK => ?_
        simp [go_sem, c0, d0, mxJ, c1, d1]
        repeat refine ⟨by omega, ?_⟩
        refine CSk.mk (opens_cs _ p (g (wayX n g u k)) x j hp (loc_app hσ) (by omega)) ?_
        simp [go_sem, c0, d0, mxJ, c1, d1]
        repeat refine ⟨by omega, ?_⟩
        refine hK _ ?_; clear hK K
        refine awp_seq ?_
        refine awp_reg_seq fun K hK => ?_
        simp [go_sem, c0, d0, mxJ, c1, d1]
        repeat refine ⟨by omega, ?_⟩
        refine hK _ ?_; clear hK K
        refine awp_forget [5, 7, 8, 9, 11, 12, 15, 30, 31, 32, 46] (by simp only [restr, List.contains_cons, List.contains_nil, Nat.reduceBEq, Bool.or_false, Bool.or_true, Bool.true_or, Bool.false_or, if_true, if_false, Bool.false_eq_true]; rfl) ?_
        refine awp_cond rfl (fun c2 => ?_) (fun c2 => ?_)
        · have d2 := c2; try simp at d2
          refine awp_reg_seq fun K hK => ?_
          simp [go_sem, c0, d0, mxJ, c1, d1, c2, d2]
          repeat refine ⟨by omega, ?_⟩
          refine hK _ ?_; clear hK K
          refine awp_ret ?_
          have hj3 : j < 3 := by omega
          have hee : errB p (g (wayX n g u k)) x = true := errB_iff.2 ⟨j, hj3, d2⟩
          have hej := errJ_at hj3 hjz d2
          refine ⟨_, Sub.refl _, ?_⟩
          simp [go_sem, roundQ, jumpOf, mvNot, mvIn, hee, hej]
          exact leaves_app (by simp [go_sem, leavesL_refl]; exact hLu)
        · have d2 := c2; try simp at d2
          refine awp_skip ?_
          refine awp_reg_end fun K hK => ?_
          simp [go_sem, c0, d0, mxJ, c1, d1, c2, d2]
          repeat refine ⟨by omega, ?_⟩
          refine hK _ ?_; clear hK K
          refine awp_reg_end fun K hK => ?_
          simp [go_sem, c0, d0, mxJ, c1, d1, c2, d2]
          try simp (disch := omega) only [wrapI]
          repeat refine ⟨by omega, ?_⟩
          refine hK _ ?_; clear hK K
          refine ⟨j + 1, back_of' (by simp [go_sem, wrap_succ (i := j) (by omega), c0, d0, mxJ, c1, d1, c2, d2]) ((leaves_app (by simp [go_sem]))) (by (simp [go_sem, wrap_succ (i := j) (by omega), c0, d0, mxJ, c1, d1, c2, d2] <;> omega)), ⟨by omega, fun i hi => by rcases Nat.lt_or_eq_of_le (Nat.le_of_lt_succ hi) with h | h; exact hjz i h; rw [h]; exact d2⟩, by first | omega | (dsimp only; omega)⟩
      · have d1 := c1; try simp at d1
        obtain rfl : j = 3 := by omega
        refine awp_exit ?_
        have hee : errB p (g (wayX n g u k)) x = false := by
          cases hb : errB p (g (wayX n g u k)) x with
          | false => rfl
          | true =>
            obtain ⟨i, hi, hne⟩ := errB_iff.1 hb
            exact absurd (hjz i hi) hne
        refine ⟨_, Sub.refl _, ?_⟩
        simp [go_sem, roundQ, jumpOf, mvNot, mvIn, hee, mxK]
        exact leaves_app (by simp [go_sem, leavesL_refl])
    by_cases hE : ∃ k, k < wayK n g u ∧ errB p (g (wayX n g u k)) x = true
    · obtain ⟨k1, hk1, hk2⟩ := hE
      obtain ⟨k0, hk3, hk4, hk5⟩ := first_of (p := fun k => errB p (g (wayX n g u k)) x = true) k1 hk2
      have hk5 : ∀ r, r < k0 → errB p (g (wayX n g u r)) x = false := fun r hr => by simpa using hk5 r hr
      have hR : Ways (fun i => σ ++ [.var (p.enc.map .d), .var [.d (I x)], .var [.d (I 0)], .var [.d (I (if i = k0 + 1 then 23 else 0))], .var [.d (I (if i = k0 + 1 then mxJ p (g (wayX n g u k0)) x (mxK n g p u x k0) (errJ p (g (wayX n g u k0)) x) else mxK n g p u x i))], .var [.d (SL c 3 Row.enc n g)], .var [.d (I u)], .lp La (if i = k0 + 1 then .done else .ready) (if i = k0 + 1 then some .ret else none)]) c n g u (k0 + 1) (wayX n g u) false (σ.length + 7) (σ.length + 5) (σ.length + 6) (σ.length + 50) := by
        refine ⟨fun i => by simp [go_sem], fun i => by simp [go_sem], fun i => by simp [go_sem], fun i => by simp [go_sem], fun i => leaves_app (by simp [go_sem]; right; exact hLu), fun i => leaves_app (by simp [go_sem]; right; exact hLu), fun i => by simp, by omega, by omega, by omega, by rw [if_neg (by omega)]; have := hway.first; rw [if_neg (by omega)] at this; exact this, fun i hi => hway.lt i (by omega), fun i hi => hway.mid i (by omega), fun i hi => ?_, fun i hi => ?_, fun i hi h => by cases h⟩
        · simpa [show ¬ i = k0 by omega, show ¬ i = k0 + 1 by omega, hk5 i (by omega)] using hround i (by omega)
        · obtain rfl : i = k0 := by omega
          simpa [hk4] using hround i (by omega)
      have h3 := policy_above_1_cs σ _ c n g u (k0 + 1) _ false _ _ _ _ hR hn
      refine CS.mono (Q := fun r' σ' X' => X' = [σ.length + 50] ∧ r' = .tup [] ∧ σ' = _) (by simpa [go_sem, mxK] using h3) ?_
      rintro r' σ' X ⟨rfl, rfl, rfl⟩
      clear h3 hR hround hLa hcl
      refine ⟨σ ++ [.var (p.enc.map .d), .var [.d (I x)], .var [.d (I 0)], .var [.d (I 23)], .var [.d (I (mxJ p (g (wayX n g u k0)) x (mxK n g p u x k0) (errJ p (g (wayX n g u k0)) x)))], .var [.d (SL c 3 Row.enc n g)], .var [.d (I u)]], La, .done, some .ret, by simp [go_sem], leaves_app (by simp [go_sem]), by simp, by simp [mvNot], ?_⟩
      have hno := open_no (gr := fun d => wayG n g p u d) (d := d) (fun e h1 h2 => by
        by_cases h3 : e < x
        · exact hx3 e h1 h3
        · exact hctx.err (by omega) hx2 (by omega : k0 < wayK n g u) hk4 e (by omega) h2)
      simp [jumpQ, go_sem, scrub', AV.avoids, avoidsL, Tryz.results29, hz, hno]
    · have hE : ∀ k, k < wayK n g u → errB p (g (wayX n g u k)) x = false := fun k hk => by
        cases hb : errB p (g (wayX n g u k)) x with
        | false => rfl
        | true => exact absurd ⟨k, hk, hb⟩ hE
      obtain ⟨hm1, hm2, hm3, hm4⟩ := hctx.max (by omega) hx2 hE
      have hR : Ways (fun i => σ ++ [.var (p.enc.map .d), .var [.d (I x)], .var [.d (I 0)], .var [.d (I 0)], .var [.d (I (mxK n g p u x i))], .var [.d (SL c 3 Row.enc n g)], .var [.d (I u)], .lp La .ready none]) c n g u (wayK n g u) (wayX n g u) true (σ.length + 7) (σ.length + 5) (σ.length + 6) (σ.length + 50) := by
        refine ⟨fun i => by simp [go_sem], fun i => by simp [go_sem], fun i => by simp [go_sem], fun i => by simp [go_sem], fun i => leaves_app (by simp [go_sem]), fun i => leaves_app (by simp [go_sem]), fun i => by simp, by omega, by omega, by omega, hway.first, hway.lt, hway.mid, fun i hi => ?_, fun i hi => ?_, fun i hi _ => hway.fin i hi⟩
        · simpa [hE i (by omega)] using hround i (by omega)
        · simpa [hE i (by omega)] using hround i (by omega)
      have h3 := policy_above_1_cs σ _ c n g u (wayK n g u) _ true _ _ _ _ hR hn
      refine CS.mono (Q := fun r' σ' X' => X' = [σ.length + 50] ∧ r' = .tup [] ∧ σ' = _) (by simpa [go_sem, mxK] using h3) ?_
      rintro r' σ' X ⟨rfl, rfl, rfl⟩
      clear h3 hR hround hLa hcl
      refine ⟨σ ++ [.var (p.enc.map .d), .var [.d (I x)], .var [.d (I 0)], .var [.d (I 0)], .var [.d (I (mxK n g p u x (wayK n g u)))], .var [.d (SL c 3 Row.enc n g)], .var [.d (I u)]], La, .ready, none, by simp [go_sem], leaves_app (by simp [go_sem]), by simp, by simp [mvNot], ?_⟩
      simp [jumpQ, go_sem, scrub', AV.avoids, avoidsL]
      refine awp_seq ?_
      refine awp_reg_seq fun K hK => ?_
      simp [go_sem, c0, d0]
      repeat refine ⟨by omega, ?_⟩
      refine hK _ ?_; clear hK K
      refine awp_forget [0, 2, 5, 7, 8, 9, 11, 12, 29, 53] (by simp only [restr, List.contains_cons, List.contains_nil, Nat.reduceBEq, Bool.or_false, Bool.or_true, Bool.true_or, Bool.false_or, if_true, if_false, Bool.false_eq_true]; rfl) ?_
      refine awp_cond rfl (fun c3 => ?_) (fun c3 => ?_)
      · have d3 := c3; try simp at d3
        have hop := open_at (gr := fun d => wayG n g p u d) hx1 hx2 (hm4 d3) hx3
        refine awp_reg_seq fun K hK => ?_
        simp [go_sem, c0, d0, c3, d3]
        repeat refine ⟨by omega, ?_⟩
        refine hK _ ?_; clear hK K
        refine awp_ret ?_
        rw [hz, hop]; simp [go_sem, Tryz.results29, d3]
      · have d3 := c3; try simp at d3
        refine awp_skip ?_
        refine awp_reg_end fun K hK => ?_
        simp [go_sem, c0, d0, c3, d3]
        repeat refine ⟨by omega, ?_⟩
        refine hK _ ?_; clear hK K
        refine ⟨mxK n g p u x (wayK n g u), back_of' (by simp [go_sem, c0, d0, c3, d3]) ((leaves_app (by simp [go_sem]))) (by (simp [go_sem, c0, d0, c3, d3] <;> omega)), ⟨by omega, by omega, fun e h1 h2 => by by_cases h3 : e < x; exact hx3 e h1 h3; exact hm3 e (by omega) h2⟩, by first | omega | (dsimp only; omega)⟩
end Go.Proofs.YtkochmppmpmddaaGreat

/-! Dn -/
namespace Go.Proofs.YtkochmppmpmddaaGreat
open Go.Abs Go.Arch
set_option linter.unusedVariables false
set_option linter.unusedSimpArgs false
set_option maxRecDepth 100000
set_option maxHeartbeats 1000000
noncomputable def nextR (n : Nat) (g : Nat → Row) (p : Pol) (u x : Int) : Int := if (nth (wayG n g p u x) 0).Kind = 1 then min (nth (wayG n g p u x) 0).Until (ruleR p (nth (wayG n g p u x) 0).Source).1.In.Until else (nth (wayG n g p u x) 0).Until
theorem rule_is {p : Pol} (h : check p.nc p.gc = 0) {i : Nat} (hi : i < p.nc) : ruleR p (p.gc i).ID = (p.gc i, true) := by
  have hasc : ∀ i, i < p.nc → ∀ j, j < i → (p.gc j).ID < (p.gc i).ID := by
    intro i
    induction i with
    | zero => intro _ j hj; omega
    | succ i ih =>
      intro hi j hj
      have h3 := ((check_zero h).2 (i + 1) hi).2.1 (by omega)
      simp only [Nat.add_sub_cancel] at h3
      rcases Nat.lt_or_eq_of_le (Nat.le_of_lt_succ hj) with h | h
      · have := ih (by omega) j h; omega
      · rw [h]; exact h3
  rcases idx_spec (fun r : Rule => r.ID == (p.gc i).ID) (lst p.nc p.gc) 0 with ⟨h2, h3⟩ | ⟨q, h2, h3, x, h4, h5, _⟩
  · have := h3 (p.gc i) (by simp only [lst, List.mem_map, List.mem_range]; exact ⟨i, hi, rfl⟩)
    simp at this
  · rw [lst_length] at h2
    rw [lst_get h2] at h4
    cases h4
    have he : (p.gc q).ID = (p.gc i).ID := by simpa using h5
    have hq : q = i := by
      rcases Nat.lt_trichotomy q i with h | h | h
      · have := hasc i hi q h; omega
      · exact h
      · have := hasc q h2 i h; omega
    subst hq
    unfold ruleR
    rw [h3, if_neg (by omega)]
    simp
theorem lastF_ge0 (r : Rule) (m : Dating) : True := trivial
theorem Ctx.next {n : Nat} {g : Nat → Row} {p : Pol} {u : Int} (h : Ctx n g p u) {x : Int} (h0 : 0 ≤ x) (h1 : x ≤ 1048575) (hne : wayG n g p u x ≠ []) : x < nextR n g p u x ∧ nextR n g p u x ≤ 1048576 ∧ ∀ e, x ≤ e → e < nextR n g p u x → wayG n g p u e ≠ [] := by
  obtain ⟨hc1, hc2, hc3, hc4, hy1, hy2, hsc⟩ := pol_parts h.hc
  have hl : 0 < (wayG n g p u x).length := List.length_pos_iff.2 hne
  obtain ⟨k, hk, j, hj, y, hy, he⟩ := mem_wayG.1 (nth_mem hl)
  have hs := sub_ok hsc (g (wayX n g u k)).Unit
  have hnx : nextR n g p u x = if y.Kind = 1 then min y.Until (ruleR p y.Source).1.In.Until else y.Until := by unfold nextR; rw [← he]; rfl
  have hj3 : j = 0 ∨ j = 1 ∨ j = 2 := by omega
  rcases hj3 with rfl | rfl | rfl
  · rw [clsG_0] at hy
    split at hy
    · rename_i hcl
      have hin : (inForceR p.nc p.gc (subjR p (g (wayX n g u k)).Unit).1.Class x).2 = true := by
        have := hcl.1
        unfold closedR at this
        split at this
        · cases this
        · rename_i hn
          cases hb : (inForceR p.nc p.gc (subjR p (g (wayX n g u k)).Unit).1.Class x).2 with
          | true => rfl
          | false => exact absurd (.inl hb) hn
      obtain ⟨i, h2, h3, h4, h5, h6⟩ := inForce_is hin
      have hyv : y = ⟨1, (p.gc i).ID, 0, lastF (p.gc i) (subjR p (g (wayX n g u k)).Unit).1.Made + 1⟩ := by
        have h7 := hcl.1
        simp only [List.mem_singleton] at hy
        rw [hy]
        unfold closedR at h7 ⊢
        split at h7
        · cases h7
        · rename_i hn
          rw [if_neg hn, h6]
      have h8 : x < lastF (p.gc i) (subjR p (g (wayX n g u k)).Unit).1.Made + 1 := by
        have h7 := hcl.1
        unfold closedR at h7
        split at h7
        · cases h7
        · rename_i hn
          rw [h6] at hn; omega
      have hnx2 : nextR n g p u x = min (lastF (p.gc i) (subjR p (g (wayX n g u k)).Unit).1.Made + 1) (p.gc i).In.Until := by
        rw [hnx, hyv, if_pos rfl]
        simp only [rule_is hc1 h2]
      rw [hnx2]
      have hf := ((check_zero hc1).2 i h2).1
      simp [formed, spanOk] at hf
      refine ⟨by omega, by omega, fun e h9 h10 => wayG_some hk (by omega : 0 < 3) ?_⟩
      rw [clsG_0, if_pos ⟨(closed_iff hc1 hs.made e).2 ⟨i, h2, h3, by omega, by omega, by omega⟩, hcl.2⟩]
      simp
    · simp at hy
  · rw [clsG_1, prsGr_ok h.hc hs h0 h1, mem_prs] at hy
    obtain ⟨z, hz1, hz2, hyv⟩ := hy
    have hnx2 : nextR n g p u x = untilP (p.gp (findP p.np p.gp ((subjR p (g (wayX n g u k)).Unit).1.ps z)).toNat) (subjR p (g (wayX n g u k)).Unit).1.Made p.Years := by
      rw [hnx, hyv]; exact if_neg (by simp [prsGd])
    rw [hnx2]
    have := untilP_le (p.gp (findP p.np p.gp ((subjR p (g (wayX n g u k)).Unit).1.ps z)).toNat) (subjR p (g (wayX n g u k)).Unit).1.Made p.Years
    refine ⟨hz2, this, fun e h9 h10 => wayG_some hk (by omega : 1 < 3) ?_⟩
    rw [clsG_1, prsGr_ok h.hc hs (by omega) (by omega)]
    intro hn
    have := mem_prs.2 ⟨z, hz1, h10, rfl⟩
    rw [hn] at this; simp at this
  · rw [clsG_2] at hy
    split at hy
    · simp at hy
    · rename_i hacc
      obtain ⟨i, h2, h3, hyv⟩ := (mem_agr hc3).1 hy
      have h4 := agrCl_iff.1 h3
      have h5 := agrOk_iff.1 h4.1
      have hnx2 : nextR n g p u x = min (p.ga i).Until (p.ga i).In.Until := by
        rw [hnx, hyv]; exact if_neg (by simp [agrGd])
      rw [hnx2]
      refine ⟨by omega, by omega, fun e h9 h10 => wayG_some hk (by omega : 2 < 3) ?_⟩
      rw [clsG_2, if_neg hacc]
      intro hn
      have := (mem_agr (d := e) hc3).2 ⟨i, h2, agrCl_iff.2 ⟨h4.1, h4.2.1, by omega, by omega, by omega⟩, rfl⟩
      rw [hn] at this; simp at this
theorem ask_day {n : Nat} {g : Nat → Row} {p : Pol} {r u d : Int} (h : askR n g p r u d = 0) {x : Int} (h0 : 0 ≤ x) (h1 : x ≤ 1048575) : askR n g p r u x = 0 := by
  obtain ⟨a1, a2, a3, a4, a5, a6⟩ := ask_zero h
  unfold askR
  rw [if_neg (by simp [a1, a2]), if_neg (by rintro (h | h | h); rw [a3] at h; cases h; omega; omega), if_neg (by omega)]
theorem wrap_big {i : Nat} (h : i < 9223372036854775807) : IntKind.i64.wrap ((i : Int) + 1) = ((i + 1 : Nat) : Int) := by
  rw [IntKind.wrap_i64]; omega
theorem ref35_rule_cs (σ : List Blk) (p : Pol) (k : Int) (hp : PolOk p) : CSF Tryz.prog 71 [.agg (p.enc.map .d), .d (I k)] σ (.tup [.agg ((ruleR p k).1.enc.map .d), .d (B (ruleR p k).2)]) := by
  refine CSF.of_body T.en71 Tryz.func71 rfl (by simp [Tryz.ntmps71]) (by simp [go_sem]) fun hwf => ?_
  refine awp_reg_seq fun K hK => ?_
  simp [go_sem, Tryz.ntmps71]
  repeat refine ⟨by omega, ?_⟩
  refine hK _ ?_; clear hK K
  refine awp_seq ?_
  refine awp_reg_seq fun K hK => ?_
  simp [go_sem]
  repeat refine ⟨by omega, ?_⟩
  refine hK _ ?_; clear hK K
  refine awp_block ?_
  refine awp_forget [1, 4, 9, 10, 11] (by simp [go_sem, restr]; rfl) ?_
  refine awp_loopU (α := Nat) (fun i => [(11, .d (I i))]) (fun i => _) (fun i => i ≤ p.nc ∧ idxFrom (fun r : Rule => r.ID == k) (lst p.nc p.gc) 0 = idxFrom (fun r : Rule => r.ID == k) ((lst p.nc p.gc).drop i) i) (fun i => p.nc - i) 0 (by simp [go_sem]) (rfl) (⟨by omega, rfl⟩) ?_
  rintro i ⟨hi, hx⟩
  refine awp_reg_seq fun K hK => ?_
  simp [go_sem]
  repeat refine ⟨by omega, ?_⟩
  refine hK _ ?_; clear hK K
  refine awp_seq ?_
  refine awp_forget [1, 4, 9, 10, 11, 12] (by simp only [restr, List.contains_cons, List.contains_nil, Nat.reduceBEq, Bool.or_false, Bool.or_true, Bool.true_or, Bool.false_or, if_true, if_false, Bool.false_eq_true]; rfl) ?_
  refine awp_cond rfl (fun c0 => ?_) (fun c0 => ?_)
  · have d0 := c0; try simp at d0
    rw [drop_lst d0, idxFrom] at hx
    refine awp_skip ?_
    refine awp_seq ?_
    refine awp_block ?_
    refine awp_reg_seq fun K hK => ?_
    simp [go_sem, c0, d0]
    repeat refine ⟨by omega, ?_⟩
    refine hK _ ?_; clear hK K
    refine awp_reg_seq fun K hK => ?_
    simp [go_sem, c0, d0]
    repeat refine ⟨by omega, ?_⟩
    refine hK _ ?_; clear hK K
    refine awp_forget [1, 4, 7, 9, 10, 11, 18] (by simp only [restr, List.contains_cons, List.contains_nil, Nat.reduceBEq, Bool.or_false, Bool.or_true, Bool.true_or, Bool.false_or, if_true, if_false, Bool.false_eq_true]; rfl) ?_
    refine awp_cond rfl (fun c1 => ?_) (fun c1 => ?_)
    · have d1 := c1; try simp at d1
      refine awp_reg_seq fun K hK => ?_
      simp [go_sem, c0, d0, c1, d1]
      repeat refine ⟨by omega, ?_⟩
      refine hK _ ?_; clear hK K
      refine awp_ret ?_
      rw [if_pos (by simp [d1])] at hx
      have hz : ruleR p k = (p.gc i, true) := by unfold ruleR; rw [hx, if_neg (by omega)]; simp
      rw [hz]; simp [go_sem, Tryz.results71, d1]
    · have d1 := c1; try simp at d1
      refine awp_skip ?_
      refine awp_reg_end fun K hK => ?_
      simp [go_sem, c0, d0, c1, d1]
      try simp (disch := omega) only [wrapI]
      repeat refine ⟨by omega, ?_⟩
      refine hK _ ?_; clear hK K
      refine ⟨i + 1, back_of' (by simp) (.refl _) (by (simp [go_sem, wrap_succ (i := i) (by have := hp.nc; omega), c0, d0, c1, d1] <;> omega)), ⟨by omega, by rw [hx, if_neg (by simp [d1])]⟩, by first | omega | (dsimp only; omega)⟩
  · have d0 := c0; try simp at d0
    rw [drop_all d0, idxFrom] at hx
    refine awp_exit ?_
    refine awp_reg_seq fun K hK => ?_
    simp [go_sem, c0, d0]
    repeat refine ⟨by omega, ?_⟩
    refine hK _ ?_; clear hK K
    refine awp_ret ?_
    have hz : ruleR p k = (Rule.zero, false) := by unfold ruleR; rw [hx, if_pos (by omega)]
    rw [hz]; simp [go_sem, Tryz.results71, Rule.zero]
theorem ref35_Opens_cs (σ : List Blk) (c : Option Nat) (n : Nat) (g : Nat → Row) (p : Pol) (u d : Int) (hn : n < 1000000000) (hp : PolOk p) : CSF Tryz.prog 32 [.d (SL c 3 Row.enc n g), .agg (p.enc.map .d), .d (I u), .d (I d)] σ (.tup [.d (I (opR n g p u d).1), .d (I (opR n g p u d).2)]) := by
  refine CSF.of_body T.en32 Tryz.func32 rfl (by simp [Tryz.ntmps32]) (by simp [go_sem]) fun hwf => ?_
  refine awp_reg_seq fun K hK => ?_
  simp [go_sem, Tryz.ntmps32]
  repeat refine ⟨by omega, ?_⟩
  refine hK _ ?_; clear hK K
  refine awp_seq ?_
  refine awp_reg_seq fun K hK => ?_
  simp [go_sem]
  repeat refine ⟨by omega, ?_⟩
  refine CSk.mk (ref35_start_cs _ c n g p 1 u d hn hp) ?_
  simp [go_sem]
  repeat refine ⟨by omega, ?_⟩
  refine hK _ ?_; clear hK K
  refine awp_reg_seq fun K hK => ?_
  simp [go_sem]
  repeat refine ⟨by omega, ?_⟩
  refine hK _ ?_; clear hK K
  refine awp_forget [0, 2, 3, 5, 10, 22] (by simp only [restr, List.contains_cons, List.contains_nil, Nat.reduceBEq, Bool.or_false, Bool.or_true, Bool.true_or, Bool.false_or, if_true, if_false, Bool.false_eq_true]; rfl) ?_
  refine awp_cond rfl (fun c0 => ?_) (fun c0 => ?_)
  · have d0 := c0; try simp at d0
    have hz : opR n g p u d = (0, askR n g p 1 u d) := by unfold opR; rw [if_pos d0]
    refine awp_reg_seq fun K hK => ?_
    simp [go_sem, c0, d0]
    repeat refine ⟨by omega, ?_⟩
    refine hK _ ?_; clear hK K
    refine awp_ret ?_
    rw [hz]; simp [go_sem, Tryz.results32]
  · have d0 := c0; try simp at d0
    have hz : opR n g p u d = openD (fun d => wayG n g p u d) d := by unfold opR; rw [if_neg (by simp [d0])]
    obtain ⟨hr, hpc, hir, hd1, hd2, hfu⟩ := ask_zero d0
    have hctx : Ctx n g p u := ⟨hr, hpc, hfu⟩
    have hle := rows_le hr
    refine awp_skip ?_
    refine awp_seq ?_
    refine awp_block ?_
    refine awp_forget [0, 2, 3, 5] (by simp [go_sem, restr]; rfl) ?_
    refine awp_loopU (α := Int) (fun x => [(3, .d (I x))]) (fun x => _) (fun x => d ≤ x ∧ x ≤ 1048576 ∧ ∀ e, d ≤ e → e < x → wayG n g p u e ≠ []) (fun x => (1048576 - x).toNat) d (by simp [go_sem]) (rfl) (⟨Int.le_refl _, by omega, fun e h1 h2 => by omega⟩) ?_
    rintro x ⟨hx1, hx2, hx3⟩
    refine awp_seq ?_
    refine awp_reg_seq fun K hK => ?_
    simp [go_sem, c0, d0]
    repeat refine ⟨by omega, ?_⟩
    refine hK _ ?_; clear hK K
    refine awp_forget [0, 2, 3, 5, 25] (by simp only [restr, List.contains_cons, List.contains_nil, Nat.reduceBEq, Bool.or_false, Bool.or_true, Bool.true_or, Bool.false_or, if_true, if_false, Bool.false_eq_true]; rfl) ?_
    refine awp_cond rfl (fun c1 => ?_) (fun c1 => ?_)
    · have d1 := c1; try simp at d1
      have hg1 : grdR n g p u x = (wayG n g p u x, 0) := by unfold grdR; rw [if_neg (by simp [ask_day d0 (x := x) (by omega) d1])]
      refine awp_skip ?_
      refine awp_block ?_
      refine awp_reg_seq fun K hK => ?_
      simp [go_sem, c0, d0, c1, d1, hg1]
      repeat refine ⟨by omega, ?_⟩
      refine CSk.mk (ref35_Grounds_cs _ c n g p u x hn hp) ?_
      simp [go_sem, c0, d0, c1, d1, hg1]
      repeat refine ⟨by omega, ?_⟩
      refine hK _ ?_; clear hK K
      refine awp_seq ?_
      refine awp_reg_seq fun K hK => ?_
      simp [go_sem, c0, d0, c1, d1, hg1]
      repeat refine ⟨by omega, ?_⟩
      refine hK _ ?_; clear hK K
      refine awp_forget [0, 2, 3, 5, 11, 36] (by simp only [restr, List.contains_cons, List.contains_nil, Nat.reduceBEq, Bool.or_false, Bool.or_true, Bool.true_or, Bool.false_or, if_true, if_false, Bool.false_eq_true]; rfl) ?_
      refine awp_cond rfl (fun c2 => ?_) (fun c2 => ?_)
      · have d2 := c2; try simp at d2
        have hop := open_at (gr := fun d => wayG n g p u d) hx1 d1 d2 hx3
        refine awp_reg_seq fun K hK => ?_
        simp [go_sem, c0, d0, c1, d1, hg1, c2, d2]
        repeat refine ⟨by omega, ?_⟩
        refine hK _ ?_; clear hK K
        refine awp_ret ?_
        rw [hz, hop]; simp [go_sem, Tryz.results32]
      · have d2 := c2; try simp at d2
        obtain ⟨hn1, hn2, hn3⟩ := hctx.next (by omega) d1 d2
        have hlp : 0 < (wayG n g p u x).length := List.length_pos_iff.2 d2
        refine awp_skip ?_
        refine awp_reg_seq fun K hK => ?_
        simp [go_sem, c0, d0, c1, d1, hg1, c2, d2]
        repeat refine ⟨by omega, ?_⟩
        refine hK _ ?_; clear hK K
        refine awp_seq ?_
        refine awp_reg_seq fun K hK => ?_
        simp [go_sem, c0, d0, c1, d1, hg1, c2, d2]
        repeat refine ⟨by omega, ?_⟩
        refine hK _ ?_; clear hK K
        refine awp_forget [0, 2, 5, 11, 13, 46] (by simp only [restr, List.contains_cons, List.contains_nil, Nat.reduceBEq, Bool.or_false, Bool.or_true, Bool.true_or, Bool.false_or, if_true, if_false, Bool.false_eq_true]; rfl) ?_
        refine awp_cond rfl (fun c3 => ?_) (fun c3 => ?_)
        · have d3 := c3; try simp at d3
          have hnx : nextR n g p u x = min (nth (wayG n g p u x) 0).Until (ruleR p (nth (wayG n g p u x) 0).Source).1.In.Until := by unfold nextR; rw [if_pos d3]
          apply awp_own_seq 11 9 10 T.mixed (by kernel_rfl)
          · intro τ K hK
            simp [go_sem, c0, d0, c1, d1, hg1, c2, d2, c3, d3, hnx]
            repeat refine ⟨by omega, ?_⟩
            refine CSg.mk (ref35_rule_cs _ p (nth (wayG n g p u x) 0).Source hp) ?_
            simp [go_sem, c0, d0, c1, d1, hg1, c2, d2, c3, d3, hnx]
            repeat refine ⟨by omega, ?_⟩
            exact hK _ _
          intro K hK
          simp [go_sem, c0, d0, c1, d1, hg1, c2, d2, c3, d3, hnx]
          repeat refine ⟨by omega, ?_⟩
          refine hK _ ?_; clear hK K
          refine awp_reg_end fun K hK => ?_
          simp [go_sem, c0, d0, c1, d1, hg1, c2, d2, c3, d3, hnx]
          repeat refine ⟨by omega, ?_⟩
          refine hK _ ?_; clear hK K
          refine awp_reg_end fun K hK => ?_
          simp [go_sem, c0, d0, c1, d1, hg1, c2, d2, c3, d3, hnx]
          repeat refine ⟨by omega, ?_⟩
          refine hK _ ?_; clear hK K
          refine ⟨nextR n g p u x, back_of' (by simp) (.refl _) (by (simp [go_sem, c0, d0, c1, d1, hg1, c2, d2, c3, d3, hnx] <;> omega)), ⟨by omega, hn2, fun e h1 h2 => by by_cases h3 : e < x; exact hx3 e h1 h3; exact hn3 e (by omega) h2⟩, by first | omega | (dsimp only; omega)⟩
        · have d3 := c3; try simp at d3
          have hnx : nextR n g p u x = (nth (wayG n g p u x) 0).Until := by unfold nextR; rw [if_neg d3]
          refine awp_skip ?_
          refine awp_reg_end fun K hK => ?_
          simp [go_sem, c0, d0, c1, d1, hg1, c2, d2, c3, d3, hnx]
          repeat refine ⟨by omega, ?_⟩
          refine hK _ ?_; clear hK K
          refine ⟨nextR n g p u x, back_of' (by simp) (.refl _) (by (simp [go_sem, c0, d0, c1, d1, hg1, c2, d2, c3, d3, hnx] <;> omega)), ⟨by omega, hn2, fun e h1 h2 => by by_cases h3 : e < x; exact hx3 e h1 h3; exact hn3 e (by omega) h2⟩, by first | omega | (dsimp only; omega)⟩
    · have d1 := c1; try simp at d1
      have hop := open_no (gr := fun d => wayG n g p u d) (d := d) (fun e h1 h2 => hx3 e h1 (by omega))
      refine awp_exit ?_
      refine awp_reg_seq fun K hK => ?_
      simp [go_sem, c0, d0, c1, d1]
      repeat refine ⟨by omega, ?_⟩
      refine hK _ ?_; clear hK K
      refine awp_ret ?_
      rw [hz, hop]; simp [go_sem, Tryz.results32]
theorem ref35_Same_cs (σ : List Blk) (x y : Acc) (hx : x.nr < 1000000000) (hy : y.nr < 1000000000) : CSF Tryz.prog 24 [.agg (x.enc.map .d), .agg (y.enc.map .d)] σ (.d (B (sameB x y))) := by
  refine CSF.of_body T.en24 Tryz.func24 rfl (by simp [Tryz.ntmps24]) (by simp [go_sem]) fun hwf => ?_
  refine awp_reg_seq fun K hK => ?_
  simp [go_sem, Tryz.ntmps24]
  repeat refine ⟨by omega, ?_⟩
  refine hK _ ?_; clear hK K
  refine awp_seq ?_
  refine awp_reg_seq fun K hK => ?_
  simp [go_sem]
  repeat refine ⟨by omega, ?_⟩
  refine hK _ ?_; clear hK K
  refine awp_forget [2, 3, 40] (by simp only [restr, List.contains_cons, List.contains_nil, Nat.reduceBEq, Bool.or_false, Bool.or_true, Bool.true_or, Bool.false_or, if_true, if_false, Bool.false_eq_true]; rfl) ?_
  refine awp_cond rfl (fun c0 => ?_) (fun c0 => ?_)
  · have d0 := c0; try simp at d0
    have hz : sameB x y = false := by
      cases hb : sameB x y with
      | false => rfl
      | true =>
        simp [sameB] at hb
        have hl := congrArg List.length (eqL_iff.1 hb.2)
        rw [lst_length, lst_length] at hl
        rcases d0 with (((h | h) | h) | h) | h
        · exact absurd hb.1.1.1.1 h
        · exact absurd hb.1.1.1.2 h
        · exact absurd hb.1.1.2 h
        · exact absurd hb.1.2 h
        · omega
    refine awp_reg_seq fun K hK => ?_
    simp [go_sem, c0, d0]
    repeat refine ⟨by omega, ?_⟩
    refine hK _ ?_; clear hK K
    refine awp_ret ?_
    rw [hz]; simp [go_sem, Tryz.results24]
  · have d0 := c0; try simp at d0
    have hnr : x.nr = y.nr := by omega
    refine awp_skip ?_
    refine awp_seq ?_
    refine awp_reg_seq fun K hK => ?_
    simp [go_sem, c0, d0]
    repeat refine ⟨by omega, ?_⟩
    refine hK _ ?_; clear hK K
    refine awp_block ?_
    refine awp_forget [2, 3, 43, 44] (by simp [go_sem, restr]; rfl) ?_
    refine awp_loopU (α := Nat) (fun i => [(44, .d (I i))]) (fun i => σ ++ [.var (x.enc.map .d), .var (y.enc.map .d)]) (fun i => i ≤ x.nr ∧ ∀ q, q < i → x.rs q = y.rs q) (fun i => x.nr - i) 0 (by simp [go_sem]) (by simp [Acc.enc, d0.1.1.1.1, d0.1.1.1.2, d0.1.1.2, d0.1.2]) (by simp) ?_
    rintro i ⟨hi, hq⟩
    refine awp_reg_seq fun K hK => ?_
    simp [go_sem, c0, d0]
    repeat refine ⟨by omega, ?_⟩
    refine hK _ ?_; clear hK K
    refine awp_seq ?_
    refine awp_forget [2, 3, 43, 44, 45] (by simp only [restr, List.contains_cons, List.contains_nil, Nat.reduceBEq, Bool.or_false, Bool.or_true, Bool.true_or, Bool.false_or, if_true, if_false, Bool.false_eq_true]; rfl) ?_
    refine awp_cond rfl (fun c1 => ?_) (fun c1 => ?_)
    · have d1 := c1; try simp at d1
      refine awp_skip ?_
      refine awp_seq ?_
      refine awp_block ?_
      refine awp_reg_seq fun K hK => ?_
      simp [go_sem, c0, d0, c1, d1]
      repeat refine ⟨by omega, ?_⟩
      refine hK _ ?_; clear hK K
      refine awp_draw_seq 11 T.mixed (by kernel_rfl) fun K hK => ?_
      simp [go_sem, c0, d0, c1, d1]
      repeat refine ⟨by omega, ?_⟩
      refine hK _ ?_; clear hK K
      refine awp_forget [2, 3, 43, 44, 57] (by simp only [restr, List.contains_cons, List.contains_nil, Nat.reduceBEq, Bool.or_false, Bool.or_true, Bool.true_or, Bool.false_or, if_true, if_false, Bool.false_eq_true]; rfl) ?_
      refine awp_cond rfl (fun c2 => ?_) (fun c2 => ?_)
      · have d2 := c2; try simp at d2
        have hz : sameB x y = false := by
          have := eqL_at (n := x.nr) (m := y.nr) (f := x.rs) (g := y.rs) (i := i) (by omega) (by omega) (fun h => by simp [h] at d2)
          simp [sameB, this]
        refine awp_reg_seq fun K hK => ?_
        simp [go_sem, c0, d0, c1, d1, c2, d2]
        repeat refine ⟨by omega, ?_⟩
        refine hK _ ?_; clear hK K
        refine awp_ret ?_
        rw [hz]; simp [go_sem, Tryz.results24]
      · have d2 := c2; try simp at d2
        have heq : x.rs i = y.rs i := by
          revert c2; rcases x.rs i with ⟨⟨_,_,_,_⟩,_⟩; rcases y.rs i with ⟨⟨_,_,_,_⟩,_⟩; simp <;> (intros; simp_all)
        refine awp_skip ?_
        refine awp_reg_end fun K hK => ?_
        simp [go_sem, c0, d0, c1, d1, c2, d2]
        try simp (disch := omega) only [wrapI]
        repeat refine ⟨by omega, ?_⟩
        refine hK _ ?_; clear hK K
        refine ⟨i + 1, back_of' (by simp [go_sem, wrap_succ (i := i) (by omega), c0, d0, c1, d1, c2, d2]) (.refl _) (by (simp [go_sem, wrap_succ (i := i) (by omega), c0, d0, c1, d1, c2, d2] <;> omega)), ⟨by omega, fun q hq1 => by rcases Nat.lt_or_eq_of_le (Nat.le_of_lt_succ hq1) with h | h; exact hq q h; rw [h]; exact heq⟩, by first | omega | (dsimp only; omega)⟩
    · have d1 := c1; try simp at d1
      have hz : sameB x y = true := by
        have := eqL_yes (n := x.nr) (m := y.nr) (f := x.rs) (g := y.rs) hnr (fun q hq1 => hq q (by omega))
        simp [sameB, this, d0.1.1.1.1, d0.1.1.1.2, d0.1.1.2, d0.1.2]
      refine awp_exit ?_
      refine awp_reg_seq fun K hK => ?_
      simp [go_sem, c0, d0, c1, d1]
      repeat refine ⟨by omega, ?_⟩
      refine hK _ ?_; clear hK K
      refine awp_ret ?_
      rw [hz]; simp [go_sem, Tryz.results24]
theorem few32_cs (σ : List Blk) (c : Option Nat) (n : Nat) (g : Nat → Prs) (hn : n ≤ 9223372036854775807) : CSF Tryz.prog 39 [.d (SL c 6 Prs.enc n g)] σ (.d (B (prsFew n g))) := by
  refine CSF.of_body T.en39 Tryz.func39 rfl (by simp [Tryz.ntmps39]) (by simp [go_sem]) fun hwf => ?_
  refine awp_reg_seq fun K hK => ?_
  simp [go_sem, Tryz.ntmps39]
  repeat refine ⟨by omega, ?_⟩
  refine hK _ ?_; clear hK K
  refine awp_seq ?_
  refine awp_reg_seq fun K hK => ?_
  simp [go_sem]
  repeat refine ⟨by omega, ?_⟩
  refine hK _ ?_; clear hK K
  refine awp_block ?_
  refine awp_forget [0, 5, 6, 7] (by simp [go_sem, restr]; rfl) ?_
  refine awp_loopU (α := Nat) (fun i => [(7, .d (I i))]) (fun i => _) (fun i => i ≤ n ∧ ∀ q, q < i → (g q).Name.size ≤ 200) (fun i => n - i) 0 (by simp [go_sem]) (rfl) (by simp) ?_
  rintro i ⟨hi, hx⟩
  refine awp_reg_seq fun K hK => ?_
  simp [go_sem]
  repeat refine ⟨by omega, ?_⟩
  refine hK _ ?_; clear hK K
  refine awp_seq ?_
  refine awp_forget [0, 5, 6, 7, 8] (by simp only [restr, List.contains_cons, List.contains_nil, Nat.reduceBEq, Bool.or_false, Bool.or_true, Bool.true_or, Bool.false_or, if_true, if_false, Bool.false_eq_true]; rfl) ?_
  refine awp_cond rfl (fun c0 => ?_) (fun c0 => ?_)
  · have d0 := c0; try simp at d0
    refine awp_skip ?_
    refine awp_seq ?_
    refine awp_block ?_
    refine awp_reg_seq fun K hK => ?_
    simp [go_sem, c0, d0]
    repeat refine ⟨by omega, ?_⟩
    refine hK _ ?_; clear hK K
    refine awp_reg_seq fun K hK => ?_
    simp [go_sem, c0, d0]
    repeat refine ⟨by omega, ?_⟩
    refine hK _ ?_; clear hK K
    refine awp_forget [0, 5, 6, 7, 14] (by simp only [restr, List.contains_cons, List.contains_nil, Nat.reduceBEq, Bool.or_false, Bool.or_true, Bool.true_or, Bool.false_or, if_true, if_false, Bool.false_eq_true]; rfl) ?_
    refine awp_cond rfl (fun c1 => ?_) (fun c1 => ?_)
    · have d1 := c1; try simp at d1
      refine awp_reg_seq fun K hK => ?_
      simp [go_sem, c0, d0, c1, d1]
      repeat refine ⟨by omega, ?_⟩
      refine hK _ ?_; clear hK K
      refine awp_ret ?_
      rw [prsFew_no d0 (by omega)]; simp [go_sem, Tryz.results39]
    · have d1 := c1; try simp at d1
      refine awp_skip ?_
      refine awp_reg_end fun K hK => ?_
      simp [go_sem, c0, d0, c1, d1]
      try simp (disch := omega) only [wrapI]
      repeat refine ⟨by omega, ?_⟩
      refine hK _ ?_; clear hK K
      refine ⟨i + 1, back_of' (by simp) (.refl _) (by (simp [go_sem, wrap_big (i := i) (by omega), c0, d0, c1, d1] <;> omega)), ⟨by omega, fun q hq => by rcases Nat.lt_or_eq_of_le (Nat.le_of_lt_succ hq) with h | h; exact hx q h; rw [h]; omega⟩, by first | omega | (dsimp only; omega)⟩
  · have d0 := c0; try simp at d0
    obtain rfl : i = n := by omega
    refine awp_exit ?_
    refine awp_reg_seq fun K hK => ?_
    simp [go_sem, c0, d0]
    repeat refine ⟨by omega, ?_⟩
    refine hK _ ?_; clear hK K
    refine awp_ret ?_
    rw [prsFew_yes hx]; simp [go_sem, Tryz.results39]
theorem ref35_Few_cs (σ : List Blk) (c : Option Nat) (n : Nat) (g : Nat → Row) (p : Pol) (hs : p.ns ≤ 9223372036854775807) (hq : p.np ≤ 9223372036854775807) : CSF Tryz.prog 12 [.d (SL c 3 Row.enc n g), .agg (p.enc.map .d)] σ (.d (B (polFew n p))) := by
  refine CSF.of_body T.en12 Tryz.func12 rfl (by simp [Tryz.ntmps12]) (by simp [go_sem]) fun hwf => ?_
  refine awp_reg_seq fun K hK => ?_
  simp [go_sem, Tryz.ntmps12]
  repeat refine ⟨by omega, ?_⟩
  refine hK _ ?_; clear hK K
  refine awp_seq ?_
  refine awp_reg_seq fun K hK => ?_
  simp [go_sem]
  repeat refine ⟨by omega, ?_⟩
  refine hK _ ?_; clear hK K
  refine awp_block ?_
  refine awp_forget [0, 3, 8, 9, 10] (by simp [go_sem, restr]; rfl) ?_
  refine awp_loopU (α := Nat) (fun i => [(10, .d (I i))]) (fun i => _) (fun i => i ≤ p.ns ∧ ∀ q, q < i → (p.gs q).np ≤ 20) (fun i => p.ns - i) 0 (by simp [go_sem]) (rfl) (by simp) ?_
  rintro i ⟨hi, hx⟩
  refine awp_reg_seq fun K hK => ?_
  simp [go_sem]
  repeat refine ⟨by omega, ?_⟩
  refine hK _ ?_; clear hK K
  refine awp_seq ?_
  refine awp_forget [0, 3, 8, 9, 10, 11] (by simp only [restr, List.contains_cons, List.contains_nil, Nat.reduceBEq, Bool.or_false, Bool.or_true, Bool.true_or, Bool.false_or, if_true, if_false, Bool.false_eq_true]; rfl) ?_
  refine awp_cond rfl (fun c0 => ?_) (fun c0 => ?_)
  · have d0 := c0; try simp at d0
    refine awp_skip ?_
    refine awp_seq ?_
    refine awp_block ?_
    refine awp_reg_seq fun K hK => ?_
    simp [go_sem, c0, d0]
    repeat refine ⟨by omega, ?_⟩
    refine hK _ ?_; clear hK K
    refine awp_reg_seq fun K hK => ?_
    simp [go_sem, c0, d0]
    repeat refine ⟨by omega, ?_⟩
    refine hK _ ?_; clear hK K
    refine awp_forget [0, 3, 8, 9, 10, 17] (by simp only [restr, List.contains_cons, List.contains_nil, Nat.reduceBEq, Bool.or_false, Bool.or_true, Bool.true_or, Bool.false_or, if_true, if_false, Bool.false_eq_true]; rfl) ?_
    refine awp_cond rfl (fun c1 => ?_) (fun c1 => ?_)
    · have d1 := c1; try simp at d1
      have hz : polFew n p = false := by
        cases hb : polFew n p with
        | false => rfl
        | true =>
          simp [polFew, lst] at hb
          have := hb.1.1.1.1.1.1 i (by omega); omega
      refine awp_reg_seq fun K hK => ?_
      simp [go_sem, c0, d0, c1, d1]
      repeat refine ⟨by omega, ?_⟩
      refine hK _ ?_; clear hK K
      refine awp_ret ?_
      rw [hz]; simp [go_sem, Tryz.results12]
    · have d1 := c1; try simp at d1
      refine awp_skip ?_
      refine awp_reg_end fun K hK => ?_
      simp [go_sem, c0, d0, c1, d1]
      try simp (disch := omega) only [wrapI]
      repeat refine ⟨by omega, ?_⟩
      refine hK _ ?_; clear hK K
      refine ⟨i + 1, back_of' (by simp) (.refl _) (by (simp [go_sem, wrap_big (i := i) (by omega), c0, d0, c1, d1] <;> omega)), ⟨by omega, fun q hq => by rcases Nat.lt_or_eq_of_le (Nat.le_of_lt_succ hq) with h | h; exact hx q h; rw [h]; omega⟩, by first | omega | (dsimp only; omega)⟩
  · have d0 := c0; try simp at d0
    have hin : i = p.ns := by omega
    refine awp_exit ?_
    refine awp_reg_seq fun K hK => ?_
    simp [go_sem, c0, d0]
    repeat refine ⟨by omega, ?_⟩
    refine CSm.mk (ref31_Few_cs _ none p.nc p.gc) ?_
    simp [go_sem, c0, d0]
    repeat refine ⟨by omega, ?_⟩
    refine CSm.mk (few32_cs _ none p.np p.gp hq) ?_
    simp [go_sem, c0, d0]
    repeat refine ⟨by omega, ?_⟩
    refine CSm.mk (ref33_Few_cs _ none p.na p.ga) ?_
    simp [go_sem, c0, d0]
    repeat refine ⟨by omega, ?_⟩
    refine CSm.mk ((ref34_Few_cs _ none none p.nm 0 p.gm (fun _ => 0)).sub (by simp [go_sem, sameL, sameE, sameA])) ?_
    simp [go_sem, c0, d0]
    repeat refine ⟨by omega, ?_⟩
    refine hK _ ?_; clear hK K
    refine awp_ret ?_
    have hz : polFew n p = (decide ((n : Int) ≤ 30) && decide ((p.ns : Int) ≤ 30) && decide ((p.nc : Int) ≤ 20) && prsFew p.np p.gp && decide ((p.na : Int) ≤ 20) && decide ((p.nm : Int) ≤ 20)) := by
      have h1 : ((lst p.ns p.gs).all fun s => decide (s.np ≤ 20)) = true := by simp [lst]; exact fun q hq => hx q (by omega)
      have e : ∀ (a : Nat) (b : Nat), decide ((a : Int) ≤ (b : Int)) = decide (a ≤ b) := fun a b => by rw [Bool.eq_iff_iff]; simp
      have e1 := e n 30; have e2 := e p.ns 30; have e3 := e p.nc 20; have e4 := e p.na 20; have e5 := e p.nm 20
      simp only [Int.cast_ofNat_Int] at e1 e2 e3 e4 e5
      unfold polFew
      rw [h1, e1, e2, e3, e4, e5]; rfl
    rw [hz]; simp [go_sem, Tryz.results12]
theorem law35_cp_cs (σ : List Blk) (p : Pol) (hp : PolOk p) : CSF Tryz.prog 19 [.agg (p.enc.map .d)] σ (.agg (p.enc.map .d)) := by
  refine CSF.of_body T.en19 Tryz.func19 rfl (by simp [Tryz.ntmps19]) (by simp [go_sem]) fun hwf => ?_
  refine awp_reg_seq fun K hK => ?_
  simp [go_sem, Tryz.ntmps19]
  repeat refine ⟨by omega, ?_⟩
  refine hK _ ?_; clear hK K
  refine awp_reg_seq fun K hK => ?_
  simp [go_sem]
  repeat refine ⟨by omega, ?_⟩
  refine CSk.gen (cloneSbjM_cs _ none p.ns p.gs (by have := hp.ns; omega)) ?_; rintro r σ' X ⟨rfl, rfl, rfl⟩
  simp [go_sem]
  repeat refine ⟨by omega, ?_⟩
  refine hK _ ?_; clear hK K
  refine awp_seq ?_
  refine awp_reg_seq fun K hK => ?_
  simp [go_sem]
  repeat refine ⟨by omega, ?_⟩
  refine hK _ ?_; clear hK K
  refine awp_block ?_
  refine awp_forget [1, 2, 10, 11] (by simp [go_sem, restr]; rfl) ?_
  refine awp_loopU (α := Nat) (fun i => [(11, .d (I i))]) (fun i => σ ++ [.var [.ms (σ.length + 2) 5 0 p.ns, .d (SL none 6 Rule.enc p.nc p.gc), .d (SL none 6 Prs.enc p.np p.gp), .d (I p.Years), .d (SL none 6 Agr.enc p.na p.ga), .d (SL none 6 Pmt.enc p.nm p.gm)], .var [.d (.v (.slice none 0 0)), .d (.v (.slice none 0 0)), .d (.v (.slice none 0 0)), .d (I 0), .d (.v (.slice none 0 0)), .d (.v (.slice none 0 0))], .arr 5 p.ns (fun i => Sbj.enc (p.gs i))]) (fun i => i ≤ p.ns) (fun i => p.ns - i) 0 (by simp [go_sem]) (rfl) (by simp) ?_
  rintro i hi
  refine awp_reg_seq fun K hK => ?_
  simp [go_sem]
  repeat refine ⟨by omega, ?_⟩
  refine hK _ ?_; clear hK K
  refine awp_seq ?_
  refine awp_forget [1, 2, 10, 11, 12] (by simp only [restr, List.contains_cons, List.contains_nil, Nat.reduceBEq, Bool.or_false, Bool.or_true, Bool.true_or, Bool.false_or, if_true, if_false, Bool.false_eq_true]; rfl) ?_
  refine awp_cond rfl (fun c0 => ?_) (fun c0 => ?_)
  · have d0 := c0; try simp at d0
    refine awp_skip ?_
    refine awp_seq ?_
    refine awp_block ?_
    refine awp_reg_seq fun K hK => ?_
    simp [go_sem, c0, d0]
    repeat refine ⟨by omega, ?_⟩
    refine hK _ ?_; clear hK K
    apply awp_late_end 13 12 T.mixed (by kernel_rfl)
    · intro K hK
      simp [go_sem, c0, d0]
      repeat refine ⟨by omega, ?_⟩
      refine CSg.mk (cloneInt_cs _ none (p.gs i).np (p.gs i).ps (by have := hp.ps i (by omega); omega)) ?_
      simp [go_sem, c0, d0]
      repeat refine ⟨by omega, ?_⟩
      exact hK _ _
    · simp [go_sem, c0, d0]; rfl
    · intro K hK
      simp [go_sem, c0, d0]
      repeat refine ⟨by omega, ?_⟩
      refine CSg.mk (cloneInt_cs _ none (p.gs i).np (p.gs i).ps (by have := hp.ps i (by omega); omega)) ?_
      simp [go_sem, c0, d0]
      repeat refine ⟨by omega, ?_⟩
      exact hK _ _
    intro K hK
    simp [go_sem, c0, d0]
    repeat refine ⟨by omega, ?_⟩
    refine hK _ ?_; clear hK K
    refine awp_rows (σ.length + 2) (fun i => Sbj.enc (p.gs i)) (by simp [go_sem]; first | exact ⟨rfl, rfl, rfl⟩ | exact ⟨rfl, rfl⟩ | rfl) (by intro q hq; by_cases h : q = i <;> simp [h, Sbj.enc]) (by simp [go_sem]; rfl) ?_
    refine awp_reg_end fun K hK => ?_
    simp [go_sem, c0, d0]
    try simp (disch := omega) only [wrapI]
    repeat refine ⟨by omega, ?_⟩
    refine hK _ ?_; clear hK K
    refine ⟨i + 1, back_of' (by simp [go_sem, wrap_succ (i := i) (by have := hp.ns; omega), c0, d0]) (.refl _) (by (simp [go_sem, wrap_succ (i := i) (by have := hp.ns; omega), c0, d0] <;> omega)), by omega, by first | omega | (dsimp only; omega)⟩
  · have d0 := c0; try simp at d0
    refine awp_exit ?_
    refine awp_draw_seq 7 T.mixed (by kernel_rfl) fun K hK => ?_
    simp [go_sem, c0, d0]
    repeat refine ⟨by omega, ?_⟩
    refine CSg.mk (cloneRule_cs _ none p.nc p.gc (by have := hp.nc; omega)) ?_
    simp [go_sem, c0, d0]
    repeat refine ⟨by omega, ?_⟩
    refine CSg.mk (clonePrs_cs _ none p.np p.gp (by have := hp.np; omega)) ?_
    simp [go_sem, c0, d0]
    repeat refine ⟨by omega, ?_⟩
    refine hK _ ?_; clear hK K
    refine awp_draw_seq 7 T.mixed (by kernel_rfl) fun K hK => ?_
    simp [go_sem, c0, d0]
    repeat refine ⟨by omega, ?_⟩
    refine CSg.mk (cloneAgr_cs _ none p.na p.ga (by have := hp.na; omega)) ?_
    simp [go_sem, c0, d0]
    repeat refine ⟨by omega, ?_⟩
    refine CSg.mk (clonePmt_cs _ none p.nm p.gm (by have := hp.nm; omega)) ?_
    simp [go_sem, c0, d0]
    repeat refine ⟨by omega, ?_⟩
    refine hK _ ?_; clear hK K
    refine awp_reg_seq fun K hK => ?_
    simp [go_sem, c0, d0]
    repeat refine ⟨by omega, ?_⟩
    refine hK _ ?_; clear hK K
    refine awp_freeze (σ.length + 2) (by simp [go_sem]; first | exact ⟨rfl, rfl, rfl⟩ | exact ⟨rfl, rfl⟩ | rfl) (by simp [go_sem]; rfl) (by simp [go_sem, hwf.frz, hwf.frz0]; rfl) ?_
    refine awp_ret ?_
    simp [go_sem, Tryz.results19]
def exG : Nat → Row := fun i => if i = 0 then ⟨1, 0, 5⟩ else ⟨2, 1, 0⟩
def exP : Pol := ⟨0, fun _ => default, 0, fun _ => default, 0, fun _ => default, 0, 1, fun _ => ⟨4, 5, 1000, false, ⟨0, 1048576⟩⟩, 1, fun _ => ⟨9, 7, 2, 4, ⟨0, 500⟩⟩⟩
theorem law35_example_cs (σ : List Blk)  : CSF Tryz.prog 37 [] σ (.tup [.d (SL none 3 Row.enc 2 exG), .agg (exP.enc.map .d)]) := by
  refine CSF.of_body T.en37 Tryz.func37 rfl (by simp [Tryz.ntmps37]) (by simp [go_sem]) fun hwf => ?_
  refine awp_reg_seq fun K hK => ?_
  simp [go_sem, Tryz.ntmps37]
  repeat refine ⟨by omega, ?_⟩
  refine hK _ ?_; clear hK K
  refine awp_reg_seq fun K hK => ?_
  simp [go_sem]
  repeat refine ⟨by omega, ?_⟩
  refine hK _ ?_; clear hK K
  refine awp_reg_seq fun K hK => ?_
  simp [go_sem]
  repeat refine ⟨by omega, ?_⟩
  refine hK _ ?_; clear hK K
  refine awp_draw_seq 3 T.mixed (by kernel_rfl) fun K hK => ?_
  simp [go_sem]
  repeat refine ⟨by omega, ?_⟩
  refine hK _ ?_; clear hK K
  refine awp_ret ?_
  simp [go_sem, Tryz.results37, exP]
  intro i hi
  obtain rfl | rfl : i = 0 ∨ i = 1 := by omega
  · rfl
  · rfl
end Go.Proofs.YtkochmppmpmddaaGreat

/-! Dox -/
namespace Go.Proofs.YtkochmppmpmddaaGreat
open Go.Abs Go.Arch
set_option linter.unusedVariables false
set_option linter.unusedSimpArgs false
set_option maxRecDepth 100000
set_option maxHeartbeats 1000000
theorem eqL_self {α : Type} (l : List α) : eqL l l = true := eqL_iff.2 rfl
theorem sameB_self (x : Acc) : sameB x x = true := by simp [sameB, eqL_self]
theorem few_ok {n : Nat} {p : Pol} (h : polFew n p = true) : PolOk p ∧ n ≤ 30 := by
  simp [polFew, lst] at h
  obtain ⟨⟨⟨⟨⟨⟨h1, h2⟩, h3⟩, h4⟩, h5⟩, h6⟩, h7⟩ := h
  obtain ⟨g1, g2⟩ := (prsFew_iff _ _).1 h5
  exact ⟨⟨by omega, by omega, by omega, by omega, by omega, fun i hi => by have := h1 i hi; omega, fun i hi => by have := g1 i hi; omega⟩, h2⟩
theorem grdR_len {n : Nat} {g : Nat → Row} {p : Pol} (hp : PolOk p) (u d : Int) : (grdR n g p u d).1.length ≤ 768000 := by
  unfold grdR
  split
  · simp
  · rename_i h
    have h := ask_zero (Decidable.not_not.1 h)
    exact wayG_len hp (rows_le h.1) h.1 u d
theorem decideR_nr {n : Nat} {g : Nat → Row} {p : Pol} (hp : PolOk p) (r u d : Int) : (decideR n g p r u d).1.nr ≤ 768000 := by
  unfold decideR
  split
  · simp [Acc.zero]
  · rename_i h
    have h := ask_zero (Decidable.not_not.1 h)
    exact decW_nr hp h.1 r u d
theorem visR_len {n : Nat} {g : Nat → Row} {p : Pol} (r d : Int) : (visR n g p r d).1.length ≤ n := by
  unfold visR
  split
  · simp
  split
  · simp
  · exact gather_len (visF_len n _ g) n
theorem pathR_len {n : Nat} {g : Nat → Row} (u : Int) : (pathR n g u).1 ≤ n := by
  unfold pathR
  split
  · simp
  split
  · simp
  · rename_i h _
    exact (way_of (Decidable.not_not.1 h) u).1
theorem ex_ok : PolOk exP := ⟨by decide, by decide, by decide, by decide, by decide, fun i hi => absurd hi (by simp [exP]), fun i hi => absurd hi (by simp [exP])⟩
theorem ex_rows : rowsChk 2 exG = 0 := by
  refine rows_4 (by omega) (by kernel_rfl) (by kernel_rfl) fun i hi h => ?_
  obtain rfl | rfl : i = 0 ∨ i = 1 := by omega
  · exact h 0 (by omega) rfl
  · exact h 1 (by omega) (by kernel_rfl)
theorem ex_pol : polChk exP = 0 := by kernel_rfl
theorem ex_find : findR 2 exG 2 = 1 := by kernel_rfl
theorem ex_x0 : wayX 2 exG 2 0 = 1 := by kernel_rfl
theorem ex_x1 : wayX 2 exG 2 1 = 0 := by kernel_rfl
theorem ex_way : wayK 2 exG 2 = 2 := by
  obtain ⟨hk, hw⟩ := way_of ex_rows 2
  obtain ⟨h0, h1, h2⟩ := way_units ex_rows 2
  have h3 : wayK 2 exG 2 ≠ 0 := fun h => by have := (way_zero ex_rows 2).1 h; rw [ex_find] at this; omega
  have h4 : wayK 2 exG 2 ≠ 1 := fun h => by have := h2 0 h.symm; rw [ex_x0] at this; exact absurd this (by decide)
  omega
theorem ex_ask {r : Int} (hr : idOk r = true) {d : Int} (h0 : 0 ≤ d) (h1 : d ≤ 1048575) : askR 2 exG exP r 2 d = 0 := by
  unfold askR
  rw [if_neg (by simp [ex_rows, ex_pol]), if_neg (by rintro (h | h | h); rw [hr] at h; cases h; omega; omega), if_neg (by rw [ex_find]; omega)]
theorem ex_grd : wayG 2 exG exP 2 10 = [⟨3, 4, 1, 1000⟩] := by
  unfold wayG; rw [ex_way]; kernel_rfl
theorem ex_dec (r : Int) : decW 2 exG exP r 2 10 = decR exP r 2 2 (fun i => (exG (wayX 2 exG 2 i)).Unit) 10 [⟨3, 4, 1, 1000⟩] := by
  unfold decW; rw [ex_way, ex_grd]
theorem ex_7 : decideR 2 exG exP 7 2 10 = (decW 2 exG exP 7 2 10, 0) := by unfold decideR; rw [if_neg (by simp [ex_ask (r := 7) (by decide) (d := 10) (by omega) (by omega)])]
theorem ex_8 : decideR 2 exG exP 8 2 10 = (decW 2 exG exP 8 2 10, 0) := by unfold decideR; rw [if_neg (by simp [ex_ask (r := 8) (by decide) (d := 10) (by omega) (by omega)])]
theorem ex_8g : (decW 2 exG exP 8 2 10).Granted = false := by rw [ex_dec]; kernel_rfl
def exA : Acc := ⟨7, 2, 10, true, 1, fun _ => ⟨⟨3, 4, 1, 1000⟩, 9⟩⟩
theorem ex_same : sameB (decW 2 exG exP 7 2 10) exA = true := by
  rw [ex_dec]
  have h : eqL (lst 1 (decR exP 7 2 2 (fun i => (exG (wayX 2 exG 2 i)).Unit) 10 [⟨3, 4, 1, 1000⟩]).rs) (lst 1 exA.rs) = true := eqL_yes rfl fun q hq => by
    obtain rfl : q = 0 := by omega
    kernel_rfl
  have h2 : (decR exP 7 2 2 (fun i => (exG (wayX 2 exG 2 i)).Unit) 10 [⟨3, 4, 1, 1000⟩]).Granted = true := by kernel_rfl
  unfold sameB
  rw [h2]
  have h3 : eqL (lst (decR exP 7 2 2 (fun i => (exG (wayX 2 exG 2 i)).Unit) 10 [⟨3, 4, 1, 1000⟩]).nr (decR exP 7 2 2 (fun i => (exG (wayX 2 exG 2 i)).Unit) 10 [⟨3, 4, 1, 1000⟩]).rs) (lst exA.nr exA.rs) = true := h
  rw [h3]; rfl
theorem ver_own {n : Nat} {g : Nat → Row} {p : Pol} {r u d : Int} (h : askR n g p r u d = 0) : verR n g p (decW n g p r u d) = 0 := by
  have e1 : (decW n g p r u d).Reader = r := rfl
  have e2 : (decW n g p r u d).Unit = u := rfl
  have e3 : (decW n g p r u d).Day = d := rfl
  unfold verR
  rw [e1, e2, e3, if_neg (by simp [h]), if_neg (by simp [eqL_self])]
theorem ex_ver : verR 2 exG exP (decW 2 exG exP 7 2 10) = 0 := ver_own (ex_ask (by decide) (by omega) (by omega))
theorem ex_open : opR 2 exG exP 2 10 = (1000, 0) := by
  unfold opR
  rw [if_neg (by simp [ex_ask (r := 1) (by decide) (d := 10) (by omega) (by omega)])]
  refine open_at (by omega) (by omega) ?_ fun d' h1 h2 => ?_
  · show wayG 2 exG exP 2 1000 = []
    unfold wayG; rw [ex_way]; kernel_rfl
  · refine wayG_some (k := 1) (j := 2) (by rw [ex_way]; omega) (by omega) ?_
    rw [ex_x1, clsG_2, if_neg (by decide)]
    intro hn
    have : agrGd (exP.ga 0) ∈ agrGr exP.na exP.ga (exG 0).Accession d' := (mem_agr (by kernel_rfl)).2 ⟨0, by decide, agrCl_iff.2 ⟨by kernel_rfl, rfl, by simp [exP]; omega, by simp [exP]; omega, by simp [exP]; omega⟩, rfl⟩
    rw [hn] at this; simp at this
theorem ex_path : pathR 2 exG 2 = (2, 0) := by unfold pathR; rw [if_neg (by simp [ex_rows]), if_neg (by rw [ex_find]; omega), ex_way]
theorem ex_units : eqL (lst 2 fun i => (exG (wayX 2 exG 2 i)).Unit) (lst 2 fun i => if i = 0 then 2 else 1) = true := eqL_yes rfl fun q hq => by
  obtain rfl | rfl : q = 0 ∨ q = 1 := by omega
  · kernel_rfl
  · kernel_rfl
theorem law35_awake_cs (σ : List Blk) (hσ : σ[0]? = some (.loc 0)) : CSF Tryz.prog 11 [] σ (.d (B true)) := by
  refine CSF.of_body T.en11 Tryz.func11 rfl (by simp [Tryz.ntmps11]) (by simp [go_sem]) fun hwf => ?_
  refine awp_reg_seq fun K hK => ?_
  simp [go_sem, Tryz.ntmps11, ex_7, ex_8, ex_8g, ex_same, ex_ver, ex_open, ex_path, ex_units]
  repeat refine ⟨by omega, ?_⟩
  refine hK _ ?_; clear hK K
  refine awp_reg_seq fun K hK => ?_
  simp [go_sem, ex_7, ex_8, ex_8g, ex_same, ex_ver, ex_open, ex_path, ex_units]
  repeat refine ⟨by omega, ?_⟩
  refine CSk.mk (law35_example_cs _ ) ?_
  simp [go_sem, ex_7, ex_8, ex_8g, ex_same, ex_ver, ex_open, ex_path, ex_units]
  repeat refine ⟨by omega, ?_⟩
  refine hK _ ?_; clear hK K
  refine awp_reg_seq fun K hK => ?_
  simp [go_sem, ex_7, ex_8, ex_8g, ex_same, ex_ver, ex_open, ex_path, ex_units]
  repeat refine ⟨by omega, ?_⟩
  refine CSk.mk (policy_Decide_cs _ none 2 exG exP 7 2 10 (by omega) ex_ok (loc_app hσ)) ?_
  simp [go_sem, ex_7, ex_8, ex_8g, ex_same, ex_ver, ex_open, ex_path, ex_units]
  repeat refine ⟨by omega, ?_⟩
  refine hK _ ?_; clear hK K
  refine awp_reg_seq fun K hK => ?_
  simp [go_sem, ex_7, ex_8, ex_8g, ex_same, ex_ver, ex_open, ex_path, ex_units]
  repeat refine ⟨by omega, ?_⟩
  refine CSk.mk (policy_Decide_cs _ none 2 exG exP 8 2 10 (by omega) ex_ok (loc_app hσ)) ?_
  simp [go_sem, ex_7, ex_8, ex_8g, ex_same, ex_ver, ex_open, ex_path, ex_units]
  repeat refine ⟨by omega, ?_⟩
  refine hK _ ?_; clear hK K
  refine awp_reg_seq fun K hK => ?_
  simp [go_sem, ex_7, ex_8, ex_8g, ex_same, ex_ver, ex_open, ex_path, ex_units]
  repeat refine ⟨by omega, ?_⟩
  refine CSk.mk (policy_Opens_cs _ none 2 exG exP 2 10 (by omega) ex_ok (loc_app hσ)) ?_
  simp [go_sem, ex_7, ex_8, ex_8g, ex_same, ex_ver, ex_open, ex_path, ex_units]
  repeat refine ⟨by omega, ?_⟩
  refine hK _ ?_; clear hK K
  refine awp_reg_seq fun K hK => ?_
  simp [go_sem, ex_7, ex_8, ex_8g, ex_same, ex_ver, ex_open, ex_path, ex_units]
  repeat refine ⟨by omega, ?_⟩
  refine CSk.mk (policy_Path_cs _ none 2 exG 2 (by omega)) ?_
  simp [go_sem, ex_7, ex_8, ex_8g, ex_same, ex_ver, ex_open, ex_path, ex_units]
  repeat refine ⟨by omega, ?_⟩
  refine hK _ ?_; clear hK K
  refine awp_reg_seq fun K hK => ?_
  simp [go_sem, ex_7, ex_8, ex_8g, ex_same, ex_ver, ex_open, ex_path, ex_units]
  repeat refine ⟨by omega, ?_⟩
  refine hK _ ?_; clear hK K
  refine awp_reg_seq fun K hK => ?_
  simp [go_sem, ex_7, ex_8, ex_8g, ex_same, ex_ver, ex_open, ex_path, ex_units]
  try simp (disch := omega) only [wrapI]
  repeat refine ⟨by omega, ?_⟩
  refine CSk.mk ((ref35_Same_cs _ (decW 2 exG exP 7 2 10) exA (by have := decW_nr (n := 2) (g := exG) ex_ok ex_rows 7 2 10; omega) (by decide)).sub (by simp [go_sem, sameL, sameE, sameL0, sameA, exA] <;> (intro i hi; obtain rfl : i = 0 := (by omega); rfl))) ?_
  simp [go_sem, ex_7, ex_8, ex_8g, ex_same, ex_ver, ex_open, ex_path, ex_units]
  try simp (disch := omega) only [wrapI]
  repeat refine ⟨by omega, ?_⟩
  refine CSm.mk ((equalInt_cs _ none none 2 2 (fun i => (exG (wayX 2 exG 2 i)).Unit) (fun i => if i = 0 then 2 else 1) (by omega) (by omega)).sub (by simp [go_sem, sameL, sameE, sameA] <;> (intro i hi; obtain rfl | rfl : i = 0 ∨ i = 1 := (by omega); all_goals rfl))) ?_
  simp [go_sem, ex_7, ex_8, ex_8g, ex_same, ex_ver, ex_open, ex_path, ex_units]
  try simp (disch := omega) only [wrapI]
  repeat refine ⟨by omega, ?_⟩
  refine CSm.mk (policy_Verify_cs _ none 2 exG exP (decW 2 exG exP 7 2 10) (by omega) ex_ok (by have := decW_nr (n := 2) (g := exG) ex_ok ex_rows 7 2 10; omega) (loc_app hσ)) ?_
  simp [go_sem, ex_7, ex_8, ex_8g, ex_same, ex_ver, ex_open, ex_path, ex_units]
  try simp (disch := omega) only [wrapI]
  repeat refine ⟨by omega, ?_⟩
  refine hK _ ?_; clear hK K
  refine awp_ret ?_
  simp [go_sem, Tryz.results11, ex_7, ex_8, ex_8g, ex_same, ex_ver, ex_open, ex_path, ex_units] <;> omega
end Go.Proofs.YtkochmppmpmddaaGreat

/-! Dr -/
namespace Go.Proofs.YtkochmppmpmddaaGreat
open Go.Abs Go.Arch
set_option linter.unusedVariables false
set_option linter.unusedSimpArgs false
set_option maxRecDepth 100000
set_option maxHeartbeats 1000000
theorem yearOf_mono {d e : Int} (hd : isDay d) (he : isDay e) (h : d ≤ e) : yearOf d ≤ yearOf e := by
  have h1 := yearOf_spec hd.1 hd.2
  have h2 := yearOf_spec he.1 he.2
  rcases Int.lt_or_le (yearOf e) (yearOf d) with hl | hl
  · have := beg_mono (show yearOf e + 1 ≤ yearOf d by omega); omega
  · exact hl
theorem cum_13 {y m : Int} (h1 : 1 ≤ m) (h2 : m ≤ 12) : cum y m + lenM y m ≤ cum y 13 := by
  rw [← cum_succ h1 h2]; exact cum_mono (by omega)
theorem years_mono {d e n : Int} (hd : isDay d) (he : isDay e) (h : d ≤ e) : yearsF d n ≤ yearsF e n := by
  have hy := yearOf_mono hd he h
  obtain ⟨m1, m2, k1, k2, hdd⟩ := date_spec hd.1 hd.2
  obtain ⟨m1', m2', k1', k2', hee⟩ := date_spec he.1 he.2
  have hl1 := lenM_pos (yearOf d + n) (monD d)
  have hl2 := lenM_pos (yearOf e + n) (monD e)
  have hc := cum_13 (y := yearOf d + n) m1 m2
  have hc0 : 0 ≤ cum (yearOf e + n) (monD e) := by have := cum_mono (y := yearOf e + n) (a := 1) (b := monD e) m1'; rw [cum_one] at this; exact this
  unfold yearsF
  dsimp only
  by_cases hbig : 4470 < yearOf e + n
  · rw [if_pos hbig]
    split
    · omega
    · split <;> omega
  · rw [if_neg hbig, if_neg (show ¬ 4470 < yearOf d + n by omega)]
    have key : ofD (yearOf d + n) (monD d) (min (dayD d) (lenM (yearOf d + n) (monD d))) ≤ ofD (yearOf e + n) (monD e) (min (dayD e) (lenM (yearOf e + n) (monD e))) := by
      unfold ofD
      rcases Int.lt_or_le (yearOf d) (yearOf e) with hlt | hge
      · have hb := beg_mono (show yearOf d + n + 1 ≤ yearOf e + n by omega)
        rw [beg_cum] at hb
        omega
      · have hyy : yearOf d = yearOf e := by omega
        rw [← hyy] at hee k2' hc0 hl2 ⊢
        rcases Int.lt_trichotomy (monD d) (monD e) with hm | hm | hm
        · have h3 := cum_mono (y := yearOf d + n) (show monD d + 1 ≤ monD e by omega)
          rw [cum_succ m1 m2] at h3
          omega
        · rw [← hm] at hee k2' hl2 hc0 ⊢
          omega
        · have h3 := cum_mono (y := yearOf d) (show monD e + 1 ≤ monD d by omega)
          rw [cum_succ m1' m2'] at h3
          omega
    split
    · split
      · exact Int.le_refl _
      · omega
    · split <;> omega
theorem yearsR_mono {d e n : Int} (hd : isDay d) (he : isDay e) (h : d ≤ e) : (yearsR d n).1 ≤ (yearsR e n).1 := by
  unfold yearsR
  by_cases hn : 0 ≤ n ∧ n ≤ 200
  · rw [if_pos ⟨hd, hn⟩, if_pos ⟨he, hn⟩]; exact years_mono hd he h
  · rw [if_neg (fun h => hn h.2), if_neg (fun h => hn h.2)]; exact Int.le_refl _
structure Nar (a b : Prs) : Prop where
  id : a.ID = b.ID
  name : a.Name = b.Name
  ok : prsE0 b = 0 → prsE0 a = 0
  dates : a = b ∨ (isDay a.Death.Last ∧ isDay b.Death.Last ∧ a.Death.Last ≤ b.Death.Last ∧ isDay a.Birth.Last ∧ isDay b.Birth.Last ∧ a.Birth.Last ≤ b.Birth.Last)
theorem Nar.refl (a : Prs) : Nar a a := ⟨rfl, rfl, fun h => h, .inl rfl⟩
theorem Nar.until {a b : Prs} (h : Nar a b) (made : Dating) (y : Int) : untilP a made y ≤ untilP b made y := by
  rcases h.dates with rfl | ⟨h1, h2, h3, h4, h5, h6⟩
  · exact Int.le_refl _
  · unfold untilP
    have e1 := yearsR_mono (n := y) h1 h2 h3
    have e2 := yearsR_mono (n := y) (yearsR_bd a.Birth.Last 110) (yearsR_bd b.Birth.Last 110) (yearsR_mono h4 h5 h6)
    omega
theorem meet_is {a b : Dating} (h : (meetR a b).2 = true) : isDay a.Last ∧ (meetR a b).1.Last ≤ a.Last := by
  unfold meetR at h ⊢
  split at h
  · cases h
  · rename_i hn
    rw [if_neg hn]
    refine ⟨datOk_day (datChk_0.1 ?_), Int.min_le_left _ _⟩
    exact Decidable.not_not.1 fun h => hn (.inl h)
theorem ok_days {a : Prs} (h : prsE0 a = 0) : isDay a.Birth.Last ∧ isDay a.Death.Last := by
  unfold prsE0 at h
  split at h
  · omega
  split at h
  · omega
  split at h
  · omega
  rename_i hn
  exact ⟨datOk_day (datChk_0.1 (Decidable.not_not.1 fun h => hn (.inl h))), datOk_day (datChk_0.1 (Decidable.not_not.1 fun h => hn (.inr h)))⟩
theorem learn_nar {a : Prs} {b d : Dating} (h : (learnR a b d).2 = true) : Nar (learnR a b d).1 a := by
  unfold learnR at h ⊢
  simp only [Bool.and_eq_true, decide_eq_true_eq] at h ⊢
  obtain ⟨⟨h1, h2⟩, h3⟩ := h
  obtain ⟨e1, e2⟩ := meet_is h1
  obtain ⟨e3, e4⟩ := meet_is h2
  have hd := ok_days h3
  exact ⟨rfl, rfl, fun _ => h3, .inr ⟨hd.2, e3, e4, hd.1, e1, e2⟩⟩
theorem learn_all {n : Nat} {g : Nat → Prs} {k : Int} {b d : Dating} (h : (learnL n g k b d).2 = 0) : (learnL n g k b d).1.1 = n ∧ ∀ q, Nar ((learnL n g k b d).1.2 q) (g q) := by
  unfold learnL at h ⊢
  split at h
  · cases h
  rename_i h1
  split at h
  · cases h
  rename_i h2
  split at h
  · cases h
  rename_i h3
  rw [if_neg h1, if_neg h2, if_neg h3]
  refine ⟨rfl, fun q => ?_⟩
  dsimp only
  split
  · rename_i hq
    subst hq
    exact learn_nar (by simpa using h3)
  · exact Nar.refl _
theorem idx_congr {α β γ : Type} (p : β → Bool) (p' : γ → Bool) (f : α → β) (g : α → γ) (h : ∀ x, p (f x) = p' (g x)) : ∀ (l : List α) (i : Nat), idxFrom p (l.map f) i = idxFrom p' (l.map g) i
  | [], _ => rfl
  | x :: xs, i => by simp only [List.map_cons, idxFrom, h x, idx_congr p p' f g h xs]
theorem findP_nar {n : Nat} {g g' : Nat → Prs} (h : ∀ q, Nar (g' q) (g q)) (u : Int) : findP n g' u = findP n g u :=
  idx_congr _ _ g' g (fun x => by simp only [(h x).id]) _ _
theorem prsChk_nar {n : Nat} {g g' : Nat → Prs} (h : ∀ q, Nar (g' q) (g q)) (hc : prsChk n g = 0) : prsChk n g' = 0 := by
  unfold prsChk at hc ⊢
  split at hc
  · omega
  rename_i hn
  rw [if_neg hn]
  refine firstE_of fun q h1 h2 => ?_
  have := firstE_zero hc q h1 h2
  unfold prsE at this ⊢
  split at this
  · exact absurd this (by assumption)
  rename_i h3
  have h3' := (h q).ok (Decidable.not_not.1 h3)
  rw [if_neg (by simp [h3']), (h q).id, (h (q - 1)).id]
  exact this
structure LeG (L' L : List Ground) : Prop where
  len : L'.length ≤ L.length
  of : ∀ x, x ∈ L' → ∃ y, y ∈ L ∧ x.Kind = y.Kind ∧ x.Source = y.Source
theorem LeG.refl (L : List Ground) : LeG L L := ⟨Nat.le_refl _, fun x hx => ⟨x, hx, rfl, rfl⟩⟩
theorem LeG.nil (L : List Ground) : LeG [] L := ⟨Nat.zero_le _, fun x hx => by cases hx⟩
theorem LeG.append {A' A B' B : List Ground} (h1 : LeG A' A) (h2 : LeG B' B) : LeG (A' ++ B') (A ++ B) := by
  refine ⟨by simp only [List.length_append]; have := h1.len; have := h2.len; omega, fun x hx => ?_⟩
  rcases List.mem_append.1 hx with h | h
  · obtain ⟨y, hy, e⟩ := h1.of x h; exact ⟨y, List.mem_append.2 (.inl hy), e⟩
  · obtain ⟨y, hy, e⟩ := h2.of x h; exact ⟨y, List.mem_append.2 (.inr hy), e⟩
theorem LeG.gather {f' f : Nat → List Ground} : ∀ n, (∀ q, q < n → LeG (f' q) (f q)) → LeG (gather f' n) (gather f n)
  | 0, _ => LeG.refl _
  | n + 1, h => (LeG.gather n fun q hq => h q (by omega)).append (h n (by omega))
theorem LeG.setU {L' L : List Ground} (h : LeG L' L) (u : Int) : LeG (L'.map (setU u)) (L.map (setU u)) := by
  refine ⟨by simp only [List.length_map]; exact h.len, fun x hx => ?_⟩
  obtain ⟨z, hz, rfl⟩ := List.mem_map.1 hx
  obtain ⟨y, hy, e1, e2⟩ := h.of z hz
  exact ⟨_, List.mem_map.2 ⟨y, hy, rfl⟩, e1, e2⟩
theorem prsGr_le {n : Nat} {g g' : Nat → Prs} (h : ∀ q, Nar (g' q) (g q)) (hc : prsChk n g = 0) (m : Nat) (ids : Nat → Int) (made : Dating) (y d : Int) : LeG (prsGr n g' m ids made y d).1 (prsGr n g m ids made y d).1 := by
  have hgr : grE n g' ids = grE n g ids := by funext q; unfold grE; rw [findP_nar h]
  unfold prsGr
  rw [hgr, prsChk_nar h hc, hc]
  split
  · exact LeG.refl _
  split
  · exact LeG.refl _
  split
  · exact LeG.refl _
  split
  · exact LeG.refl _
  refine LeG.gather _ fun q _ => ?_
  have hu := (h (findP n g (ids q)).toNat).until made y
  unfold prsGf
  rw [findP_nar h]
  split
  · rw [if_pos (by omega)]
    exact ⟨Nat.le_refl _, fun x hx => ⟨_, List.mem_singleton.2 rfl, by rw [List.mem_singleton.1 hx]; rfl, by rw [List.mem_singleton.1 hx]; rfl⟩⟩
  · exact LeG.nil _
theorem wayG_le {n : Nat} {g : Nat → Row} {p p' : Pol} {d : Int} (h : ∀ r j, LeG (clsG p' r d j) (clsG p r d j)) (u : Int) : LeG (wayG n g p' u d) (wayG n g p u d) :=
  LeG.gather _ fun k _ => LeG.gather _ fun j _ => (h _ j).setU _
def Pol.withP (p : Pol) (g : Nat → Prs) : Pol := ⟨p.ns, p.gs, p.nc, p.gc, p.np, g, p.Years, p.na, p.ga, p.nm, p.gm⟩
theorem pol_nar {p : Pol} {g' : Nat → Prs} (h : ∀ q, Nar (g' q) (p.gp q)) (hc : polChk p = 0) : polChk (p.withP g') = 0 := by
  obtain ⟨hc1, hc2, hc3, hc4, hy1, hy2, hsc⟩ := pol_parts hc
  have hh : ∀ u, hasP p.np g' u = hasP p.np p.gp u := fun u => by rw [hasP_iff, hasP_iff, findP_nar h]
  have h5 : firstE (polE (p.withP g')) 0 4 = 0 := firstE_of fun q h1 h2 => by
    have : q = 0 ∨ q = 1 ∨ q = 2 ∨ q = 3 := by omega
    rcases this with rfl | rfl | rfl | rfl
    · exact hc1
    · exact prsChk_nar h hc2
    · exact hc3
    · exact hc4
  have h6 : subChk (p.withP g') = 0 := by
    have e : subE (p.withP g') = subE p := by
      funext i
      unfold subE subE1
      simp only [Pol.withP, hh]
    unfold subChk at hsc ⊢
    rw [e]; exact hsc
  unfold polChk
  rw [if_neg (by simp [h5]), if_neg (by simp only [Pol.withP]; omega)]
  exact h6
theorem clsG_nar {p : Pol} {g' : Nat → Prs} (h : ∀ q, Nar (g' q) (p.gp q)) (hc : polChk p = 0) (r : Row) (d : Int) : ∀ j, LeG (clsG (p.withP g') r d j) (clsG p r d j)
  | 0 => LeG.refl _
  | 1 => prsGr_le h (pol_parts hc).2.1 _ _ _ _ _
  | _ + 2 => LeG.refl _
theorem lifted_iff (f : Nat → Reason) : ∀ k, lifted f k = true ↔ ∀ i, i < k → (f i).Pm ≠ 0
  | 0 => by simp [lifted]
  | k + 1 => by
    simp only [lifted, Bool.and_eq_true, lifted_iff f k, bne_iff_ne]
    constructor
    · rintro ⟨h1, h2⟩ i hi
      rcases Nat.lt_or_eq_of_le (Nat.le_of_lt_succ hi) with h | rfl
      · exact h1 i h
      · exact h2
    · intro h; exact ⟨fun i hi => h i (by omega), h k (by omega)⟩
theorem nth_mem' {α : Type} [Inhabited α] {L : List α} {i : Nat} (h : i < L.length) : nth L i ∈ L := by
  unfold nth; rw [List.getElem?_eq_getElem h]; exact List.getElem_mem h
theorem mem_nth' {α : Type} [Inhabited α] {L : List α} {x : α} (h : x ∈ L) : ∃ i, i < L.length ∧ nth L i = x := by
  obtain ⟨i, hi, rfl⟩ := List.getElem_of_mem h
  exact ⟨i, hi, by unfold nth; rw [List.getElem?_eq_getElem hi]; rfl⟩
theorem dec1_congr (p : Pol) (r : Int) (k : Nat) (w : Nat → Int) (d : Int) {x y : Ground} (h1 : x.Kind = y.Kind) (h2 : x.Source = y.Source) : dec1 p r k w d x = dec1 p r k w d y := by
  unfold dec1; rw [h1, h2]
theorem granted_iff (n : Nat) (g : Nat → Row) (p : Pol) (r u d : Int) : (decW n g p r u d).Granted = true ↔ ∀ x, x ∈ wayG n g p u d → dec1 p r (wayK n g u) (fun i => (g (wayX n g u i)).Unit) d x ≠ 0 := by
  unfold decW decR
  simp only [lifted_iff, rsn]
  constructor
  · intro h x hx
    obtain ⟨i, hi, rfl⟩ := mem_nth' hx
    exact h i hi
  · intro h i hi
    exact h _ (nth_mem' hi)
theorem learn_dec {n : Nat} {g : Nat → Row} {p : Pol} {r u d : Int} {g' : Nat → Prs} (h : ∀ q, Nar (g' q) (p.gp q)) (ha : askR n g p r u d = 0) : askR n g (p.withP g') r u d = 0 ∧ (decW n g (p.withP g') r u d).nr ≤ (decW n g p r u d).nr ∧ ((decW n g p r u d).Granted = true → (decW n g (p.withP g') r u d).Granted = true) := by
  obtain ⟨a1, a2, a3, a4, a5, a6⟩ := ask_zero ha
  have hw := wayG_le (n := n) (g := g) (fun r j => clsG_nar h a2 r d j) u
  refine ⟨?_, hw.len, fun hg => ?_⟩
  · unfold askR
    rw [if_neg (by rintro (h' | h'); exact h' a1; exact h' (pol_nar h a2)), if_neg (by rintro (h | h | h); rw [a3] at h; cases h; omega; omega), if_neg (by omega)]
  · rw [granted_iff] at hg ⊢
    intro x hx
    obtain ⟨y, hy, e1, e2⟩ := hw.of x hx
    have := hg y hy
    rw [← dec1_congr p r _ _ d e1 e2] at this
    exact this
theorem polOk_nar {p : Pol} {g' : Nat → Prs} (h : ∀ q, Nar (g' q) (p.gp q)) (hp : PolOk p) : PolOk (p.withP g') :=
  ⟨hp.ns, hp.nc, hp.np, hp.na, hp.nm, hp.ps, fun i hi => by show (g' i).Name.size < _; rw [(h i).name]; exact hp.nn i hi⟩
end Go.Proofs.YtkochmppmpmddaaGreat

/-! Du -/
namespace Go.Proofs.YtkochmppmpmddaaGreat
open Go.Abs Go.Arch
set_option linter.unusedVariables false
set_option linter.unusedSimpArgs false
set_option maxRecDepth 100000
set_option maxHeartbeats 1000000
def skip (i q : Nat) : Nat := if q < i then q else q + 1
def without {α : Type} (g : Nat → α) (i : Nat) : Nat → α := fun q => g (skip i q)
theorem skip_le (i q : Nat) : q ≤ skip i q ∧ skip i q ≤ q + 1 := by unfold skip; split <;> omega
theorem skip_mono {i a b : Nat} (h : a < b) : skip i a < skip i b := by unfold skip; split <;> split <;> omega
theorem any_wo {α : Type} (P : α → Bool) {n i : Nat} {g : Nat → α} (h : (lst (n - 1) (without g i)).any P = true) : (lst n g).any P = true := by
  rw [List.any_eq_true] at h ⊢
  obtain ⟨x, hx, hp⟩ := h
  simp only [lst, List.mem_map, List.mem_range] at hx ⊢
  obtain ⟨q, hq, rfl⟩ := hx
  have := skip_le i q
  exact ⟨_, ⟨skip i q, by omega, rfl⟩, hp⟩
theorem firstE_err {e : Nat → Int} {n : Nat} (h : firstE e 0 n = 0) {q : Nat} (hq : q < n) : e q = 0 := firstE_zero h q (by omega) (by omega)
theorem agrChk_wo {n : Nat} {g : Nat → Agr} (h : agrChk n g = 0) {i : Nat} (hi : i < n) : agrChk (n - 1) (without g i) = 0 := by
  obtain ⟨h1, h2⟩ := agr_ids h
  unfold agrChk
  rw [if_neg (by omega)]
  refine firstE_of fun q _ hq => ?_
  have hs := skip_le i q
  have h3 := h2 (skip i q) (by omega)
  unfold agrE without
  rw [if_neg (by simp [h3.1]), if_neg]
  rintro ⟨h4, h5⟩
  have := h3.2 (skip i (q - 1)) (skip_mono (by omega))
  omega
theorem pmt_all {n : Nat} {g : Nat → Pmt} (h : pmtChk n g = 0) : n ≤ 64 ∧ ∀ i, i < n → pmtOk (g i) = true ∧ (0 < i → (g (i - 1)).ID < (g i).ID) := by
  unfold pmtChk at h
  split at h
  · omega
  refine ⟨by omega, fun i hi => ?_⟩
  have := firstE_err h hi
  unfold pmtE at this
  split at this
  · omega
  rename_i h1
  split at this
  · omega
  rename_i h2
  exact ⟨by simpa using h1, fun h0 => by omega⟩
theorem pmt_mono {n : Nat} {g : Nat → Pmt} (h : pmtChk n g = 0) : ∀ (k i : Nat), i + k + 1 < n → (g i).ID < (g (i + k + 1)).ID
  | 0, i, hi => ((pmt_all h).2 (i + 1) hi).2 (by omega)
  | k + 1, i, hi => by
    have h1 := pmt_mono h k i (by omega)
    have h2 := ((pmt_all h).2 (i + (k + 1) + 1) hi).2 (by omega)
    have e : i + (k + 1) + 1 - 1 = i + k + 1 := by omega
    rw [e] at h2
    omega
theorem pmtChk_wo {n : Nat} {g : Nat → Pmt} (h : pmtChk n g = 0) {i : Nat} (hi : i < n) : pmtChk (n - 1) (without g i) = 0 := by
  obtain ⟨h1, h2⟩ := pmt_all h
  unfold pmtChk
  rw [if_neg (by omega)]
  refine firstE_of fun q _ hq => ?_
  have hs := skip_le i q
  have h3 := h2 (skip i q) (by omega)
  unfold pmtE without
  rw [if_neg (by simp [h3.1]), if_neg]
  rintro ⟨h4, h5⟩
  have h6 := skip_mono (i := i) (a := q - 1) (b := q) (by omega)
  have := pmt_mono h (skip i q - skip i (q - 1) - 1) (skip i (q - 1)) (by omega)
  rw [show skip i (q - 1) + (skip i q - skip i (q - 1) - 1) + 1 = skip i q by omega] at this
  omega
theorem gather_congr {β : Type} {f f' : Nat → List β} : ∀ n, (∀ q, q < n → f q = f' q) → gather f n = gather f' n
  | 0, _ => rfl
  | n + 1, h => by rw [gather, gather, gather_congr n fun q hq => h q (by omega), h n (by omega)]
theorem gather_skip {β : Type} (f : Nat → List β) (i : Nat) : ∀ m, i ≤ m → (gather (fun q => f (skip i q)) m).length ≤ (gather f (m + 1)).length
  | 0, _ => by simp [gather]
  | m + 1, h => by
    rcases Nat.lt_or_ge m i with hm | hm
    · have : gather (fun q => f (skip i q)) (m + 1) = gather f (m + 1) := gather_congr _ fun q hq => by unfold skip; rw [if_pos (by omega)]
      rw [this]
      simp only [gather, List.length_append]; omega
    · have ih := gather_skip f i m hm
      have e : skip i m = m + 1 := by unfold skip; rw [if_neg (by omega)]
      rw [gather, gather, e]
      simp only [List.length_append]; omega
theorem agrGr_wo {n : Nat} {g : Nat → Agr} {i : Nat} (hi : i < n) (h : agrChk n g = 0) (k d : Int) : LeG (agrGr (n - 1) (without g i) k d) (agrGr n g k d) := by
  unfold agrGr
  rw [agrChk_wo h hi, h]
  simp only [ne_eq, not_true_eq_false, if_false]
  obtain ⟨m, rfl⟩ : ∃ m, n = m + 1 := ⟨n - 1, by omega⟩
  simp only [Nat.add_sub_cancel]
  refine ⟨gather_skip (agrGf g k d) i m (by omega), fun x hx => ?_⟩
  obtain ⟨q, hq, hx⟩ := mem_gather.1 hx
  have := skip_le i q
  exact ⟨x, mem_gather.2 ⟨skip i q, by omega, hx⟩, rfl, rfl⟩
def Pol.woA (p : Pol) (i : Nat) : Pol := ⟨p.ns, p.gs, p.nc, p.gc, p.np, p.gp, p.Years, p.na - 1, without p.ga i, p.nm, p.gm⟩
def Pol.woM (p : Pol) (i : Nat) : Pol := ⟨p.ns, p.gs, p.nc, p.gc, p.np, p.gp, p.Years, p.na, p.ga, p.nm - 1, without p.gm i⟩
theorem pol_of {p : Pol} (h1 : check p.nc p.gc = 0) (h2 : prsChk p.np p.gp = 0) (h3 : agrChk p.na p.ga = 0) (h4 : pmtChk p.nm p.gm = 0) (h5 : 0 ≤ p.Years) (h6 : p.Years ≤ 200) (h7 : subChk p = 0) : polChk p = 0 := by
  have h8 : firstE (polE p) 0 4 = 0 := firstE_of fun q h9 h10 => by
    have : q = 0 ∨ q = 1 ∨ q = 2 ∨ q = 3 := by omega
    rcases this with rfl | rfl | rfl | rfl
    · exact h1
    · exact h2
    · exact h3
    · exact h4
  unfold polChk
  rw [if_neg (by simp [h8]), if_neg (by omega)]
  exact h7
theorem ask_of {n : Nat} {g : Nat → Row} {p p' : Pol} {r u d : Int} (h : askR n g p r u d = 0) (hp : polChk p' = 0) : askR n g p' r u d = 0 := by
  obtain ⟨a1, a2, a3, a4, a5, a6⟩ := ask_zero h
  unfold askR
  rw [if_neg (by rintro (h' | h'); exact h' a1; exact h' hp), if_neg (by rintro (h | h | h); rw [a3] at h; cases h; omega; omega), if_neg (by omega)]
theorem agrStr_wo {n : Nat} {g : Nat → Agr} {i : Nat} (h : agrChk n g = 0) {k : Int} (hs : agrStr (n - 1) (without g i) k = true) : agrStr n g k = true := by
  unfold agrStr at hs ⊢
  simp only [Bool.and_eq_true] at hs ⊢
  exact ⟨by simp [h], any_wo _ hs.2⟩
theorem less_agr {n : Nat} {g : Nat → Row} {p : Pol} {r u d : Int} {i : Nat} (hi : i < p.na) (ha : askR n g p r u d = 0) : askR n g (p.woA i) r u d = 0 ∧ ((decW n g p r u d).Granted = true → (decW n g (p.woA i) r u d).Granted = true) := by
  obtain ⟨a1, a2, _⟩ := ask_zero ha
  obtain ⟨hc1, hc2, hc3, hc4, hy1, hy2, hsc⟩ := pol_parts a2
  refine ⟨ask_of ha (pol_of hc1 hc2 (agrChk_wo hc3 hi) hc4 hy1 hy2 hsc), fun hg => ?_⟩
  have hle : ∀ r j, LeG (clsG (p.woA i) r d j) (clsG p r d j) := fun r j => by
    match j with
    | 0 => exact LeG.refl _
    | 1 => exact LeG.refl _
    | j + 2 =>
      show LeG (if r.Accession = 0 then [] else agrGr (p.na - 1) (without p.ga i) r.Accession d) (if r.Accession = 0 then [] else agrGr p.na p.ga r.Accession d)
      split
      · exact LeG.refl _
      · exact agrGr_wo hi hc3 _ _
  have hw := wayG_le (n := n) (g := g) hle u
  rw [granted_iff] at hg ⊢
  intro x hx
  obtain ⟨y, hy, e1, e2⟩ := hw.of x hx
  have h1 := hg y hy
  rw [← dec1_congr p r _ _ d e1 e2] at h1
  unfold dec1 at h1 ⊢
  split at h1
  · exact absurd rfl h1
  rename_i h2
  rw [if_neg]
  · exact h1
  · rintro (h3 | ⟨h3, h4⟩)
    · exact h2 (.inl h3)
    · exact h2 (.inr ⟨h3, agrStr_wo hc3 h4⟩)
theorem first_wo {N : Nat} {G : Nat → Pmt} {i : Nat} (h : pmtChk N G = 0) {r : Int} {n : Nat} {w : Nat → Int} {k d : Int} (hf : (firstR (N - 1) (without G i) r n w k d).2 = true) : (firstR N G r n w k d).2 = true ∧ (firstR N G r n w k d).1 ≠ 0 := by
  unfold firstR at hf
  split at hf
  · cases hf
  rename_i h1
  have h2 : (lst (N - 1) (without G i)).any (fun a => covB a r n w k d) = true := by rw [← idx_any _ _ 0]; simp; omega
  have h3 := any_wo _ h2
  rw [← idx_any _ _ 0] at h3
  simp only [decide_eq_true_eq] at h3
  have hlt := idx_lt' (fun a => covB a r n w k d) N G
  unfold firstR
  rw [if_neg (by rintro (h4 | h4); omega; exact h4 h)]
  refine ⟨rfl, ?_⟩
  have h5 := ((pmt_all h).2 (idxFrom (fun a => covB a r n w k d) (lst N G) 0).toNat (by omega)).1
  unfold pmtOk idOk at h5
  simp only [Bool.and_eq_true, decide_eq_true_eq] at h5
  dsimp only
  omega
theorem less_pmt {n : Nat} {g : Nat → Row} {p : Pol} {r u d : Int} {i : Nat} (hi : i < p.nm) (ha : askR n g p r u d = 0) : askR n g (p.woM i) r u d = 0 ∧ ((decW n g (p.woM i) r u d).Granted = true → (decW n g p r u d).Granted = true) := by
  obtain ⟨a1, a2, _⟩ := ask_zero ha
  obtain ⟨hc1, hc2, hc3, hc4, hy1, hy2, hsc⟩ := pol_parts a2
  refine ⟨ask_of ha (pol_of hc1 hc2 hc3 (pmtChk_wo hc4 hi) hy1 hy2 hsc), fun hg => ?_⟩
  rw [granted_iff] at hg ⊢
  intro x hx
  have h1 := hg x hx
  unfold dec1 at h1 ⊢
  split at h1
  · exact absurd rfl h1
  rename_i h2
  have h3 := first_wo (i := i) hc4 (r := r) (n := wayK n g u) (w := fun i => (g (wayX n g u i)).Unit) (k := x.Kind) (d := d) (by
    cases hb : (firstR (p.nm - 1) (without p.gm i) r (wayK n g u) (fun i => (g (wayX n g u i)).Unit) x.Kind d).2 with
    | true => rfl
    | false => exact absurd (.inl hb) h2)
  rw [if_neg]
  · exact h3.2
  · rintro (h4 | h4)
    · rw [h3.1] at h4; cases h4
    · exact h2 (.inr h4)
theorem polOk_woA {p : Pol} (hp : PolOk p) (i : Nat) : PolOk (p.woA i) := ⟨hp.ns, hp.nc, hp.np, by show p.na - 1 ≤ _; have := hp.na; omega, hp.nm, hp.ps, hp.nn⟩
theorem polOk_woM {p : Pol} (hp : PolOk p) (i : Nat) : PolOk (p.woM i) := ⟨hp.ns, hp.nc, hp.np, hp.na, by show p.nm - 1 ≤ _; have := hp.nm; omega, hp.ps, hp.nn⟩
end Go.Proofs.YtkochmppmpmddaaGreat

/-! Axo -/
namespace Go.Abs
set_option linter.unusedVariables false
set_option linter.unusedSimpArgs false
def evalC (P : Program) (all : List Oper) (ia : Nat) (r : AV) : List Oper → Nat → St → (St → Prop) → Prop
  | [], _, s, K => K s
  | o :: os, i, s, K => if Nat.beq i ia then evalC P all ia r os (i + 1) (s.put o.dst r) K
    else guardA all s o fun gd g => opA P true gd g o s fun s' => evalC P all ia r os (i + 1) s' K
theorem unrollC {P : Program} {all : List Oper} {ia : Nat} {r : AV} : ∀ {os : List Oper} {i0 : Nat} {s : St} {K : St → Prop}, evalC P all ia r os i0 s K →
    ∃ xs : Nat → AV, K (stAt s os xs os.length) ∧ (∀ i, i0 + i = ia → xs i = r) ∧ ∀ i o, os[i]? = some o → i0 + i ≠ ia → Local P all o (stAt s os xs i) (xs i)
  | [], i0, s, K, h => ⟨fun _ => r, h, fun _ _ => rfl, by simp⟩
  | o :: os, i0, s, K, h => by
    have key : ∀ x : AV, evalC P all ia r os (i0 + 1) (s.put o.dst x) K → (i0 = ia → x = r) → (i0 ≠ ia → Local P all o s x) →
        ∃ xs : Nat → AV, K (stAt s (o :: os) xs (o :: os).length) ∧ (∀ i, i0 + i = ia → xs i = r) ∧ ∀ i o', (o :: os)[i]? = some o' → i0 + i ≠ ia → Local P all o' (stAt s (o :: os) xs i) (xs i) := by
      intro x h hx hl
      obtain ⟨xs, hK, hia, hloc⟩ := unrollC h
      have hst : ∀ i, stAt s (o :: os) (fun | 0 => x | i + 1 => xs i) (i + 1) = stAt (s.put o.dst x) os xs i := by
        intro i
        induction i with
        | zero => rfl
        | succ i ih =>
          show (match (o :: os)[i + 1]? with | some o' => (stAt s (o :: os) (fun | 0 => x | i + 1 => xs i) (i + 1)).put o'.dst (xs i) | none => stAt s (o :: os) (fun | 0 => x | i + 1 => xs i) (i + 1)) = _
          rw [ih]
          simp only [List.getElem?_cons_succ]
          rfl
      refine ⟨fun | 0 => x | i + 1 => xs i, ?_, fun i hi => ?_, fun i o' hi h1 => ?_⟩
      · rw [List.length_cons, hst]; exact hK
      · cases i with
        | zero => exact hx (by simpa using hi)
        | succ i => exact hia i (by omega)
      · cases i with
        | zero => simp at hi; subst hi; exact hl (by simpa using h1)
        | succ i => rw [hst]; exact hloc i o' (by simpa using hi) (by omega)
    simp only [evalC] at h
    by_cases h1 : i0 = ia
    · rw [if_pos (by simpa using h1)] at h
      exact key _ h (fun _ => rfl) (fun h2 => absurd h1 h2)
    · rw [if_neg (by simpa using h1)] at h
      obtain ⟨x, hl, h⟩ := local_of h
      exact key x h (fun h3 => absurd h3 h1) (fun _ => hl)
def tauC (ia : Nat) (blk : Blk) (listed : Array Bool) : List Blk := if listed.getD ia false then [blk] else []
structure InvC (s : St) (ops : List Oper) (m ia : Nat) (blk : Blk) (t1 : List (Nat × AV)) (j0 : J0) (listed : Array Bool) (j : Js) (a : Act) (w : World) : Prop where
  defers : Marks j0.n0 w j a.defers
  rdok : ∀ l, j0.rd = some l → ∃ r, w.heap[l]? = some (.loop r)
  size : a.tmps.size = s.N
  sto : RelS w j (s.σ ++ tauC ia blk listed)
  len0 : j0.js.length ≤ j.length
  ag : Ag j0.js j s.mv
  lsize : listed.size = ops.length
  lB : ∀ k, m ≤ k → k < ops.length → ∀ b, listed.getD k b = false
  cl : ∀ q oq, q < m → ops[q]? = some oq → listed.getD q true = true → ∀ e ∈ oq.after, Region.binds .any e = true → listed.getD e.on false = true
  c1 : ∀ q oq k av, q < m → ops[q]? = some oq → oq.dst = some k → listed.getD q true = true → get t1 k = some av → k < s.N ∧ R w j av (a.tmps.getD k Go.undef)
  c2 : ∀ k av, (∀ q oq, q < m → ops[q]? = some oq → oq.dst = some k → listed.getD q true = false) → get s.t k = some av → k < s.N ∧ R w j av (a.tmps.getD k Go.undef)
section
variable {P : Program} {ops : List Oper} {m ia : Nat}
structure PureC (P : Program) (s : St) (ops : List Oper) (m ia : Nat) (t1 : List (Nat × AV)) (r : AV) : Prop where
  at_ : ∀ τ : List Blk, ∃ xs : Nat → AV, (stAt s (ops.take m) xs m).t = t1 ∧ (xs ia = r) ∧
    ∀ i o, i < m → ops[i]? = some o → i ≠ ia → Local P ops o ⟨s.N, (stAt s (ops.take m) xs i).t, s.σ ++ τ, s.mv⟩ (xs i)
theorem InvC.looks_rel (hok : drawOk ops m = true) (hmn : m ≤ ops.length) {s : St} {blk : Blk} {t1 : List (Nat × AV)} {j0 : J0} {listed : Array Bool} {j : Js} {a : Act} {w : World}
    (hI : InvC s ops m ia blk t1 j0 listed j a w) {xs : Nat → AV} (hxs : (stAt s (ops.take m) xs m).t = t1) {i : Nat} {o : Oper} (him : i < m) (ho : ops[i]? = some o) (h0 : listed.getD i true = false)
    (hall : ∀ e ∈ o.after, Region.binds .any e = true → listed.getD e.on false = true) {k : Nat} {av : AV} (hkl : k ∈ looks ops o) (hk : get (stAt s (ops.take m) xs i).t k = some av) : k < s.N ∧ R w j av (a.tmps.getD k Go.undef) := by
  have hokA := okA_spec ((drawOk_spec hok ho).2.1 him)
  have hil : i < ops.length := by omega
  by_cases hw : ∃ q oq, q < i ∧ ops[q]? = some oq ∧ oq.dst = some k
  · obtain ⟨q, oq, hq, hqo, hqd⟩ := hw
    have hdep := (hokA.1 k hkl q oq hqo hqd).1 hq
    obtain ⟨e, he1, he2, he3⟩ := depB_spec hdep
    have hlq := hall e he1 he3
    rw [he2, getD_tf hI.lsize (by omega)] at hlq
    rw [get_writ hok hmn (by omega) hqo hqd hq (by omega)] at hk
    have hk1 : get t1 k = some av := by
      rw [← hxs, get_writ hok hmn (by omega) hqo hqd (by omega) (Nat.le_refl _)]; exact hk
    exact hI.c1 q oq k av (by omega) hqo hqd hlq hk1
  · rw [get_unwrit (by omega) hw] at hk
    refine hI.c2 k av (fun q oq h1 h2 h3 => ?_) hk
    rcases Nat.lt_trichotomy q i with h | h | h
    · exact absurd ⟨q, oq, h, h2, h3⟩ hw
    · subst h; exact h0
    · have hdep := (hokA.1 k hkl q oq h2 h3).2 h
      obtain ⟨e, he1, he2, he3⟩ := depB_spec hdep
      by_cases hb : listed.getD q true = true
      · have := hI.cl q oq h1 h2 hb e he1 he3
        rw [he2, getD_tf hI.lsize hil, h0] at this; cases this
      · simpa using hb
structure OwnC (P : Program) (ops : List Oper) (m ia : Nat) (s : St) (t1 : List (Nat × AV)) (d : Tmp) (r : AV) (blk : Blk) (f : FuncId) (avs : List AV) : Prop where
  lt : ia < m
  al : ∃ oa cl, ops[ia]? = some oa ∧ oa.op = .call cl ∧ cl.callee = .value (.func f) ∧ oa.guard = none ∧ oa.dst = some d
  cs : CS P f avs s.σ fun r' σ' X => r' = r ∧ σ' = s.σ ++ [blk] ∧ X = []
  self : ∀ o, ops[ia]? = some o → d ∉ looks ops o
  late : ∀ q oq k, ia < q → q < m → ops[q]? = some oq → oq.dst = some k → ∀ o, ops[ia]? = some o → k ∉ looks ops o
  args : ∀ o cl, ops[ia]? = some o → o.op = .call cl → avs.length = cl.args.toList.length ∧ ∀ k, k < cl.args.toList.length → Arg true ((⟨s.N, t1, s.σ, s.mv⟩ : St).restr (looks ops o)) (cl.args.toList.getD k (.const Go.undef)) (avs.getD k .undef)
theorem phaseC (hok : drawOk ops m = true) (hmn : m ≤ ops.length) {Q : Exit → St → Prop} {j0 : J0} {j1 : Js} {w1 : World} {s : St} {t1 : List (Nat × AV)} {d : Tmp} {r : AV} {blk : Blk} {f : FuncId} {avs : List AV}
    (hW : OwnC P ops m ia s t1 d r blk f avs) (hP : PureC P s ops m ia t1 r)
    (hK : evalOps P false ops (ops.drop m) ⟨s.N, t1, s.σ ++ [blk], s.mv⟩ (Q .normal)) :
    ∀ (fuel : Nat) (j : Js) (a : Act) (w : World) (listed : Array Bool), left listed ops.length = fuel → InvC s ops m ia blk t1 j0 listed j a w → Ev j1 w1 j w → wpAnyIn (FW j0.rd) 0 P .any ops.toArray (APost j0 j1 w1 Q) fuel listed a w := by
  have fin : ∀ (j : Js) (a : Act) (w : World) (listed : Array Bool), (∀ q, q < m → listed.getD q true = true) → InvC s ops m ia blk t1 j0 listed j a w → Rel j0 ⟨s.N, t1, s.σ ++ [blk], s.mv⟩ j a w := by
    intro j a w listed hdone hI
    have hia : listed.getD ia false = true := by rw [getD_tf hI.lsize (by have := hW.lt; omega)]; exact hdone ia hW.lt
    have htau : tauC ia blk listed = [blk] := by simp only [tauC, hia, if_true]
    refine ⟨hI.defers, hI.rdok, hI.size, fun k av hk => ?_, by have := hI.sto; rw [htau] at this; exact this, hI.len0, hI.ag⟩
    by_cases hw : ∃ q oq, q < m ∧ ops[q]? = some oq ∧ oq.dst = some k
    · obtain ⟨q, oq, hq, hqo, hqd⟩ := hw
      exact hI.c1 q oq k av hq hqo hqd (hdone q hq) hk
    · obtain ⟨xs, hxs, _, _⟩ := hP.at_ []
      have hk' : get t1 k = some av := hk
      rw [← hxs, get_unwrit (Nat.le_refl _) hw] at hk'
      exact hI.c2 k av (fun q oq h1 h2 h3 => absurd ⟨q, oq, h1, h2, h3⟩ hw) hk'
  intro fuel
  induction fuel with
  | zero =>
    intro j a w listed hf hI he
    have hall : ∀ k, k < ops.length → listed.getD k true = true := by
      intro k hk
      by_cases hb : listed.getD k true = true
      · exact hb
      · have : k ∈ (List.range ops.length).filter fun k => !listed.getD k true := by
          rw [List.mem_filter]; exact ⟨by simpa using hk, by simpa using hb⟩
        have h0 : (List.range ops.length).filter (fun k => !listed.getD k true) = [] := List.length_eq_zero_iff.1 hf
        rw [h0] at this; simp at this
    have hme : m = ops.length := by
      rcases Nat.lt_or_ge m ops.length with h | h
      · have := hall m h; rw [hI.lB m (Nat.le_refl _) h] at this; simp at this
      · omega
    exact phaseB hok 0 m _ j a w listed (by omega) (Nat.le_refl _) (by omega) hI.lsize (fun k hk b => by
      have h1 := hall k hk
      have hsz : k < listed.size := by rw [hI.lsize]; exact hk
      have h2 : listed[k] = true := by simpa [hsz] using h1
      simp [hsz, h2, show k < m by omega]) (fin j a w listed (fun q hq => hall q (by omega)) hI) he hK
  | succ fuel ih =>
    intro j a w listed hf hI he
    by_cases hdone : ∀ q, q < m → listed.getD q true = true
    · have hL : ∀ k, k < ops.length → ∀ b, listed.getD k b = decide (k < m) := by
        intro k hk b
        rcases Nat.lt_or_ge k m with h | h
        · have h1 := hdone k h
          have hsz : k < listed.size := by rw [hI.lsize]; exact hk
          have h2 : listed[k] = true := by simpa [hsz] using h1
          simp [hsz, h2, h]
        · rw [hI.lB k h hk]; simp; omega
      have hfuel : fuel + 1 = ops.length - m := by
        rw [← hf]
        unfold left
        have gen : ∀ n, n ≤ ops.length → ((List.range n).filter fun k => !listed.getD k true).length = n - m := by
          intro n
          induction n with
          | zero => simp
          | succ n ihn =>
            intro hn
            rw [List.range_succ, List.filter_append, List.length_append, ihn (by omega)]
            have h1 := hL n (by omega) true
            by_cases hnm : n < m
            · have : (List.filter (fun k => !listed.getD k true) [n]).length = 0 := by
                rw [List.filter_cons_of_neg (by rw [h1]; simp [hnm])]; simp
              omega
            · have : (List.filter (fun k => !listed.getD k true) [n]).length = 1 := by
                rw [List.filter_cons_of_pos (by rw [h1]; simp; omega)]; simp
              omega
        exact gen _ (Nat.le_refl _)
      exact phaseB hok (fuel + 1) m _ j a w listed hfuel.symm (Nat.le_refl _) (by omega) hI.lsize hL (fin j a w listed hdone hI) he hK
    · have hex : ∃ q, q < m ∧ listed.getD q true = false ∧ ∀ p, p < q → listed.getD p true = true := by
        have hex0 : ∃ q, q < m ∧ listed.getD q true = false := by
          apply Classical.byContradiction
          intro hne
          apply hdone
          intro q hq
          by_cases hb : listed.getD q true = true
          · exact hb
          · exact absurd ⟨q, hq, by simpa using hb⟩ hne
        obtain ⟨q, hq1, hq2⟩ := hex0
        induction q using Nat.strongRecOn with
        | _ q ihq =>
          by_cases hall : ∀ p, p < q → listed.getD p true = true
          · exact ⟨q, hq1, hq2, hall⟩
          · have : ∃ p, p < q ∧ listed.getD p true = false := by
              apply Classical.byContradiction
              intro hne
              apply hall
              intro p hp
              by_cases hb : listed.getD p true = true
              · exact hb
              · exact absurd ⟨p, hp, by simpa using hb⟩ hne
            obtain ⟨p, hp1, hp2⟩ := this
            exact ihq p hp1 (by omega) hp2
      obtain ⟨q0, hq0, hq0l, hq0all⟩ := hex
      have hlt0 : q0 < ops.length := by omega
      have hready : q0 ∈ Region.ready .any ops.toArray listed := by
        rw [mem_ready]
        refine ⟨hq0l, ops[q0], by simp [hlt0], fun e he hb => ?_⟩
        have h1 := (drawOk_spec hok (i := q0) (o := ops[q0]) (by simp [hlt0])).1 e he hb
        rw [getD_tf hI.lsize (by omega)]
        exact hq0all e.on h1
      refine ⟨fun h0 => by rw [h0] at hready; simp at hready, fun i hi => ?_⟩
      rw [mem_ready] at hi
      obtain ⟨h0, o, ho, hall⟩ := hi
      have ho' : ops[i]? = some o := by simpa using ho
      have hil : i < ops.length := lt_of_getElem? ho'
      have him : i < m := by
        rcases Nat.lt_or_ge i m with h | h
        · exact h
        · have := depT_near (L := fun q => listed.getD q false) (fun q h1 h2 => hI.lB q h1 h2 false) (fun q oq h1 h2 h3 e he1 he2 => hI.cl q oq h1 h2 (by
            have hsz : q < listed.size := by rw [hI.lsize]; omega
            have h4 : listed[q] = true := by simpa [hsz] using h3
            simp [hsz, h4]) e he1 he2) ((drawOk_spec hok ho').2.2 h q0 (by omega)) hall
          simp only [getD_tf hI.lsize hlt0, hq0l] at this; cases this
      have hokA := okA_spec ((drawOk_spec hok ho').2.1 him)
      have hset0 : left (listed.setIfInBounds i true) ops.length = fuel := by
        have := left_set hI.lsize hil h0; omega
      have hszi : i < listed.size := by rw [hI.lsize]; exact hil
      have hseti : ∀ b, (listed.setIfInBounds i true).getD i b = true := by intro b; simp [hszi]
      have step : ∀ (j' : Js) (w' : World) (v : Value), RelS w' j' (s.σ ++ tauC ia blk (listed.setIfInBounds i true)) → Ev j w j' w' → Ag j j' [] → j.length ≤ j'.length →
          (∀ k av, o.dst = some k → get t1 k = some av → k < s.N ∧ R w' j' av v) → wpAnyIn (FW j0.rd) 0 P .any ops.toArray (APost j0 j1 w1 Q) fuel (listed.setIfInBounds i true) (a.put o.dst v) w' := by
        intro j' w' v hsto hev hagj hlj hv
        have oth : ∀ {k}, o.dst ≠ some k → (a.put o.dst v).tmps.getD k Go.undef = a.tmps.getD k Go.undef := by
          intro k hne
          cases hd : o.dst with
          | none => rfl
          | some d =>
            have hdk : d ≠ k := fun h => hne (by rw [hd, h])
            simp [Act.put, Array.getD_eq_getD_getElem?, Array.getElem?_setIfInBounds, hdk]
        refine ih j' _ w' _ hset0 ⟨?_, fun l hl => (by obtain ⟨r, hr⟩ := hI.rdok l hl; exact hev.lps l r hr), ?_, hsto, Nat.le_trans hI.len0 hlj, ?_, by simpa using hI.lsize, ?_, ?_, ?_, ?_⟩ (he.trans hev)
        · have := hI.defers.mono hev
          cases hd : o.dst <;> simpa [Act.put] using this
        · cases hd : o.dst <;> simp [Act.put, hI.size]
        · intro b hb hn
          rw [hagj b (by have := hI.len0; omega) (by simp)]
          exact hI.ag b hb hn
        · intro k hk1 hk2 b
          rw [getD_set_ne b (by omega)]; exact hI.lB k hk1 hk2 b
        · intro q oq hq hqo hl e he1 he2
          by_cases hqi : i = q
          · subst hqi
            have : oq = o := by rw [ho'] at hqo; exact (Option.some.inj hqo).symm
            subst this
            exact getD_set_true (hall e he1 he2)
          · rw [getD_set_ne true hqi] at hl
            exact getD_set_true (hI.cl q oq hq hqo hl e he1 he2)
        · intro q oq k av hq hqo hqd hl hk
          by_cases hqi : i = q
          · subst hqi
            have : oq = o := by rw [ho'] at hqo; exact (Option.some.inj hqo).symm
            subst this
            have h1 := hv k av hqd hk
            simp only [Act.put, hqd]
            rw [R_setIfInBounds (w := w) (j := j) (by rw [hI.size]; exact h1.1), if_pos rfl]; exact h1
          · rw [getD_set_ne true hqi] at hl
            have h1 := hI.c1 q oq k av hq hqo hqd hl hk
            rw [oth (fun hd => hokA.2 q oq k hq (fun h => hqi h.symm) hqo hd hqd)]
            exact ⟨h1.1, h1.2.mono0 hev hI.sto.lt hagj⟩
        · intro k av hk hg
          have hne : o.dst ≠ some k := fun hd => by
            have := hk i o him ho' hd
            rw [hseti] at this; cases this
          have h1 := hI.c2 k av (fun q oq h1 h2 h3 => by
            have hqi : i ≠ q := fun h => by subst h; rw [ho'] at h2; cases h2; exact hne h3
            have := hk q oq h1 h2 h3
            rwa [getD_set_ne true hqi] at this) hg
          rw [oth hne]; exact ⟨h1.1, h1.2.mono0 hev hI.sto.lt hagj⟩
      simp only [wpOpIn, ho]
      by_cases hia : i = ia
      · -- the call that makes the block
        subst hia
        obtain ⟨oa, cl, hoa, hop, hcal, hgd, hdst⟩ := hW.al
        obtain rfl : o = oa := by rw [ho'] at hoa; exact Option.some.inj hoa
        have hnl : listed.getD i false = false := by rw [getD_tf hI.lsize hil]; exact h0
        have htau : tauC i blk listed = [] := by simp only [tauC, hnl]; rfl
        have hsto := hI.sto
        rw [htau, List.append_nil] at hsto
        obtain ⟨xs, hxs, hxa, hloc⟩ := hP.at_ []
        have hr : Rel j0 ((⟨s.N, t1, s.σ, s.mv⟩ : St).restr (looks ops o)) j a w := by
          refine ⟨hI.defers, hI.rdok, hI.size, fun k av hk => ?_, hsto, hI.len0, hI.ag⟩
          simp only [St.restr, get_restr] at hk
          split at hk
          · rename_i hkl
            have hkl : k ∈ looks ops o := by simpa using hkl
            by_cases hw : ∃ q oq, q < m ∧ ops[q]? = some oq ∧ oq.dst = some k
            · obtain ⟨q, oq, hq, hqo, hqd⟩ := hw
              have hqi : q < i := by
                rcases Nat.lt_trichotomy q i with h | h | h
                · exact h
                · subst h; rw [ho'] at hqo; cases hqo; rw [hdst] at hqd; cases hqd; exact absurd hkl (hW.self o ho')
                · exact absurd hkl (hW.late q oq k h hq hqo hqd o ho')
              obtain ⟨e, he1, he2, he3⟩ := depB_spec ((hokA.1 k hkl q oq hqo hqd).1 hqi)
              have hlq := hall e he1 he3
              rw [he2, getD_tf hI.lsize (by omega)] at hlq
              exact hI.c1 q oq k av hq hqo hqd hlq hk
            · rw [← hxs, get_unwrit (Nat.le_refl _) hw] at hk
              exact hI.c2 k av (fun q oq h1 h2 h3 => absurd ⟨q, oq, h1, h2, h3⟩ hw) hk
          · simp at hk
        have hw : Region.wanted o (yielded ops.toArray a.tmps) = true := by simp [Region.wanted, hgd]
        rw [if_pos hw]
        have hfv : a.eval (.func f) = .func (.func f) #[] #[] := rfl
        have hen := hW.cs.1
        refine opw (by simp [hop]) (call_run (P := P) (w := w) hop hcal hfv hen) ?_
        refine ⟨by simp [FW], FW_calls ?_⟩
        have hmem : ∀ x ∈ cl.args.toList, ∀ t, x = .tmp t → t ∈ looks ops o := fun x hx t ht => List.mem_append.2 (.inl (mem_opTmps (by
          simp only [hop, Op.operands, Call.operands, Array.mem_append]; exact .inr (by simpa using hx)) ht))
        have hargs := hW.args o cl ho' hop
        have hrs := rs_args (g := true) rfl hargs.1 hargs.2 hr
        have e : (cl.args.toList.map a.eval).toArray = cl.args.map a.eval := by apply Array.ext'; simp
        rw [e] at hrs
        have e2 : (#[] : Array Value) ++ cl.args.map a.eval ++ #[] = cl.args.map a.eval := by simp
        rw [e2]
        refine (hW.cs.2 j w _ hsto hrs).mono ?_
        rintro e w' ⟨v, r', σ', j', X, rfl, h6, h7, h8, h9, h10, rfl, rfl, rfl⟩
        refine step j' w' v ?_ h8 h10 h9 (fun k av hk hgt => ?_)
        · have : tauC i blk (listed.setIfInBounds i true) = [blk] := by simp only [tauC, hseti, if_true]
          rw [this]; exact h6
        · rw [← hxs, get_writ hok hmn him ho' hk him (Nat.le_refl _), hxa] at hgt
          split at hgt
          · rename_i hlt
            obtain rfl : r' = av := Option.some.inj hgt
            exact ⟨hlt, h7⟩
          · simp at hgt
      · -- one that computes
        obtain ⟨xs, hxs, hxa, hloc⟩ := hP.at_ (tauC ia blk listed)
        have hL := hloc i o him ho' hia
        have hrel : Rel j0 ((⟨s.N, (stAt s (ops.take m) xs i).t, s.σ ++ tauC ia blk listed, s.mv⟩ : St).restr (looks ops o)) j a w := by
          refine ⟨hI.defers, hI.rdok, hI.size, fun k av hk => ?_, hI.sto, hI.len0, hI.ag⟩
          simp only [St.restr, get_restr] at hk
          split at hk
          · rename_i hkl
            exact hI.looks_rel hok hmn hxs him ho' h0 hall (by simpa using hkl) hk
          · simp at hk
        have htau : tauC ia blk (listed.setIfInBounds i true) = tauC ia blk listed := by
          simp only [tauC, getD_set_ne false hia]
        have hval : ∀ (w' : World) (v : Value), R w' j (xs i) v → ∀ k av, o.dst = some k → get t1 k = some av → k < s.N ∧ R w' j av v := by
          intro w' v hr k av hk hgt
          rw [← hxs, get_writ hok hmn him ho' hk him (Nat.le_refl _)] at hgt
          split at hgt
          · rename_i hlt
            obtain rfl : xs i = av := Option.some.inj hgt
            exact ⟨hlt, hr⟩
          · simp at hgt
        by_cases hw : Region.wanted o (yielded ops.toArray a.tmps) = true
        · rw [if_pos hw]
          exact hL.run j0 j a w _ _ hrel hw fun w' v h1 h2 h3 => step j w' v (by rw [htau]; exact h1) h2 (.refl _ _) (Nat.le_refl _) (hval w' v h3)
        · rw [if_neg hw]
          exact ⟨fun _ _ => trivial, step j w Go.undef (by rw [htau]; exact hI.sto) (.refl _ _) (.refl _ _) (Nat.le_refl _) (hval w _ (hL.skip j0 j a w hrel (by simpa using hw)))⟩
end
def ownCOk (ops : List Oper) (m ia : Nat) (f : FuncId) : Bool :=
  match ops[ia]? with
  | some oa => (match oa.op, oa.guard, oa.dst with
    | .call cl, none, some d => (match cl.callee with
      | .value (.func f') => Nat.beq f' f
      | _ => false) && Nat.blt ia m && !(looks ops oa).contains d && (List.range m).all (fun q => Nat.ble q ia || (match ops[q]? with
        | some oq => (match oq.dst with
          | some d => !(looks ops oa).contains d
          | none => true)
        | none => true))
    | _, _, _ => false)
  | none => false
theorem ownCOk_spec {ops : List Oper} {m ia : Nat} {f : FuncId} (h : ownCOk ops m ia f = true) : ∃ oa cl d, ops[ia]? = some oa ∧ oa.op = .call cl ∧ cl.callee = .value (.func f) ∧ oa.guard = none ∧ oa.dst = some d ∧ ia < m ∧ d ∉ looks ops oa ∧
    (∀ q oq k, ia < q → q < m → ops[q]? = some oq → oq.dst = some k → k ∉ looks ops oa) := by
  unfold ownCOk at h
  split at h
  · rename_i oa hoa
    split at h
    · rename_i cl d e1 e2 e3
      simp only [Bool.and_eq_true, Nat.blt_eq, Bool.not_eq_true', List.all_eq_true, List.mem_range, Bool.or_eq_true, Nat.ble_eq, List.contains_eq_mem, decide_eq_false_iff_not] at h
      obtain ⟨⟨⟨h1, h2⟩, h3⟩, h4⟩ := h
      split at h1
      · rename_i f' hc
        have := Nat.eq_of_beq_eq_true h1
        subst this
        refine ⟨oa, cl, d, hoa, e1, hc, e2, e3, h2, h3, fun q oq k hq hqm hqo hqd hkl => ?_⟩
        rcases h4 q hqm with h | h
        · omega
        · simp only [hqo, hqd, Bool.not_eq_true', List.contains_eq_mem, decide_eq_false_iff_not] at h
          exact h hkl
      · cases h1
    · cases h
  · cases h
def callC (P : Program) (ops : List Oper) (ia : Nat) (s : St) (K : List AV → Prop) : Prop :=
  match nthOp ops ia with
  | some oa => (match oa.op with
    | .call c => args true s c.args.toList K
    | _ => False)
  | none => False
theorem awp_ownc {P : Program} {Q : Exit → St → Prop} {N : Nat} {t : List (Nat × AV)} {σ : List Blk} {mv : List Nat} {id : Nat} {ops : List Oper} (m ia : Nat) (f : FuncId) (r : AV) (blk : Blk) (hm : P.follows .mixedOrders = true) (hok : (drawOk ops m && Nat.ble m ops.length && ownCOk ops m ia f) = true) {t1 : List (Nat × AV)}
    (h1 : ∀ (τ : List Blk) (K : St → Prop), (∀ σ' mv', K ⟨N, t1, σ', mv'⟩) → evalC P ops ia r (ops.take m) 0 ⟨N, t, σ ++ τ, mv⟩ K)
    (h2 : callC P ops ia ⟨N, t1, σ, mv⟩ fun avs => CS P f avs σ fun r' σ' X => r' = r ∧ σ' = σ ++ [blk] ∧ X = [])
    (h3 : evalOps P false ops (ops.drop m) ⟨N, t1, σ ++ [blk], mv⟩ (Q .normal)) : AWP P (.region id ops.toArray true) Q ⟨N, t, σ, mv⟩ := by
  intro j0 j a w hr
  simp only [Bool.and_eq_true, Nat.ble_eq] at hok
  obtain ⟨⟨hok, hmn⟩, hown⟩ := hok
  obtain ⟨oa, cl, d, hoa, hopa, hcl, hga, hda, hlt, hself, hlate⟩ := ownCOk_spec hown
  have hP : PureC P ⟨N, t, σ, mv⟩ ops m ia t1 r := ⟨fun τ => by
    have h := h1 τ (fun s' => s'.t = t1) (fun _ _ => rfl)
    have hlen : (ops.take m).length = m := by simp; omega
    obtain ⟨xs, hK, hia, hloc⟩ := unrollC h
    have hext := stAt_ext ⟨N, t, σ, mv⟩ τ (ops.take m) xs
    refine ⟨xs, ?_, hia ia (by omega), fun i o him ho h3 => ?_⟩
    · rw [hlen, hext] at hK; exact hK
    · have := hloc i o (by rw [take_get him]; exact ho) (by omega)
      rw [hext] at this; exact this⟩
  have hr' : Rel j0 ⟨N, t, σ, mv⟩ j a w.drew := hr.after (ev_drew j w) hr.sto.drew (Nat.le_refl _) (.refl _ [])
  have hf : ∀ k b, k < ops.length → (Array.replicate ops.toArray.size false).getD k b = false := by
    intro k b hk; simp [hk]
  unfold callC at h2
  rw [nthOp_eq, hoa] at h2
  simp only [hopa] at h2
  have hmem : ∀ x ∈ cl.args.toList, ∀ t, x = .tmp t → t ∈ looks ops oa := fun x hx t ht => List.mem_append.2 (.inl (mem_opTmps (by
    simp only [hopa, Op.operands, Call.operands, Array.mem_append]; exact .inr (by simpa using hx)) ht))
  rw [← args_restr (L := looks ops oa) hmem] at h2
  obtain ⟨avs, hcs, hl, ha⟩ := args_sound h2
  have hW : OwnC P ops m ia ⟨N, t, σ, mv⟩ t1 d r blk f avs := ⟨hlt, ⟨oa, cl, hoa, hopa, hcl, hga, hda⟩, hcs, fun o ho => by rw [hoa] at ho; cases ho; exact hself, fun q oq k h1 h2 h3 h4 o ho => by rw [hoa] at ho; cases ho; exact hlate q oq k h1 h2 h3 h4,
    fun o c ho hc => by rw [hoa] at ho; cases ho; rw [hopa] at hc; cases hc; exact ⟨hl, ha⟩⟩
  refine wpIn_region_any hm ?_
  refine phaseC hok hmn hW hP h3 _ j a w.drew _ ?_ ⟨hr'.defers, hr'.rdok, hr'.size, ?_, hr'.len0, hr'.ag, by simp, fun k _ hk b => hf k b hk, fun q oq hq hqo hl => ?_, fun q oq k av hq hqo hd hl => ?_, fun k av _ hk => hr'.tmp k av hk⟩ (ev_drew j w)
  · unfold left
    have : (List.range ops.length).filter (fun k => !(Array.replicate ops.toArray.size false).getD k true) = List.range ops.length := by
      apply List.filter_eq_self.2
      intro k hk
      rw [hf k true (by simpa using hk)]; rfl
    rw [this]; simp
  · have : tauC ia blk (Array.replicate ops.toArray.size false) = [] := by simp only [tauC, hf ia false (by omega)]; rfl
    rw [this, List.append_nil]; exact hr'.sto
  · rw [hf q true (by omega)] at hl; cases hl
  · rw [hf q true (by omega)] at hl; cases hl
theorem awp_ownc_seq {P : Program} {Q : Exit → St → Prop} {N : Nat} {t : List (Nat × AV)} {σ : List Blk} {mv : List Nat} {id : Nat} {ops : List Oper} {y : Code} (m ia : Nat) (f : FuncId) (r : AV) (blk : Blk) (hm : P.follows .mixedOrders = true) (hok : (drawOk ops m && Nat.ble m ops.length && ownCOk ops m ia f) = true) {t1 : List (Nat × AV)}
    (h1 : ∀ (τ : List Blk) (K : St → Prop), (∀ σ' mv', K ⟨N, t1, σ', mv'⟩) → evalC P ops ia r (ops.take m) 0 ⟨N, t, σ ++ τ, mv⟩ K)
    (h2 : callC P ops ia ⟨N, t1, σ, mv⟩ fun avs => CS P f avs σ fun r' σ' X => r' = r ∧ σ' = σ ++ [blk] ∧ X = [])
    (h3 : ∀ K : St → Prop, (∀ s', AWP P y Q s' → K s') → evalOps P false ops (ops.drop m) ⟨N, t1, σ ++ [blk], mv⟩ K) : AWP P (.seq (.region id ops.toArray true) y) Q ⟨N, t, σ, mv⟩ :=
  awp_seq (awp_ownc m ia f r blk hm hok h1 h2 (h3 _ fun s' h => h))
def RestC (P : Program) (all : List Oper) (ia : Nat) (r : AV) (os : List Oper) (i : Nat) (K : St → Prop) (s : St) : Prop := evalC P all ia r os i s K
theorem evalC_nil (P : Program) (all : List Oper) (ia i : Nat) (r : AV) (s : St) (K : St → Prop) : evalC P all ia r [] i s K = K s := rfl
theorem evalC_cons (P : Program) (all os : List Oper) (ia i : Nat) (r : AV) (o : Oper) (s : St) (K : St → Prop) : evalC P all ia r (o :: os) i s K = if Nat.beq i ia then RestC P all ia r os (i + 1) K (s.put o.dst r)
    else guardA all s o fun gd g => opA P true gd g o s (RestC P all ia r os (i + 1) K) := rfl
theorem RestC_mk (P : Program) (all os : List Oper) (ia i : Nat) (r : AV) (K : St → Prop) (N : Nat) (t : List (Nat × AV)) (σ : List Blk) (mv : List Nat) : RestC P all ia r os i K ⟨N, t, σ, mv⟩ = evalC P all ia r os i ⟨N, t, σ, mv⟩ K := rfl
attribute [go_sem ↓] evalC_nil evalC_cons RestC_mk callC
attribute [go_sem] RestC_mk
end Go.Abs
