/- Contracts and lemmas (Cc, St, Azu, Cd, Er, Ce, Sm, Cf, Adr, Azx, Cg, Ch, Ci, Cj, Ck, Cl, Cm, Cn), joined out of smaller texts by a program; no conditions. -/
import Derived.Test.YtldnolgijfkfpaaGreatDoorKC3
import Derived.Shelf.SlGeneric
import Derived.Shelf.Strings.Repeat
import Derived.Shelf.Strconv.Itoa3
import Derived.Shelf.Sort.Plain
import Derived.Ground.NamesProg
import Derived.Test.YtldnolgijfkfpaaGreatDoorProg
import Derived.Lib.ItoaNum
import Derived.Test.YtldnolgijfkfpaaGreatDoorRows
import Derived.HandedShaped
import Derived.Deep.DeepHandedRow
import Derived.Lib.LaidTab
import Derived.LaidLaws
import Derived.Shelf.SlLaysF
import Derived.Ground.SlsfProg
import Derived.Sort.Walk0
import Derived.Calls
import Derived.StepT
import Derived.Sort.Row
import Derived.Sort.Grow
import Derived.Shelf.SlSortCmp.Insertion
import Derived.Shelf.SlSortCmp.Whole1
/-! Cc -/
namespace Go.Proofs.YtldnolgijfkfpaaGreatDoor
open Go.Abs
set_option linter.unusedVariables false
set_option linter.unusedSimpArgs false
set_option maxRecDepth 100000
set_option maxHeartbeats 1000000
def thetaL (a s : Nat → Int) : Nat → (Nat → Int)
  | 0 => a
  | i + 1 => upd (thetaL a s i) i (xorI .u64 (xorI .u64 (thetaL a s i i) (s ((i + 4) % 5))) (rotI (s ((i + 1) % 5)) 1))
def rbIn (a : Nat → Int) (x : Nat) (b : Nat → Int) : Nat → (Nat → Int)
  | 0 => b
  | y + 1 => upd (rbIn a x b y) (y + 5 * ((2 * x + 3 * y) % 5)) (rotI (a (x + 5 * y)) (rotN (x + 5 * y)))
def rbOut (a : Nat → Int) : Nat → (Nat → Int)
  | 0 => fun _ => 0
  | x + 1 => rbIn a x (rbOut a x) 5
def roIn (b : Nat → Int) (x : Nat) (o : Nat → Int) : Nat → (Nat → Int)
  | 0 => o
  | y + 1 => upd (roIn b x o y) (x + 5 * y) (chiP b x y)
def roOut (b a : Nat → Int) : Nat → (Nat → Int)
  | 0 => a
  | x + 1 => roIn b x (roOut b a x) 5
def roundR (a : Nat → Int) (c : Int) : Nat → Int :=
  upd (roOut (rbOut (thetaL a (sumsL a 25) 25) 5) (thetaL a (sumsL a 25) 25) 5) 0 (xorI .u64 (roOut (rbOut (thetaL a (sumsL a 25) 25) 5) (thetaL a (sumsL a 25) 25) 5 0) c)
theorem lt25 {q : Nat} (h : q < 25) : q = 0 ∨ q = 1 ∨ q = 2 ∨ q = 3 ∨ q = 4 ∨ q = 5 ∨ q = 6 ∨ q = 7 ∨ q = 8 ∨ q = 9 ∨ q = 10 ∨ q = 11 ∨ q = 12 ∨ q = 13 ∨ q = 14 ∨ q = 15 ∨ q = 16 ∨ q = 17 ∨ q = 18 ∨ q = 19 ∨ q = 20 ∨ q = 21 ∨ q = 22 ∨ q = 23 ∨ q = 24 := by omega
theorem theta_at (a s : Nat → Int) (q : Nat) : ∀ n, thetaL a s n q = if q < n then xorI .u64 (xorI .u64 (a q) (s ((q + 4) % 5))) (rotI (s ((q + 1) % 5)) 1) else a q
  | 0 => rfl
  | n + 1 => by
    unfold thetaL upd
    by_cases h : q = n
    · subst h
      rw [if_pos rfl, if_pos (Nat.lt_succ_self _), theta_at a s q q, if_neg (Nat.lt_irrefl _)]
    · rw [if_neg h, theta_at a s q n]
      by_cases h2 : q < n
      · rw [if_pos h2, if_pos (by omega)]
      · rw [if_neg h2, if_neg (by omega)]
theorem b_eq (a s : Nat → Int) {q : Nat} (h : q < 25) : rbOut (thetaL a s 25) 5 q = bOut a s 5 q := by
  rcases lt25 h with rfl | rfl | rfl | rfl | rfl | rfl | rfl | rfl | rfl | rfl | rfl | rfl | rfl | rfl | rfl | rfl | rfl | rfl | rfl | rfl | rfl | rfl | rfl | rfl | rfl <;> simp [rbOut, rbIn, bOut, bIn, upd, theta_at, wordP]
theorem ro_at (b a : Nat → Int) {q : Nat} (h : q < 25) : roOut b a 5 q = chiP b (q % 5) (q / 5) := by
  rcases lt25 h with rfl | rfl | rfl | rfl | rfl | rfl | rfl | rfl | rfl | rfl | rfl | rfl | rfl | rfl | rfl | rfl | rfl | rfl | rfl | rfl | rfl | rfl | rfl | rfl | rfl <;> kernel_rfl
theorem o_at (b : Nat → Int) {q : Nat} (h : q < 25) : oOut b 5 q = chiP b (q % 5) (q / 5) := by
  rcases lt25 h with rfl | rfl | rfl | rfl | rfl | rfl | rfl | rfl | rfl | rfl | rfl | rfl | rfl | rfl | rfl | rfl | rfl | rfl | rfl | rfl | rfl | rfl | rfl | rfl | rfl <;> kernel_rfl
theorem chi_eq {b b' : Nat → Int} (h : ∀ q, q < 25 → b' q = b q) {x y : Nat} (hx : x < 5) (hy : y < 5) : chiP b' x y = chiP b x y := by
  unfold chiP
  rw [h _ (lt_xy hx hy), h _ (lt_c hy), h _ (lt_c hy)]
theorem round_eq (a : Nat → Int) (c : Int) {q : Nat} (h : q < 25) : roundR a c q = roundP a c q := by
  have key : ∀ q, q < 25 → roOut (rbOut (thetaL a (sumsL a 25) 25) 5) (thetaL a (sumsL a 25) 25) 5 q = oOut (bOut a (sumsL a 25) 5) 5 q := fun q hq => by
    rw [ro_at _ _ hq, o_at _ hq]
    exact chi_eq (fun r hr => b_eq a (sumsL a 25) hr) (lt_m5 q) (by omega)
  unfold roundR roundP upd
  rw [key 0 (by omega)]
  split
  · rfl
  · exact key q h
theorem ref01_round_cs (σ : List Blk) (a : Nat → Int) (c : Int) : CSF Tryz.prog 105 [.agg (arrV .u64 25 a), .d (U c), .agg (arrV .i64 25 rotF)] σ (.agg (arrV .u64 25 (roundP a c))) := by
  refine CSF.of_body T.en105 Tryz.func105 rfl (by simp [Tryz.ntmps105]) (by simp [go_sem]) fun hwf => ?_
  refine awp_reg_seq fun K hK => ?_
  simp [go_sem, Tryz.ntmps105, tn_mod5, tn_xy, tn_x4, tn_x1, tn_b, tn_c1, tn_c2, lt_m5, le_m5]
  repeat refine ⟨by omega, ?_⟩
  refine hK _ ?_; clear hK K
  refine awp_reg_seq fun K hK => ?_
  simp [go_sem, tn_mod5, tn_xy, tn_x4, tn_x1, tn_b, tn_c1, tn_c2, lt_m5, le_m5]
  repeat refine ⟨by omega, ?_⟩
  refine hK _ ?_; clear hK K
  refine awp_seq ?_
  refine awp_reg_seq fun K hK => ?_
  simp [go_sem, tn_mod5, tn_xy, tn_x4, tn_x1, tn_b, tn_c1, tn_c2, lt_m5, le_m5]
  repeat refine ⟨by omega, ?_⟩
  refine hK _ ?_; clear hK K
  refine awp_block ?_
  refine awp_forget [1, 3, 5, 6, 7, 8] (by simp [go_sem, restr]; rfl) ?_
  refine awp_loopU (α := Nat) (fun i => [(8, .d (I i))]) (fun i => σ ++ [.var (arrV .u64 25 a), .var (arrV .i64 25 rotF), .var (arrV .u64 25 fun _ => 0), .var (arrV .u64 5 (sumsL a i))]) (fun i => i ≤ 25) (fun i => 25 - i) 0 (by simp [go_sem, tn_mod5, tn_xy, tn_x4, tn_x1, tn_b, tn_c1, tn_c2, lt_m5, le_m5]) (rfl) (by simp) ?_
  rintro i hi
  refine awp_seq ?_
  refine awp_reg_seq fun K hK => ?_
  simp [go_sem, tn_mod5, tn_xy, tn_x4, tn_x1, tn_b, tn_c1, tn_c2, lt_m5, le_m5]
  repeat refine ⟨by omega, ?_⟩
  refine hK _ ?_; clear hK K
  refine awp_forget [1, 3, 5, 6, 7, 8, 17] (by simp only [restr, List.contains_cons, List.contains_nil, Nat.reduceBEq, Bool.or_false, Bool.or_true, Bool.true_or, Bool.false_or, if_true, if_false, Bool.false_eq_true]; rfl) ?_
  refine awp_cond rfl (fun c0 => ?_) (fun c0 => ?_)
  · have d0 := c0; try simp at d0
    have hi5 : i < 25 := by omega
    have hi4 : i ≤ 24 := by omega
    have ht : (i : Int).tmod 5 = (i : Int) % 5 := tmodI (by omega)
    have hsu : sumsL a (i + 1) = upd (sumsL a i) (i % 5) (xorI .u64 (sumsL a i (i % 5)) (a i)) := rfl
    refine awp_skip ?_
    refine awp_seq ?_
    refine awp_block ?_
    refine awp_draw_end 10 T.mixed (by kernel_rfl) fun K hK => ?_
    simp [go_sem, tn_mod5, tn_xy, tn_x4, tn_x1, tn_b, tn_c1, tn_c2, lt_m5, le_m5, c0, d0, hi5, hi4, ht, hsu]
    try simp (disch := omega) only [tmodI]
    repeat refine ⟨by omega, ?_⟩
    refine hK _ ?_; clear hK K
    refine awp_reg_end fun K hK => ?_
    simp [go_sem, tn_mod5, tn_xy, tn_x4, tn_x1, tn_b, tn_c1, tn_c2, lt_m5, le_m5, c0, d0, hi5, hi4, ht, hsu]
    try simp (disch := omega) only [wrapI]
    repeat refine ⟨by omega, ?_⟩
    refine hK _ ?_; clear hK K
    refine ⟨i + 1, back_of' (by simp [go_sem, wrap_succ (i := i) (by omega), tn_mod5, tn_xy, tn_x4, tn_x1, tn_b, tn_c1, tn_c2, lt_m5, le_m5, c0, d0, hi5, hi4, ht, hsu]) ((leaves_app (by simp [go_sem]))) (by (simp [go_sem, wrap_succ (i := i) (by omega), tn_mod5, tn_xy, tn_x4, tn_x1, tn_b, tn_c1, tn_c2, lt_m5, le_m5, c0, d0, hi5, hi4, ht, hsu] <;> omega)), by omega, by first | omega | (dsimp only; omega)⟩
  · have d0 := c0; try simp at d0
    obtain rfl : i = 25 := by omega
    refine awp_exit ?_
    refine awp_seq ?_
    refine awp_reg_seq fun K hK => ?_
    simp [go_sem, tn_mod5, tn_xy, tn_x4, tn_x1, tn_b, tn_c1, tn_c2, lt_m5, le_m5, c0, d0]
    repeat refine ⟨by omega, ?_⟩
    refine hK _ ?_; clear hK K
    refine awp_block ?_
    refine awp_forget [1, 3, 5, 6, 7, 9] (by simp [go_sem, restr]; rfl) ?_
    refine awp_loopU (α := Nat) (fun i => [(9, .d (I i))]) (fun i => σ ++ [.var (arrV .u64 25 (thetaL a (sumsL a 25) i)), .var (arrV .i64 25 rotF), .var (arrV .u64 25 fun _ => 0), .var (arrV .u64 5 (sumsL a 25))]) (fun i => i ≤ 25) (fun i => 25 - i) 0 (by simp [go_sem, tn_mod5, tn_xy, tn_x4, tn_x1, tn_b, tn_c1, tn_c2, lt_m5, le_m5]) (rfl) (by simp) ?_
    rintro i hi
    refine awp_seq ?_
    refine awp_reg_seq fun K hK => ?_
    simp [go_sem, tn_mod5, tn_xy, tn_x4, tn_x1, tn_b, tn_c1, tn_c2, lt_m5, le_m5, c0, d0]
    repeat refine ⟨by omega, ?_⟩
    refine hK _ ?_; clear hK K
    refine awp_forget [1, 3, 5, 6, 7, 9, 32] (by simp only [restr, List.contains_cons, List.contains_nil, Nat.reduceBEq, Bool.or_false, Bool.or_true, Bool.true_or, Bool.false_or, if_true, if_false, Bool.false_eq_true]; rfl) ?_
    refine awp_cond rfl (fun c1 => ?_) (fun c1 => ?_)
    · have d1 := c1; try simp at d1
      have hi5 : i < 25 := by omega
      have hi4 : i ≤ 24 := by omega
      have hw4 : IntKind.i64.wrap ((i : Int) + 4) = (i : Int) + 4 := wrapI (by omega) (by omega)
      have hw1 : IntKind.i64.wrap ((i : Int) + 1) = (i : Int) + 1 := wrapI (by omega) (by omega)
      have hth : thetaL a (sumsL a 25) (i + 1) = upd (thetaL a (sumsL a 25) i) i (xorI .u64 (xorI .u64 (thetaL a (sumsL a 25) i i) (sumsL a 25 ((i + 4) % 5))) (rotI (sumsL a 25 ((i + 1) % 5)) 1)) := rfl
      refine awp_skip ?_
      refine awp_seq ?_
      refine awp_block ?_
      refine awp_draw_end 17 T.mixed (by kernel_rfl) fun K hK => ?_
      simp [go_sem, tn_mod5, tn_xy, tn_x4, tn_x1, tn_b, tn_c1, tn_c2, lt_m5, le_m5, c0, d0, c1, d1, hi5, hi4, hw4, hw1, md_x4, md_x1, hth]
      try simp (disch := omega) only [tmodI, wrapI]
      repeat refine ⟨by omega, ?_⟩
      refine CSg.mk (ref01_rotate_cs _ (sumsL a 25 ((i + 1) % 5)) 1 (by decide)) ?_
      simp [go_sem, tn_mod5, tn_xy, tn_x4, tn_x1, tn_b, tn_c1, tn_c2, lt_m5, le_m5, c0, d0, c1, d1, hi5, hi4, hw4, hw1, md_x4, md_x1, hth]
      try simp (disch := omega) only [tmodI, wrapI]
      repeat refine ⟨by omega, ?_⟩
      refine hK _ ?_; clear hK K
      refine awp_reg_end fun K hK => ?_
      simp [go_sem, tn_mod5, tn_xy, tn_x4, tn_x1, tn_b, tn_c1, tn_c2, lt_m5, le_m5, c0, d0, c1, d1, hi5, hi4, hw4, hw1, md_x4, md_x1, hth]
      try simp (disch := omega) only [wrapI]
      repeat refine ⟨by omega, ?_⟩
      refine hK _ ?_; clear hK K
      refine ⟨i + 1, back_of' (by simp [go_sem, wrap_succ (i := i) (by omega), tn_mod5, tn_xy, tn_x4, tn_x1, tn_b, tn_c1, tn_c2, lt_m5, le_m5, c0, d0, c1, d1, hi5, hi4, hw4, hw1, md_x4, md_x1, hth]) ((leaves_app (by simp [go_sem]))) (by (simp [go_sem, wrap_succ (i := i) (by omega), tn_mod5, tn_xy, tn_x4, tn_x1, tn_b, tn_c1, tn_c2, lt_m5, le_m5, c0, d0, c1, d1, hi5, hi4, hw4, hw1, md_x4, md_x1, hth] <;> omega)), by omega, by first | omega | (dsimp only; omega)⟩
    · have d1 := c1; try simp at d1
      obtain rfl : i = 25 := by omega
      refine awp_exit ?_
      refine awp_reg_seq fun K hK => ?_
      simp [go_sem, tn_mod5, tn_xy, tn_x4, tn_x1, tn_b, tn_c1, tn_c2, lt_m5, le_m5, c0, d0, c1, d1]
      repeat refine ⟨by omega, ?_⟩
      refine hK _ ?_; clear hK K
      refine awp_seq ?_
      refine awp_reg_seq fun K hK => ?_
      simp [go_sem, tn_mod5, tn_xy, tn_x4, tn_x1, tn_b, tn_c1, tn_c2, lt_m5, le_m5, c0, d0, c1, d1]
      repeat refine ⟨by omega, ?_⟩
      refine hK _ ?_; clear hK K
      refine awp_block ?_
      refine awp_forget [1, 3, 5, 6, 10, 11] (by simp [go_sem, restr]; rfl) ?_
      refine awp_loopU (α := Nat) (fun x => [(11, .d (I x))]) (fun x => σ ++ [.var (arrV .u64 25 (thetaL a (sumsL a 25) 25)), .var (arrV .i64 25 rotF), .var (arrV .u64 25 fun _ => 0), .var (arrV .u64 5 (sumsL a 25)), .var (arrV .u64 25 (rbOut (thetaL a (sumsL a 25) 25) x))]) (fun x => x ≤ 5) (fun x => 5 - x) 0 (by simp [go_sem, tn_mod5, tn_xy, tn_x4, tn_x1, tn_b, tn_c1, tn_c2, lt_m5, le_m5]) (rfl) (by simp) ?_
      rintro x hx
      refine awp_seq ?_
      refine awp_reg_seq fun K hK => ?_
      simp [go_sem, tn_mod5, tn_xy, tn_x4, tn_x1, tn_b, tn_c1, tn_c2, lt_m5, le_m5, c0, d0, c1, d1]
      repeat refine ⟨by omega, ?_⟩
      refine hK _ ?_; clear hK K
      refine awp_forget [1, 3, 5, 6, 10, 11, 55] (by simp only [restr, List.contains_cons, List.contains_nil, Nat.reduceBEq, Bool.or_false, Bool.or_true, Bool.true_or, Bool.false_or, if_true, if_false, Bool.false_eq_true]; rfl) ?_
      refine awp_cond rfl (fun c2 => ?_) (fun c2 => ?_)
      · have d2 := c2; try simp at d2
        have hx5 : x < 5 := by omega
        refine awp_skip ?_
        refine awp_seq ?_
        refine awp_block ?_
        refine awp_reg_seq fun K hK => ?_
        simp [go_sem, tn_mod5, tn_xy, tn_x4, tn_x1, tn_b, tn_c1, tn_c2, lt_m5, le_m5, c0, d0, c1, d1, c2, d2, hx5]
        repeat refine ⟨by omega, ?_⟩
        refine hK _ ?_; clear hK K
        refine awp_block ?_
        refine awp_forget [1, 3, 5, 6, 10, 11, 12] (by simp [go_sem, restr]; rfl) ?_
        refine awp_loopU (α := Nat) (fun y => [(12, .d (I y))]) (fun y => σ ++ [.var (arrV .u64 25 (thetaL a (sumsL a 25) 25)), .var (arrV .i64 25 rotF), .var (arrV .u64 25 fun _ => 0), .var (arrV .u64 5 (sumsL a 25)), .var (arrV .u64 25 (rbIn (thetaL a (sumsL a 25) 25) x (rbOut (thetaL a (sumsL a 25) 25) x) y))]) (fun y => y ≤ 5) (fun y => 5 - y) 0 (by simp [go_sem, tn_mod5, tn_xy, tn_x4, tn_x1, tn_b, tn_c1, tn_c2, lt_m5, le_m5]) (rfl) (by simp) ?_
        rintro y hy
        refine awp_seq ?_
        refine awp_reg_seq fun K hK => ?_
        simp [go_sem, tn_mod5, tn_xy, tn_x4, tn_x1, tn_b, tn_c1, tn_c2, lt_m5, le_m5, c0, d0, c1, d1, c2, d2, hx5]
        repeat refine ⟨by omega, ?_⟩
        refine hK _ ?_; clear hK K
        refine awp_forget [1, 3, 5, 6, 10, 11, 12, 59] (by simp only [restr, List.contains_cons, List.contains_nil, Nat.reduceBEq, Bool.or_false, Bool.or_true, Bool.true_or, Bool.false_or, if_true, if_false, Bool.false_eq_true]; rfl) ?_
        refine awp_cond rfl (fun c3 => ?_) (fun c3 => ?_)
        · have d3 := c3; try simp at d3
          have hy5 : y < 5 := by omega
          have hbu : rbIn (thetaL a (sumsL a 25) 25) x (rbOut (thetaL a (sumsL a 25) 25) x) (y + 1) = upd (rbIn (thetaL a (sumsL a 25) 25) x (rbOut (thetaL a (sumsL a 25) 25) x) y) (y + 5 * ((2 * x + 3 * y) % 5)) (rotI ((thetaL a (sumsL a 25) 25) (x + 5 * y)) (rotN (x + 5 * y))) := rfl
          refine awp_skip ?_
          refine awp_seq ?_
          refine awp_block ?_
          refine awp_draw_end 22 T.mixed (by kernel_rfl) fun K hK => ?_
          simp [go_sem, tn_mod5, tn_xy, tn_x4, tn_x1, tn_b, tn_c1, tn_c2, lt_m5, le_m5, c0, d0, c1, d1, c2, d2, hx5, c3, d3, hy5, wk_5, wk_2, wk_3, wk_xy, wk_23, md_23, wk_m5, wk_b, lt_xy, le_xy, lt_b, le_b, hbu]
          try simp (disch := omega) only [tmodI, wrapI]
          repeat refine ⟨by omega, ?_⟩
          refine CSg.mk (ref01_rotate_cs _ ((thetaL a (sumsL a 25) 25) (x + 5 * y)) (rotN (x + 5 * y)) (rotN_lt _)) ?_
          simp [go_sem, tn_mod5, tn_xy, tn_x4, tn_x1, tn_b, tn_c1, tn_c2, lt_m5, le_m5, c0, d0, c1, d1, c2, d2, hx5, c3, d3, hy5, wk_5, wk_2, wk_3, wk_xy, wk_23, md_23, wk_m5, wk_b, lt_xy, le_xy, lt_b, le_b, hbu]
          try simp (disch := omega) only [tmodI, wrapI]
          repeat refine ⟨by omega, ?_⟩
          refine hK _ ?_; clear hK K
          refine awp_reg_end fun K hK => ?_
          simp [go_sem, tn_mod5, tn_xy, tn_x4, tn_x1, tn_b, tn_c1, tn_c2, lt_m5, le_m5, c0, d0, c1, d1, c2, d2, hx5, c3, d3, hy5, wk_5, wk_2, wk_3, wk_xy, wk_23, md_23, wk_m5, wk_b, lt_xy, le_xy, lt_b, le_b, hbu]
          try simp (disch := omega) only [wrapI]
          repeat refine ⟨by omega, ?_⟩
          refine hK _ ?_; clear hK K
          refine ⟨y + 1, back_of' (by simp [go_sem, wrap_succ (i := y) (by omega), tn_mod5, tn_xy, tn_x4, tn_x1, tn_b, tn_c1, tn_c2, lt_m5, le_m5, c0, d0, c1, d1, c2, d2, hx5, c3, d3, hy5, wk_5, wk_2, wk_3, wk_xy, wk_23, md_23, wk_m5, wk_b, lt_xy, le_xy, lt_b, le_b, hbu]) ((leaves_app (by simp [go_sem]))) (by (simp [go_sem, wrap_succ (i := y) (by omega), tn_mod5, tn_xy, tn_x4, tn_x1, tn_b, tn_c1, tn_c2, lt_m5, le_m5, c0, d0, c1, d1, c2, d2, hx5, c3, d3, hy5, wk_5, wk_2, wk_3, wk_xy, wk_23, md_23, wk_m5, wk_b, lt_xy, le_xy, lt_b, le_b, hbu] <;> omega)), by omega, by first | omega | (dsimp only; omega)⟩
        · have d3 := c3; try simp at d3
          obtain rfl : y = 5 := by omega
          have hbo : rbOut (thetaL a (sumsL a 25) 25) (x + 1) = rbIn (thetaL a (sumsL a 25) 25) x (rbOut (thetaL a (sumsL a 25) 25) x) 5 := rfl
          refine awp_exit ?_
          refine awp_reg_end fun K hK => ?_
          simp [go_sem, tn_mod5, tn_xy, tn_x4, tn_x1, tn_b, tn_c1, tn_c2, lt_m5, le_m5, c0, d0, c1, d1, c2, d2, hx5, c3, d3, hbo]
          try simp (disch := omega) only [wrapI]
          repeat refine ⟨by omega, ?_⟩
          refine hK _ ?_; clear hK K
          refine ⟨x + 1, back_of' (by simp [go_sem, wrap_succ (i := x) (by omega), tn_mod5, tn_xy, tn_x4, tn_x1, tn_b, tn_c1, tn_c2, lt_m5, le_m5, c0, d0, c1, d1, c2, d2, hx5, c3, d3, hbo]) ((leaves_app (by simp [go_sem]))) (by (simp [go_sem, wrap_succ (i := x) (by omega), tn_mod5, tn_xy, tn_x4, tn_x1, tn_b, tn_c1, tn_c2, lt_m5, le_m5, c0, d0, c1, d1, c2, d2, hx5, c3, d3, hbo] <;> omega)), by omega, by first | omega | (dsimp only; omega)⟩
      · have d2 := c2; try simp at d2
        obtain rfl : x = 5 := by omega
        refine awp_exit ?_
        refine awp_seq ?_
        refine awp_reg_seq fun K hK => ?_
        simp [go_sem, tn_mod5, tn_xy, tn_x4, tn_x1, tn_b, tn_c1, tn_c2, lt_m5, le_m5, c0, d0, c1, d1, c2, d2]
        repeat refine ⟨by omega, ?_⟩
        refine hK _ ?_; clear hK K
        refine awp_block ?_
        refine awp_forget [1, 3, 6, 10, 13] (by simp [go_sem, restr]; rfl) ?_
        refine awp_loopU (α := Nat) (fun x => [(13, .d (I x))]) (fun x => σ ++ [.var (arrV .u64 25 (roOut (rbOut (thetaL a (sumsL a 25) 25) 5) (thetaL a (sumsL a 25) 25) x)), .var (arrV .i64 25 rotF), .var (arrV .u64 25 fun _ => 0), .var (arrV .u64 5 (sumsL a 25)), .var (arrV .u64 25 (rbOut (thetaL a (sumsL a 25) 25) 5))]) (fun x => x ≤ 5) (fun x => 5 - x) 0 (by simp [go_sem, tn_mod5, tn_xy, tn_x4, tn_x1, tn_b, tn_c1, tn_c2, lt_m5, le_m5]) (rfl) (by simp) ?_
        rintro x hx
        refine awp_seq ?_
        refine awp_reg_seq fun K hK => ?_
        simp [go_sem, tn_mod5, tn_xy, tn_x4, tn_x1, tn_b, tn_c1, tn_c2, lt_m5, le_m5, c0, d0, c1, d1, c2, d2]
        repeat refine ⟨by omega, ?_⟩
        refine hK _ ?_; clear hK K
        refine awp_forget [1, 3, 6, 10, 13, 86] (by simp only [restr, List.contains_cons, List.contains_nil, Nat.reduceBEq, Bool.or_false, Bool.or_true, Bool.true_or, Bool.false_or, if_true, if_false, Bool.false_eq_true]; rfl) ?_
        refine awp_cond rfl (fun c4 => ?_) (fun c4 => ?_)
        · have d4 := c4; try simp at d4
          have hx5 : x < 5 := by omega
          refine awp_skip ?_
          refine awp_seq ?_
          refine awp_block ?_
          refine awp_reg_seq fun K hK => ?_
          simp [go_sem, tn_mod5, tn_xy, tn_x4, tn_x1, tn_b, tn_c1, tn_c2, lt_m5, le_m5, c0, d0, c1, d1, c2, d2, c4, d4, hx5]
          repeat refine ⟨by omega, ?_⟩
          refine hK _ ?_; clear hK K
          refine awp_block ?_
          refine awp_forget [1, 3, 6, 10, 13, 14] (by simp [go_sem, restr]; rfl) ?_
          refine awp_loopU (α := Nat) (fun y => [(14, .d (I y))]) (fun y => σ ++ [.var (arrV .u64 25 (roIn (rbOut (thetaL a (sumsL a 25) 25) 5) x (roOut (rbOut (thetaL a (sumsL a 25) 25) 5) (thetaL a (sumsL a 25) 25) x) y)), .var (arrV .i64 25 rotF), .var (arrV .u64 25 fun _ => 0), .var (arrV .u64 5 (sumsL a 25)), .var (arrV .u64 25 (rbOut (thetaL a (sumsL a 25) 25) 5))]) (fun y => y ≤ 5) (fun y => 5 - y) 0 (by simp [go_sem, tn_mod5, tn_xy, tn_x4, tn_x1, tn_b, tn_c1, tn_c2, lt_m5, le_m5]) (rfl) (by simp) ?_
          rintro y hy
          refine awp_seq ?_
          refine awp_reg_seq fun K hK => ?_
          simp [go_sem, tn_mod5, tn_xy, tn_x4, tn_x1, tn_b, tn_c1, tn_c2, lt_m5, le_m5, c0, d0, c1, d1, c2, d2, c4, d4, hx5]
          repeat refine ⟨by omega, ?_⟩
          refine hK _ ?_; clear hK K
          refine awp_forget [1, 3, 6, 10, 13, 14, 90] (by simp only [restr, List.contains_cons, List.contains_nil, Nat.reduceBEq, Bool.or_false, Bool.or_true, Bool.true_or, Bool.false_or, if_true, if_false, Bool.false_eq_true]; rfl) ?_
          refine awp_cond rfl (fun c5 => ?_) (fun c5 => ?_)
          · have d5 := c5; try simp at d5
            have hy5 : y < 5 := by omega
            have hou : roIn (rbOut (thetaL a (sumsL a 25) 25) 5) x (roOut (rbOut (thetaL a (sumsL a 25) 25) 5) (thetaL a (sumsL a 25) 25) x) (y + 1) = upd (roIn (rbOut (thetaL a (sumsL a 25) 25) 5) x (roOut (rbOut (thetaL a (sumsL a 25) 25) 5) (thetaL a (sumsL a 25) 25) x) y) (x + 5 * y) (chiP (rbOut (thetaL a (sumsL a 25) 25) 5) x y) := rfl
            have hch : xorI .u64 ((rbOut (thetaL a (sumsL a 25) 25) 5) (x + 5 * y)) (andI .u64 (comI .u64 ((rbOut (thetaL a (sumsL a 25) 25) 5) ((x + 1) % 5 + 5 * y))) ((rbOut (thetaL a (sumsL a 25) 25) 5) ((x + 2) % 5 + 5 * y))) = chiP (rbOut (thetaL a (sumsL a 25) 25) 5) x y := rfl
            refine awp_skip ?_
            refine awp_seq ?_
            refine awp_block ?_
            refine awp_draw_end 29 T.mixed (by kernel_rfl) fun K hK => ?_
            simp [go_sem, tn_mod5, tn_xy, tn_x4, tn_x1, tn_b, tn_c1, tn_c2, lt_m5, le_m5, c0, d0, c1, d1, c2, d2, c4, d4, hx5, c5, d5, hy5, wk_5, wk_xy, wk_x1, wk_x2, md_x1, md_x2, wk_c1, wk_c2, lt_xy, le_xy, lt_c, le_c, hou, hch]
            try simp (disch := omega) only [tmodI, wrapI]
            repeat refine ⟨by omega, ?_⟩
            refine hK _ ?_; clear hK K
            refine awp_reg_end fun K hK => ?_
            simp [go_sem, tn_mod5, tn_xy, tn_x4, tn_x1, tn_b, tn_c1, tn_c2, lt_m5, le_m5, c0, d0, c1, d1, c2, d2, c4, d4, hx5, c5, d5, hy5, wk_5, wk_xy, wk_x1, wk_x2, md_x1, md_x2, wk_c1, wk_c2, lt_xy, le_xy, lt_c, le_c, hou, hch]
            try simp (disch := omega) only [wrapI]
            repeat refine ⟨by omega, ?_⟩
            refine hK _ ?_; clear hK K
            refine ⟨y + 1, back_of' (by simp [go_sem, wrap_succ (i := y) (by omega), tn_mod5, tn_xy, tn_x4, tn_x1, tn_b, tn_c1, tn_c2, lt_m5, le_m5, c0, d0, c1, d1, c2, d2, c4, d4, hx5, c5, d5, hy5, wk_5, wk_xy, wk_x1, wk_x2, md_x1, md_x2, wk_c1, wk_c2, lt_xy, le_xy, lt_c, le_c, hou, hch]) ((leaves_app (by simp [go_sem]))) (by (simp [go_sem, wrap_succ (i := y) (by omega), tn_mod5, tn_xy, tn_x4, tn_x1, tn_b, tn_c1, tn_c2, lt_m5, le_m5, c0, d0, c1, d1, c2, d2, c4, d4, hx5, c5, d5, hy5, wk_5, wk_xy, wk_x1, wk_x2, md_x1, md_x2, wk_c1, wk_c2, lt_xy, le_xy, lt_c, le_c, hou, hch] <;> omega)), by omega, by first | omega | (dsimp only; omega)⟩
          · have d5 := c5; try simp at d5
            obtain rfl : y = 5 := by omega
            have hoo : roOut (rbOut (thetaL a (sumsL a 25) 25) 5) (thetaL a (sumsL a 25) 25) (x + 1) = roIn (rbOut (thetaL a (sumsL a 25) 25) 5) x (roOut (rbOut (thetaL a (sumsL a 25) 25) 5) (thetaL a (sumsL a 25) 25) x) 5 := rfl
            refine awp_exit ?_
            refine awp_reg_end fun K hK => ?_
            simp [go_sem, tn_mod5, tn_xy, tn_x4, tn_x1, tn_b, tn_c1, tn_c2, lt_m5, le_m5, c0, d0, c1, d1, c2, d2, c4, d4, hx5, c5, d5, hoo]
            try simp (disch := omega) only [wrapI]
            repeat refine ⟨by omega, ?_⟩
            refine hK _ ?_; clear hK K
            refine ⟨x + 1, back_of' (by simp [go_sem, wrap_succ (i := x) (by omega), tn_mod5, tn_xy, tn_x4, tn_x1, tn_b, tn_c1, tn_c2, lt_m5, le_m5, c0, d0, c1, d1, c2, d2, c4, d4, hx5, c5, d5, hoo]) ((leaves_app (by simp [go_sem]))) (by (simp [go_sem, wrap_succ (i := x) (by omega), tn_mod5, tn_xy, tn_x4, tn_x1, tn_b, tn_c1, tn_c2, lt_m5, le_m5, c0, d0, c1, d1, c2, d2, c4, d4, hx5, c5, d5, hoo] <;> omega)), by omega, by first | omega | (dsimp only; omega)⟩
        · have d4 := c4; try simp at d4
          obtain rfl : x = 5 := by omega
          refine awp_exit ?_
          refine awp_reg_seq fun K hK => ?_
          simp [go_sem, tn_mod5, tn_xy, tn_x4, tn_x1, tn_b, tn_c1, tn_c2, lt_m5, le_m5, c0, d0, c1, d1, c2, d2, c4, d4]
          repeat refine ⟨by omega, ?_⟩
          refine hK _ ?_; clear hK K
          refine awp_reg_seq fun K hK => ?_
          simp [go_sem, tn_mod5, tn_xy, tn_x4, tn_x1, tn_b, tn_c1, tn_c2, lt_m5, le_m5, c0, d0, c1, d1, c2, d2, c4, d4]
          repeat refine ⟨by omega, ?_⟩
          refine hK _ ?_; clear hK K
          refine awp_ret ?_
          simp [go_sem, Tryz.results105]
          rw [← arrV_ext (fun q hq => round_eq a c hq)]
          exact arrV_same (k := .u64) (n := 25) (f := roundR a c)
theorem digest_Permute_cs (σ : List Blk) (a : Nat → Int) : CSF Tryz.prog 106 [.agg (arrV .u64 25 a)] σ (.agg (arrV .u64 25 (permL a 24))) := by
  refine CSF.of_body T.en106 Tryz.func106 rfl (by simp [Tryz.ntmps106]) (by simp [go_sem]) fun hwf => ?_
  refine awp_reg_seq fun K hK => ?_
  simp [go_sem, Tryz.ntmps106]
  repeat refine ⟨by omega, ?_⟩
  refine hK _ ?_; clear hK K
  refine awp_reg_seq fun K hK => ?_
  simp [go_sem]
  repeat refine ⟨by omega, ?_⟩
  refine CSk.mk (digest_rotations_cs _ ) ?_
  simp [go_sem]
  repeat refine ⟨by omega, ?_⟩
  refine hK _ ?_; clear hK K
  refine awp_seq ?_
  refine awp_reg_seq fun K hK => ?_
  simp [go_sem]
  repeat refine ⟨by omega, ?_⟩
  refine CSk.mk (digest_constants_cs _ ) ?_
  simp [go_sem]
  repeat refine ⟨by omega, ?_⟩
  refine hK _ ?_; clear hK K
  refine awp_block ?_
  refine awp_forget [1, 2, 3, 7, 8] (by simp [go_sem, restr]; rfl) ?_
  refine awp_loopU (α := Nat) (fun i => [(8, .d (I i))]) (fun i => σ ++ [.var (arrV .u64 25 (permL a i)), .var (arrV .u64 25 fun _ => 0), .var (arrV .i64 25 rotF)]) (fun i => i ≤ 24) (fun i => 24 - i) 0 (by simp [go_sem]) (rfl) (by simp) ?_
  rintro i hi
  refine awp_reg_seq fun K hK => ?_
  simp [go_sem]
  repeat refine ⟨by omega, ?_⟩
  refine hK _ ?_; clear hK K
  refine awp_seq ?_
  refine awp_forget [1, 2, 3, 7, 8, 9] (by simp only [restr, List.contains_cons, List.contains_nil, Nat.reduceBEq, Bool.or_false, Bool.or_true, Bool.true_or, Bool.false_or, if_true, if_false, Bool.false_eq_true]; rfl) ?_
  refine awp_cond rfl (fun c0 => ?_) (fun c0 => ?_)
  · have d0 := c0; try simp at d0
    have hi5 : i < 24 := by omega
    have hi4 : i ≤ 23 := by omega
    have hpu : permL a (i + 1) = roundP (permL a i) (rcF i) := rfl
    refine awp_skip ?_
    refine awp_seq ?_
    refine awp_block ?_
    refine awp_reg_seq fun K hK => ?_
    simp [go_sem, c0, d0, hi5, hi4, hpu]
    repeat refine ⟨by omega, ?_⟩
    refine hK _ ?_; clear hK K
    refine awp_reg_end fun K hK => ?_
    simp [go_sem, c0, d0, hi5, hi4, hpu]
    repeat refine ⟨by omega, ?_⟩
    refine CSk.mk (digest_round_cs _ (permL a i) (rcF i)) ?_
    simp [go_sem, c0, d0, hi5, hi4, hpu]
    repeat refine ⟨by omega, ?_⟩
    refine hK _ ?_; clear hK K
    refine awp_reg_end fun K hK => ?_
    simp [go_sem, c0, d0, hi5, hi4, hpu]
    try simp (disch := omega) only [wrapI]
    repeat refine ⟨by omega, ?_⟩
    refine hK _ ?_; clear hK K
    refine ⟨i + 1, back_of' (by simp [go_sem, wrap_succ (i := i) (by omega), c0, d0, hi5, hi4, hpu]) ((leaves_app (by simp [go_sem]))) (by (simp [go_sem, wrap_succ (i := i) (by omega), c0, d0, hi5, hi4, hpu] <;> omega)), by omega, by first | omega | (dsimp only; omega)⟩
  · have d0 := c0; try simp at d0
    obtain rfl : i = 24 := by omega
    refine awp_exit ?_
    refine awp_reg_seq fun K hK => ?_
    simp [go_sem, c0, d0]
    repeat refine ⟨by omega, ?_⟩
    refine hK _ ?_; clear hK K
    refine awp_ret ?_
    simp [go_sem, Tryz.results106]; exact arrV_same (k := .u64) (n := 25) (f := permL a 24)
theorem ref01_Permute_cs (σ : List Blk) (a : Nat → Int) : CSF Tryz.prog 80 [.agg (arrV .u64 25 a)] σ (.agg (arrV .u64 25 (permL a 24))) := by
  refine CSF.of_body T.en80 Tryz.func80 rfl (by simp [Tryz.ntmps80]) (by simp [go_sem]) fun hwf => ?_
  refine awp_reg_seq fun K hK => ?_
  simp [go_sem, Tryz.ntmps80]
  repeat refine ⟨by omega, ?_⟩
  refine hK _ ?_; clear hK K
  refine awp_reg_seq fun K hK => ?_
  simp [go_sem]
  repeat refine ⟨by omega, ?_⟩
  refine CSk.mk (ref01_constants_cs _ ) ?_
  simp [go_sem]
  repeat refine ⟨by omega, ?_⟩
  refine CSk.mk (ref01_rotations_cs _ ) ?_
  simp [go_sem]
  repeat refine ⟨by omega, ?_⟩
  refine hK _ ?_; clear hK K
  refine awp_seq ?_
  refine awp_reg_seq fun K hK => ?_
  simp [go_sem]
  repeat refine ⟨by omega, ?_⟩
  refine hK _ ?_; clear hK K
  refine awp_block ?_
  refine awp_forget [1, 2, 3, 4, 5] (by simp [go_sem, restr]; rfl) ?_
  refine awp_loopU (α := Nat) (fun i => [(5, .d (I i))]) (fun i => σ ++ [.var (arrV .u64 25 (permL a i)), .var (arrV .u64 25 fun _ => 0), .var (arrV .u64 24 rcF), .var (arrV .i64 25 rotF)]) (fun i => i ≤ 24) (fun i => 24 - i) 0 (by simp [go_sem]) (rfl) (by simp) ?_
  rintro i hi
  refine awp_seq ?_
  refine awp_reg_seq fun K hK => ?_
  simp [go_sem]
  repeat refine ⟨by omega, ?_⟩
  refine hK _ ?_; clear hK K
  refine awp_forget [1, 2, 3, 4, 5, 9] (by simp only [restr, List.contains_cons, List.contains_nil, Nat.reduceBEq, Bool.or_false, Bool.or_true, Bool.true_or, Bool.false_or, if_true, if_false, Bool.false_eq_true]; rfl) ?_
  refine awp_cond rfl (fun c0 => ?_) (fun c0 => ?_)
  · have d0 := c0; try simp at d0
    have hi5 : i < 24 := by omega
    have hi4 : i ≤ 23 := by omega
    have hpu : permL a (i + 1) = roundP (permL a i) (rcF i) := rfl
    refine awp_skip ?_
    refine awp_seq ?_
    refine awp_block ?_
    refine awp_draw_end 6 T.mixed (by kernel_rfl) fun K hK => ?_
    simp [go_sem, c0, d0, hi5, hi4, hpu]
    repeat refine ⟨by omega, ?_⟩
    refine CSg.mk (ref01_round_cs _ (permL a i) (rcF i)) ?_
    simp [go_sem, c0, d0, hi5, hi4, hpu]
    repeat refine ⟨by omega, ?_⟩
    refine hK _ ?_; clear hK K
    refine awp_reg_end fun K hK => ?_
    simp [go_sem, c0, d0, hi5, hi4, hpu]
    try simp (disch := omega) only [wrapI]
    repeat refine ⟨by omega, ?_⟩
    refine hK _ ?_; clear hK K
    refine ⟨i + 1, back_of' (by simp [go_sem, wrap_succ (i := i) (by omega), c0, d0, hi5, hi4, hpu]) ((leaves_app (by simp [go_sem]))) (by (simp [go_sem, wrap_succ (i := i) (by omega), c0, d0, hi5, hi4, hpu] <;> omega)), by omega, by first | omega | (dsimp only; omega)⟩
  · have d0 := c0; try simp at d0
    obtain rfl : i = 24 := by omega
    refine awp_exit ?_
    refine awp_reg_seq fun K hK => ?_
    simp [go_sem, c0, d0]
    repeat refine ⟨by omega, ?_⟩
    refine hK _ ?_; clear hK K
    refine awp_ret ?_
    simp [go_sem, Tryz.results80]; exact arrV_same (k := .u64) (n := 25) (f := permL a 24)
end Go.Proofs.YtldnolgijfkfpaaGreatDoor

/-! St -/
namespace Go.Proofs
open Go.Shelf
def Tryz.strRepeat_ren : Go.Shelf.Ren := ⟨fun | 105 => 82 | 212 => 107 | 99 => 108 | 165 => 109 | 166 => 110 | 170 => 111 | 169 => 112 | 263 => 129 | 264 => 130 | 206 => 131 | 240 => 132 | 241 => 133 | 276 => 141 | 277 => 142 | n => n, fun | 9 => 9 | 3 => 3 | 4 => 4 | 20 => 20 | 0 => 0 | 46 => 87 | 109 => 121 | 5 => 5 | 72 => 126 | 76 => 130 | 51 => 108 | 146 => 148 | 53 => 90 | 148 => 150 | 70 => 124 | 37 => 50 | 75 => 129 | 127 => 152 | 164 => 161 | 80 => 84 | n => n, fun | n => n⟩
theorem Tryz.strRepeat : Go.Proofs.Lays.n105 Tryz.prog Tryz.strRepeat_ren := {
  mixed := by kernel_rfl
  f99 := Tryz.func108.trans (congrArg some (by kernel_rfl))
  f105 := Tryz.func82.trans (congrArg some (by kernel_rfl))
  f165 := Tryz.func109.trans (congrArg some (by kernel_rfl))
  f166 := Tryz.func110.trans (congrArg some (by kernel_rfl))
  f169 := Tryz.func112.trans (congrArg some (by kernel_rfl))
  f170 := Tryz.func111.trans (congrArg some (by kernel_rfl))
  f206 := Tryz.func131.trans (congrArg some (by kernel_rfl))
  f212 := Tryz.func107.trans (congrArg some (by kernel_rfl))
  f240 := Tryz.func132.trans (congrArg some (by kernel_rfl))
  f241 := Tryz.func133.trans (congrArg some (by kernel_rfl))
  f263 := Tryz.func129.trans (congrArg some (by kernel_rfl))
  f264 := Tryz.func130.trans (congrArg some (by kernel_rfl))
  f276 := Tryz.func141.trans (congrArg some (by kernel_rfl))
  f277 := Tryz.func142.trans (congrArg some (by kernel_rfl))
  t0 := Tryz.underlying0
  a0 := Tryz.isAgg0
  z0 := Tryz.sizeOf0
  v0 := Tryz.zeroValue0
  t3 := Tryz.underlying3
  a3 := Tryz.isAgg3
  z3 := Tryz.sizeOf3
  v3 := Tryz.zeroValue3
  t4 := Tryz.underlying4
  a4 := Tryz.isAgg4
  z4 := Tryz.sizeOf4
  v4 := Tryz.zeroValue4
  t5 := Tryz.underlying5
  a5 := Tryz.isAgg5
  z5 := Tryz.sizeOf5
  v5 := Tryz.zeroValue5
  t9 := Tryz.underlying9
  a9 := Tryz.isAgg9
  z9 := Tryz.sizeOf9
  v9 := Tryz.zeroValue9
  t20 := Tryz.underlying20
  a20 := Tryz.isAgg20
  z20 := Tryz.sizeOf20
  v20 := Tryz.zeroValue20
  t37 := Tryz.underlying50
  a37 := Tryz.isAgg50
  z37 := Tryz.sizeOf50
  v37 := Tryz.zeroValue50
  t46 := Tryz.underlying87
  a46 := Tryz.isAgg87
  z46 := Tryz.sizeOf87
  v46 := Tryz.zeroValue87
  t51 := Tryz.underlying108
  a51 := Tryz.isAgg108
  z51 := Tryz.sizeOf108
  v51 := Tryz.zeroValue108
  t53 := Tryz.underlying90
  a53 := Tryz.isAgg90
  z53 := Tryz.sizeOf90
  v53 := Tryz.zeroValue90
  t70 := Tryz.underlying124
  a70 := Tryz.isAgg124
  z70 := Tryz.sizeOf124
  v70 := Tryz.zeroValue124
  t72 := Tryz.underlying126
  a72 := Tryz.isAgg126
  z72 := Tryz.sizeOf126
  v72 := Tryz.zeroValue126
  t75 := Tryz.underlying129
  a75 := Tryz.isAgg129
  z75 := Tryz.sizeOf129
  v75 := Tryz.zeroValue129
  t76 := Tryz.underlying130
  a76 := Tryz.isAgg130
  z76 := Tryz.sizeOf130
  v76 := Tryz.zeroValue130
  t109 := Tryz.underlying121
  a109 := Tryz.isAgg121
  z109 := Tryz.sizeOf121
  v109 := Tryz.zeroValue121
  t127 := Tryz.underlying152
  a127 := Tryz.isAgg152
  z127 := Tryz.sizeOf152
  v127 := Tryz.zeroValue152
  t146 := Tryz.underlying148
  a146 := Tryz.isAgg148
  z146 := Tryz.sizeOf148
  v146 := Tryz.zeroValue148
  t148 := Tryz.underlying150
  a148 := Tryz.isAgg150
  z148 := Tryz.sizeOf150
  v148 := Tryz.zeroValue150
  t164 := Tryz.underlying161
  a164 := Tryz.isAgg161
  z164 := Tryz.sizeOf161
  v164 := Tryz.zeroValue161 }
def Tryz.itoa_ren : Go.Shelf.Ren := ⟨fun | 171 => 62 | 243 => 74 | 246 => 83 | 283 => 113 | 284 => 114 | 285 => 115 | 286 => 116 | 129 => 93 | 317 => 134 | 318 => 135 | 319 => 136 | 320 => 137 | 337 => 143 | 338 => 144 | n => n, fun | 3 => 3 | 9 => 9 | 2 => 2 | 4 => 4 | 171 => 133 | 0 => 0 | 53 => 90 | 37 => 50 | 5 => 5 | 173 => 135 | 212 => 155 | 51 => 108 | 20 => 20 | 213 => 156 | 46 => 87 | 232 => 164 | 233 => 165 | n => n, fun | 17 => 0 | 18 => 2 | 19 => 3 | n => n⟩
theorem Tryz.itoa : Go.Proofs.LaysM.n171 Tryz.prog Tryz.itoa_ren := {
  mixed := by kernel_rfl
  f129 := Tryz.func93.trans (congrArg some (by kernel_rfl))
  f171 := Tryz.func62.trans (congrArg some (by kernel_rfl))
  f243 := Tryz.func74.trans (congrArg some (by kernel_rfl))
  f246 := Tryz.func83.trans (congrArg some (by kernel_rfl))
  f283 := Tryz.func113.trans (congrArg some (by kernel_rfl))
  f284 := Tryz.func114.trans (congrArg some (by kernel_rfl))
  f285 := Tryz.func115.trans (congrArg some (by kernel_rfl))
  f286 := Tryz.func116.trans (congrArg some (by kernel_rfl))
  f317 := Tryz.func134.trans (congrArg some (by kernel_rfl))
  f318 := Tryz.func135.trans (congrArg some (by kernel_rfl))
  f319 := Tryz.func136.trans (congrArg some (by kernel_rfl))
  f320 := Tryz.func137.trans (congrArg some (by kernel_rfl))
  f337 := Tryz.func143.trans (congrArg some (by kernel_rfl))
  f338 := Tryz.func144.trans (congrArg some (by kernel_rfl))
  t0 := Tryz.underlying0
  a0 := Tryz.isAgg0
  z0 := Tryz.sizeOf0
  v0 := Tryz.zeroValue0
  t2 := Tryz.underlying2
  a2 := Tryz.isAgg2
  z2 := Tryz.sizeOf2
  v2 := Tryz.zeroValue2
  t3 := Tryz.underlying3
  a3 := Tryz.isAgg3
  z3 := Tryz.sizeOf3
  v3 := Tryz.zeroValue3
  t4 := Tryz.underlying4
  a4 := Tryz.isAgg4
  z4 := Tryz.sizeOf4
  v4 := Tryz.zeroValue4
  t5 := Tryz.underlying5
  a5 := Tryz.isAgg5
  z5 := Tryz.sizeOf5
  v5 := Tryz.zeroValue5
  t9 := Tryz.underlying9
  a9 := Tryz.isAgg9
  z9 := Tryz.sizeOf9
  v9 := Tryz.zeroValue9
  t20 := Tryz.underlying20
  a20 := Tryz.isAgg20
  z20 := Tryz.sizeOf20
  v20 := Tryz.zeroValue20
  t37 := Tryz.underlying50
  a37 := Tryz.isAgg50
  z37 := Tryz.sizeOf50
  v37 := Tryz.zeroValue50
  t46 := Tryz.underlying87
  a46 := Tryz.isAgg87
  z46 := Tryz.sizeOf87
  v46 := Tryz.zeroValue87
  t51 := Tryz.underlying108
  a51 := Tryz.isAgg108
  z51 := Tryz.sizeOf108
  v51 := Tryz.zeroValue108
  t53 := Tryz.underlying90
  a53 := Tryz.isAgg90
  z53 := Tryz.sizeOf90
  v53 := Tryz.zeroValue90
  t171 := Tryz.underlying133
  a171 := Tryz.isAgg133
  z171 := Tryz.sizeOf133
  v171 := Tryz.zeroValue133
  t173 := Tryz.underlying135
  a173 := Tryz.isAgg135
  z173 := Tryz.sizeOf135
  v173 := Tryz.zeroValue135
  t212 := Tryz.underlying155
  a212 := Tryz.isAgg155
  z212 := Tryz.sizeOf155
  v212 := Tryz.zeroValue155
  t213 := Tryz.underlying156
  a213 := Tryz.isAgg156
  z213 := Tryz.sizeOf156
  t232 := Tryz.underlying164
  a232 := Tryz.isAgg164
  z232 := Tryz.sizeOf164
  v232 := Tryz.zeroValue164
  t233 := Tryz.underlying165
  a233 := Tryz.isAgg165
  z233 := Tryz.sizeOf165
  v233 := Tryz.zeroValue165
  g17 := by kernel_rfl
  g18 := by kernel_rfl
  g19 := by kernel_rfl
  i0 := by kernel_rfl
  i2 := by kernel_rfl
  i3 := by kernel_rfl
  i4 := by kernel_rfl
  i5 := by kernel_rfl
  i9 := by kernel_rfl
  i20 := by kernel_rfl
  i37 := by kernel_rfl
  i46 := by kernel_rfl
  i51 := by kernel_rfl
  i53 := by kernel_rfl
  i171 := by kernel_rfl
  i173 := by kernel_rfl
  i212 := by kernel_rfl
  i232 := by kernel_rfl
  i233 := by kernel_rfl
  m17 := by kernel_rfl
  m18 := by kernel_rfl
  m19 := by kernel_rfl }
def Tryz.sortInt_ren : Go.Shelf.Ren := ⟨fun | 189 => 68 | 125 => 76 | 257 => 79 | 128 => 92 | 129 => 93 | 294 => 94 | 295 => 95 | 296 => 96 | 297 => 97 | 298 => 98 | 299 => 99 | 216 => 100 | 300 => 101 | 301 => 102 | 328 => 122 | 329 => 118 | 330 => 119 | 331 => 123 | 332 => 124 | 215 => 78 | 343 => 139 | n => n, fun | 28 => 22 | 3 => 3 | 46 => 87 | 0 => 0 | 51 => 108 | 53 => 90 | 4 => 4 | 183 => 101 | 182 => 100 | 131 => 105 | 5 => 5 | 9 => 9 | 218 => 137 | 222 => 141 | 228 => 157 | 229 => 158 | n => n, fun | n => n⟩
theorem Tryz.sortInt : Go.Proofs.Lays.n189 Tryz.prog Tryz.sortInt_ren := {
  mixed := by kernel_rfl
  f125 := Tryz.func76.trans (congrArg some (by kernel_rfl))
  f128 := Tryz.func92.trans (congrArg some (by kernel_rfl))
  f129 := Tryz.func93.trans (congrArg some (by kernel_rfl))
  f189 := Tryz.func68.trans (congrArg some (by kernel_rfl))
  f215 := Tryz.func78.trans (congrArg some (by kernel_rfl))
  f216 := Tryz.func100.trans (congrArg some (by kernel_rfl))
  f257 := Tryz.func79.trans (congrArg some (by kernel_rfl))
  f294 := Tryz.func94.trans (congrArg some (by kernel_rfl))
  f295 := Tryz.func95.trans (congrArg some (by kernel_rfl))
  f296 := Tryz.func96.trans (congrArg some (by kernel_rfl))
  f297 := Tryz.func97.trans (congrArg some (by kernel_rfl))
  f298 := Tryz.func98.trans (congrArg some (by kernel_rfl))
  f299 := Tryz.func99.trans (congrArg some (by kernel_rfl))
  f300 := Tryz.func101.trans (congrArg some (by kernel_rfl))
  f301 := Tryz.func102.trans (congrArg some (by kernel_rfl))
  f328 := Tryz.func122.trans (congrArg some (by kernel_rfl))
  f329 := Tryz.func118.trans (congrArg some (by kernel_rfl))
  f330 := Tryz.func119.trans (congrArg some (by kernel_rfl))
  f331 := Tryz.func123.trans (congrArg some (by kernel_rfl))
  f332 := Tryz.func124.trans (congrArg some (by kernel_rfl))
  f343 := Tryz.func139.trans (congrArg some (by kernel_rfl))
  t0 := Tryz.underlying0
  a0 := Tryz.isAgg0
  z0 := Tryz.sizeOf0
  v0 := Tryz.zeroValue0
  t3 := Tryz.underlying3
  a3 := Tryz.isAgg3
  z3 := Tryz.sizeOf3
  v3 := Tryz.zeroValue3
  t4 := Tryz.underlying4
  a4 := Tryz.isAgg4
  z4 := Tryz.sizeOf4
  v4 := Tryz.zeroValue4
  t5 := Tryz.underlying5
  a5 := Tryz.isAgg5
  z5 := Tryz.sizeOf5
  v5 := Tryz.zeroValue5
  t9 := Tryz.underlying9
  a9 := Tryz.isAgg9
  z9 := Tryz.sizeOf9
  v9 := Tryz.zeroValue9
  t28 := Tryz.underlying22
  a28 := Tryz.isAgg22
  z28 := Tryz.sizeOf22
  v28 := Tryz.zeroValue22
  t46 := Tryz.underlying87
  a46 := Tryz.isAgg87
  z46 := Tryz.sizeOf87
  v46 := Tryz.zeroValue87
  t51 := Tryz.underlying108
  a51 := Tryz.isAgg108
  z51 := Tryz.sizeOf108
  v51 := Tryz.zeroValue108
  t53 := Tryz.underlying90
  a53 := Tryz.isAgg90
  z53 := Tryz.sizeOf90
  v53 := Tryz.zeroValue90
  t131 := Tryz.underlying105
  a131 := Tryz.isAgg105
  z131 := Tryz.sizeOf105
  v131 := Tryz.zeroValue105
  t182 := Tryz.underlying100
  a182 := Tryz.isAgg100
  z182 := Tryz.sizeOf100
  v182 := Tryz.zeroValue100
  t183 := Tryz.underlying101
  a183 := Tryz.isAgg101
  z183 := Tryz.sizeOf101
  v183 := Tryz.zeroValue101
  t218 := Tryz.underlying137
  a218 := Tryz.isAgg137
  z218 := Tryz.sizeOf137
  v218 := Tryz.zeroValue137
  t222 := Tryz.underlying141
  a222 := Tryz.isAgg141
  z222 := Tryz.sizeOf141
  v222 := Tryz.zeroValue141
  t228 := Tryz.underlying157
  a228 := Tryz.isAgg157
  z228 := Tryz.sizeOf157
  v228 := Tryz.zeroValue157
  t229 := Tryz.underlying158
  a229 := Tryz.isAgg158
  z229 := Tryz.sizeOf158
  v229 := Tryz.zeroValue158 }
end Go.Proofs

/-! Azu -/
namespace Go.Abs
open Go
set_option linter.unusedVariables false
set_option linter.unusedSimpArgs false
theorem CSF.of_ms {P : Program} {f : FuncId} {args : List AV} {σ : List Blk} {sz n : Nat} {row : Nat → List D} (h : CS P f args σ fun r σ' X => r = .ms σ.length sz 0 n ∧ σ' = σ ++ [.arr sz n row] ∧ X = []) : CSF P f args σ (.d (.sl none sz n row)) := by
  refine ⟨h.1, fun j w vs hS hr => (h.2 j w vs hS hr).mono fun e w' => ?_⟩
  rintro ⟨v, r, σ', j', X, he, h1, h2, h3, h4, h5, rfl, rfl, rfl⟩
  have hlen : j.length = σ.length := hS.len
  obtain ⟨g1, g2, g3⟩ := hS.drop h1 (Leaves.refl σ) h5 h4
  have hb : (σ ++ [Blk.arr sz n row])[σ.length]? = some (.arr sz n row) := by simp
  have hf := h2.frzT h1 hb
  have ht : (j'.set σ.length none).take j.length = j'.take j.length := by
    rw [List.take_set_of_le (by omega)]
  have k2 : ∀ o, o ∈ j'.take j.length → o ∈ j'.set σ.length none := fun o ho => List.mem_of_mem_take (ht ▸ ho)
  have k3 : ∀ b : Nat, b < (j'.take j.length).length → (j'.set σ.length none)[b]? = (j'.take j.length)[b]? := by
    intro b hb'; rw [List.getElem?_set_ne (by simp at hb'; omega)]; exact g3 b hb'
  have hl2 : (j'.take j.length).length = j.length := by simp; omega
  refine ⟨v, _, σ, j'.take j.length, [], he, g1, ?_, ⟨h3.size, h3.keep, fun b hb hm => h3.sub b hb (g2 _ hm), h3.shp, h3.frz, h3.os, h3.tape, h3.output, h3.lps⟩, by omega, fun b hb' hn => by rw [← g3 b (by omega)]; exact h5 b hb' hn, rfl, rfl, rfl⟩
  have := hf.less k2 k3 (by simp [frzT, AV.avoids, frzA]; first | trivial | exact True.intro | skip)
  simpa [frzT, AV.avoids, frzA] using this
theorem CSF.of_msN {P : Program} {f : FuncId} {args : List AV} {σ : List Blk} {sz n : Nat} {row : Nat → List D} (h : CS P f args σ fun r σ' X => ∃ b τ, r = .ms b sz 0 n ∧ σ' = σ ++ τ ∧ (σ ++ τ)[b]? = some (.arr sz n row) ∧ σ.length ≤ b ∧ ∀ x ∈ X, σ.length ≤ x) : CSF P f args σ (.d (.sl none sz n row)) := by
  refine ⟨h.1, fun j w vs hS hr => (h.2 j w vs hS hr).mono fun e w' => ?_⟩
  rintro ⟨v, r, σ', j', X, he, h1, h2, h3, h4, h5, b, τ, rfl, rfl, hb, hle, hX⟩
  have hlen : j.length = σ.length := hS.len
  have h5' : Ag j j' [] := fun q hq hn => h5 q hq fun hm => by have := hX q hm; omega
  obtain ⟨g1, g2, g3⟩ := hS.drop h1 (Leaves.refl σ) h5' h4
  have hf := h2.frzT h1 hb
  have ht : (j'.set b none).take j.length = j'.take j.length := by
    rw [List.take_set_of_le (by omega)]
  have k2 : ∀ o, o ∈ j'.take j.length → o ∈ j'.set b none := fun o ho => List.mem_of_mem_take (ht ▸ ho)
  have k3 : ∀ q : Nat, q < (j'.take j.length).length → (j'.set b none)[q]? = (j'.take j.length)[q]? := by
    intro q hq; rw [List.getElem?_set_ne (by simp at hq; omega)]; exact g3 q hq
  have hl2 : (j'.take j.length).length = j.length := by simp; omega
  refine ⟨v, _, σ, j'.take j.length, [], he, g1, ?_, ⟨h3.size, h3.keep, fun b hb hm => h3.sub b hb (g2 _ hm), h3.shp, h3.frz, h3.os, h3.tape, h3.output, h3.lps⟩, by omega, fun q hq hn => by rw [← g3 q (by omega)]; exact h5' q hq hn, rfl, rfl, rfl⟩
  have := hf.less k2 k3 (by simp [frzT, AV.avoids, frzA]; first | trivial | exact True.intro | skip)
  simpa [frzT, AV.avoids, frzA] using this
theorem tab_cells {w : World} {j : Js} {σ : List Blk} (hS : RelS w j σ) {b c : Nat} {vs : Array Value} (h : σ[b]? = some (.tab c vs)) : ∃ e f, w.heap[c]? = some (.cells vs e f) := by
  obtain ⟨o, _, hB⟩ := hS.blk b _ h
  obtain ⟨_, _, _, e, h4, h5⟩ := hB
  unfold World.shape? at h4
  cases hc : w.heap[c]? with
  | none => simp [hc] at h4
  | some ob =>
    rw [hc] at h4
    cases ob with
    | cells C e' f =>
      simp only [Option.some.injEq, Prod.mk.injEq] at h4
      refine ⟨e', f, ?_⟩
      have hC : C = vs := by
        apply Array.ext
        · exact h4.2
        · intro i h1 h2
          have h6 := h5 i
          simp only [World.cell?, hc] at h6
          rw [Array.getElem?_eq_getElem h1, Array.getElem?_eq_getElem h2] at h6
          simpa using h6
      rw [hC]
    | _ => simp at h4
end Go.Abs

/-! Cd -/
namespace Go.Proofs.YtldnolgijfkfpaaGreatDoor
open Go.Abs Go.Shelf Go.RowKit Go.Lib Go.Proofs Go.Sort
set_option linter.unusedVariables false
set_option linter.unusedSimpArgs false
set_option maxRecDepth 100000
set_option maxHeartbeats 1000000
theorem repX : Builder.Extra Tryz.prog Tryz.strRepeat_ren where
  sizeBuilder := by kernel_rfl
  liesBuilder := by kernel_rfl
  t5 := Tryz.underlying5
  a5 := Tryz.isAgg5
  z5 := Tryz.sizeOf5
  v5 := Tryz.zeroValue5
  infoByte := by kernel_rfl
  cellsByte := by kernel_rfl
  sizeByte := by kernel_rfl
  neB5 := by decide
theorem repeat_cs (σ : List Blk) (s : ByteArray) (c : Nat) (hc2 : 2 ≤ c) (hc : c ≤ 9223372036854775807) (hlen : s.size * c ≤ 140737488355328) (h0 : 0 < s.size) : CSF Tryz.prog 82 [.d (Sb s), .d (I c)] σ (.d (Sb ⟨(Lib.repeatL s.data.toList c).toArray⟩)) := by
  refine CSF.of_calls T.en82 #[.string s, .int .i64 c] (fun w j vs hr => rs_vals2 hr (fun _ h => R_v h) (fun _ h => R_v h)) (fun w j hS => ?_)
  exact Any.strings_Repeat_main Tryz.strRepeat repX s c w hc2 hc hlen h0
def powV : Array Value := (Lib.pow10Tab.map fun z => Value.int .u64 z).toArray
theorem pow_tab {w : World} {j : Js} {σ : List Blk} (hS : RelS w j σ) {b : Nat} (h : σ[b]? = some (.tab 0 powV)) : Lib.TabIs Tryz.prog w "internal/strconv.uint64pow10" .u64 Lib.pow10Tab := by
  obtain ⟨e, f, hc⟩ := tab_cells hS h
  have hg : Tryz.prog.globalNamed "internal/strconv.uint64pow10" = some 0 := by kernel_rfl
  unfold Lib.TabIs World.var?
  rw [hg]
  simp only [Option.bind_some, hc]
  rfl
theorem below_grow (w : World) (os : Array Obj) (k : Nat) : Below w.heap.size w (grow (w.drewN k) os) :=
  ⟨rfl, rfl, rfl, by simp [grow], fun i hi => by simp [grow, Array.getElem?_append_left hi]⟩
def itoS (n : Nat) : ByteArray := ⟨(Lib.decDigits n).toArray⟩
theorem itoa_cs (σ : List Blk) (n : Nat) (hn : n ≤ 1073741824) (hσ : σ[0]? = some (.tab 0 powV)) : CSF Tryz.prog 62 [.d (I n)] σ (.d (Sb (itoS n))) := by
  refine CSF.of_calls T.en62 #[.int .i64 n] (fun w j vs hr => rs_vals1 hr (fun _ h => R_v h)) (fun w j hS => ?_)
  refine (Any.strconv_Itoa Tryz.itoa n (by omega) (by omega) w (pow_tab hS hσ)).mono ?_
  rintro e w' ⟨rfl, k, os, rfl⟩
  exact ⟨by rw [Lib.itoa, if_neg (by omega), Int.toNat_natCast]; rfl, below_grow w os k⟩
end Go.Proofs.YtldnolgijfkfpaaGreatDoor

/-! Er -/
namespace Go.Abs
open Go.RowKit
set_option linter.unusedVariables false
set_option linter.unusedSimpArgs false
theorem law_callsP {P : Program} {f : FuncId} {avs : List AV} {args : Array Value} {w : World} {b : Nat} {vs : Array Value} (h : CSF P f avs [.tab b vs] (.d (.v (.bool true))))
    (ht : ∃ e f, w.heap[b]? = some (.cells vs e f)) (hr : Rs w [none] avs args) : Calls P f args w fun e w' => e = .returned (.bool true) ∧ Below w.heap.size w w' := by
  obtain ⟨e, fz, ht⟩ := ht
  have hb : b < w.heap.size := (Array.getElem?_eq_some_iff.1 ht).1
  have hS : RelS w [none] [.tab b vs] := ⟨rfl, fun b cb hb => by
      rcases b with _ | b <;> simp at hb, fun b b' cb hb => by
      rcases b with _ | b <;> simp at hb, fun q x hx => by
      rcases q with _ | q
      · simp at hx
        subst hx
        exact ⟨none, rfl, rfl, hb, by simp, e, by simp [World.shape?, ht], fun i => by simp [World.cell?, ht]⟩
      · simp at hx⟩
  refine (h.2 [none] w args hS hr).mono ?_
  rintro e w' ⟨v, r, σ', j', X, rfl, h1, h2, h3, h4, h5, rfl, rfl, rfl⟩
  cases h2 with
  | d h2 =>
    cases h2
    exact ⟨rfl, ⟨h3.os, h3.tape, h3.output, h3.size, fun k hk => h3.keep k hk (by simp)⟩⟩
theorem RD.none1 {w : World} {d : D} {v : Value} (h : RD w [] d v) : RD w [Option.none] d v := by
  induction h with
  | v x => exact .v x
  | sl a c val h1 h2 h3 h4 h5 h6 h7 h8 ih => exact .sl a c val h1 h2 h3 h4 (by simp) h6 h7 ih
  | zero p c h1 h2 => exact .zero p c h1 h2
theorem R.none1_d {w : World} {d : D} {v : Value} (h : R w [] (.d d) v) : R w [Option.none] (.d d) v := by
  cases h with | d h => exact .d h.none1
theorem R.none1_agg {w : World} {ds : List D} {v : Value} (h : R w [] (.agg (ds.map .d)) v) : R w [Option.none] (.agg (ds.map .d)) v := by
  cases h with
  | agg vs hs h =>
    refine .agg vs hs fun k hk => ?_
    have := h k hk
    have hk' : k < ds.length := by simpa using hk
    have e : (ds.map AV.d).getD k .undef = .d (ds[k]'hk') := by simp [List.getD_eq_getElem?_getD, hk']
    rw [e] at this ⊢
    exact this.none1_d
theorem rsT_nil (w : World) : Rs w [none] [] #[] := ⟨rfl, by simp⟩
theorem RsT.cons {w : World} {x : AV} {v : Value} {xs : List AV} {vs : List Value} (h : R w [none] x v) (t : Rs w [none] xs vs.toArray) : Rs w [none] (x :: xs) (v :: vs).toArray :=
  ⟨by have := t.1; simpa using this, fun k hk => by
    cases k with
    | zero => simpa using h
    | succ k => have := t.2 k (by simpa using hk); simpa using this⟩
end Go.Abs
namespace Go.Proofs.YtldnolgijfkfpaaGreatDoor
open Go.Abs
open Go.ChangeShapes Go.WideShapes Go.ChangeAt Go.RowKit
set_option linter.unusedVariables false
theorem own : ownKnob Tryz.prog.godebug = none := by kernel_rfl
theorem laidOut : laidOutB Tryz.prog = true := by kernel_rfl
theorem laid_tail {P : Program} {x : String × DataW Unit} {r : List (String × DataW Unit)} {w : World} (h : laidMet P (x :: r) w) : laidMet P r w := by
  obtain ⟨ps, h1, h2, h3⟩ := h
  obtain ⟨g, t, cs, fuel, p, q, _, _, _, _, h4, rfl⟩ := h1
  exact ⟨q, h4, (List.nodup_append.1 h2).2.1, fun b off hm => h3 b off (List.mem_append.2 (.inr hm))⟩
def cellsD : DataW Unit → Array Value
  | .agg ds => (ds.map fun d => match d with
    | .lit (.int k z) => Value.int k z
    | _ => Go.undef).toArray
  | _ => #[]
def setC (vs : Array Value) : Obj → Obj
  | .cells _ t frozen => .cells vs t frozen
  | o => o
noncomputable def laidWorld (os : Os) : World :=
  { World.holding Tryz.prog os ⟨#[], #[], []⟩ with heap := (((World.holding Tryz.prog os ⟨#[], #[], []⟩).heap.modify 0 (setC (cellsD Rows.laid_internal_strconv_uint64pow10))).modify 2 (setC (cellsD Rows.laid_math_bits_deBruijn32tab))).modify 3 (setC (cellsD Rows.laid_math_bits_deBruijn64tab)) }
theorem laid_met (os : Os) (args : Array Value) : laidMet Tryz.prog [("math/bits.deBruijn32tab", Rows.laid_math_bits_deBruijn32tab), ("math/bits.deBruijn64tab", Rows.laid_math_bits_deBruijn64tab), ("internal/strconv.uint64pow10", Rows.laid_internal_strconv_uint64pow10)] ((laidWorld os).forCall (fun _ _ => 0) ⟨#[], args, []⟩).memory :=
  laidMet_of_run' 8 (by kernel_rfl) (by kernel_rfl)
theorem powIs {w : World} (h : laidMet Tryz.prog [("math/bits.deBruijn32tab", Rows.laid_math_bits_deBruijn32tab), ("math/bits.deBruijn64tab", Rows.laid_math_bits_deBruijn64tab), ("internal/strconv.uint64pow10", Rows.laid_internal_strconv_uint64pow10)] w) : ∃ e f, w.heap[0]? = some (.cells powV e f) := by
  have hg : Tryz.prog.globalNamed "internal/strconv.uint64pow10" = some 0 := by kernel_rfl
  have h2 : laidMet Tryz.prog [("internal/strconv.uint64pow10", Rows.laid_internal_strconv_uint64pow10)] w := laid_tail (laid_tail h)
  have h3 : Lib.TabIs Tryz.prog w "internal/strconv.uint64pow10" .u64 Lib.pow10Tab := by
    exact Lib.tabIs_of_head (g := 0) (t := 155) (e := 90) (n := 20) hg (by kernel_rfl) (by kernel_rfl) (by kernel_rfl) (by kernel_rfl) (by kernel_rfl) h2
  unfold Lib.TabIs World.var? at h3
  rw [hg] at h3
  simp only [Option.bind_some] at h3
  split at h3
  · rename_i C e f hC
    simp only [Option.some.injEq] at h3
    subst h3
    exact ⟨e, f, hC⟩
  · cases h3
theorem opn3 : Opn Tryz.prog 3 fun ds => ∃ n, ds = [I n] ∧ (Lit.int .i64 n).wf = true := opn_int Tryz.underlying3
theorem opn22 : Opn Tryz.prog 22 fun ds => ∃ y, ds = [y] ∧ ∃ n g, y = SL none 1 encI n g ∧ n ≤ maxLen := (opn_slice (sz := 1) (encI 0) Tryz.underlying22 (by kernel_rfl) (by omega) opn3 ⟨_, rfl, by decide⟩).mono fun ds h => by
  obtain ⟨n, row, rfl, hn, h⟩ := h
  exact ⟨_, rfl, n, fun i => (h i).choose, congrArg (D.sl none 1 n) (funext fun i => (h i).choose_spec.1), hn⟩
theorem opn37 : Opn Tryz.prog 37 fun ds => ∃ a b, ds = [I a, I b] := (opn_array Tryz.underlying37 (by kernel_rfl) opn3).mono fun ds h => by
  obtain ⟨_, _, rfl, ⟨a, rfl, _⟩, _, _, rfl, ⟨b, rfl, _⟩, rfl⟩ := h
  exact ⟨a, b, rfl⟩
theorem opn24 : Opn Tryz.prog 24 fun ds => ∃ b : Bat, ds = b.enc ∧ b.nu ≤ 9223372036854775807 ∧ b.nb ≤ 9223372036854775807 := (opn_struct Tryz.underlying24 (by kernel_rfl) (.cons opn3 (.cons opn3 (.cons opn3 (.cons opn3 (.cons opn3 (.cons opn3 (.cons opn22 (.cons opn22 .nil))))))))).mono fun ds h => by
  obtain ⟨_, _, rfl, ⟨a, rfl, _⟩, _, _, rfl, ⟨b, rfl, _⟩, _, _, rfl, ⟨c, rfl, _⟩, _, _, rfl, ⟨d, rfl, _⟩, _, _, rfl, ⟨e, rfl, _⟩, _, _, rfl, ⟨f, rfl, _⟩, _, _, rfl, ⟨y, rfl, n, g, rfl, h1⟩, _, _, rfl, ⟨y', rfl, n', g', rfl, h2⟩, rfl⟩ := h
  exact ⟨⟨a, b, c, d, e, f, n, g, n', g'⟩, rfl, h1, h2⟩
theorem opn57 : Opn Tryz.prog 57 fun ds => ∃ x : Lnk, ds = x.enc := (opn_struct Tryz.underlying57 (by kernel_rfl) (.cons opn3 (.cons opn3 .nil))).mono fun ds h => by
  obtain ⟨_, _, rfl, ⟨a, rfl, _⟩, _, _, rfl, ⟨b, rfl, _⟩, rfl⟩ := h
  exact ⟨⟨a, b⟩, rfl⟩
theorem opn52 : Opn Tryz.prog 52 fun ds => ∃ y, ds = [y] ∧ ∃ n g, y = SL none 2 Lnk.enc n g ∧ n ≤ maxLen := (opn_slice (sz := 2) (Lnk.enc default) Tryz.underlying52 (by kernel_rfl) (by omega) opn57 ⟨_, rfl⟩).mono fun ds h => by
  obtain ⟨n, row, rfl, hn, h⟩ := h
  exact ⟨_, rfl, n, fun i => (h i).choose, congrArg (D.sl none 2 n) (funext fun i => (h i).choose_spec), hn⟩
theorem opn26 : Opn Tryz.prog 26 fun ds => ∃ (id day : Int) (n : Nat) (g : Nat → Int) (s a : Int), ds = [I id, I day, SL none 1 encI n g, I s, I a] ∧ n ≤ 9223372036854775807 := (opn_struct Tryz.underlying26 (by kernel_rfl) (.cons opn3 (.cons opn3 (.cons opn22 (.cons opn3 (.cons opn3 .nil)))))).mono fun ds h => by
  obtain ⟨_, _, rfl, ⟨a, rfl, _⟩, _, _, rfl, ⟨b, rfl, _⟩, _, _, rfl, ⟨y, rfl, n, g, rfl, h1⟩, _, _, rfl, ⟨c, rfl, _⟩, _, _, rfl, ⟨d, rfl, _⟩, rfl⟩ := h
  exact ⟨a, b, n, g, c, d, rfl, h1⟩
end Go.Proofs.YtldnolgijfkfpaaGreatDoor

/-! Ce -/
namespace Go.Proofs.YtldnolgijfkfpaaGreatDoor
open Go.Abs
set_option linter.unusedVariables false
set_option linter.unusedSimpArgs false
set_option maxRecDepth 100000
set_option maxHeartbeats 1000000
attribute [go_sem] arrV_takeB nilOk
@[go_sem] theorem T.bytesT_9 : bytesT Tryz.prog 9 = none := by kernel_rfl
@[go_sem] theorem T.bytesT_50 : bytesT Tryz.prog 50 = some 5 := by kernel_rfl
def byteI (b : ByteArray) (i : Nat) : Int := ((b[i]?).getD 0).toNat
def absL (s d : Nat → Int) : Nat → (Nat → Int)
  | 0 => s
  | i + 1 => upd (absL s d i) (i / 8) (xorI .u64 (absL s d i (i / 8)) (shlI .u64 (IntKind.u64.wrap (d i)) (8 * ((i : Int) % 8))))
theorem absL_congr {s d d' : Nat → Int} : ∀ {n : Nat}, (∀ i, i < n → d i = d' i) → absL s d n = absL s d' n
  | 0, _ => rfl
  | n + 1, h => by
    unfold absL
    rw [absL_congr (n := n) fun i hi => h i (by omega), h n (by omega)]
theorem tn_d8 (i : Nat) : ((i : Int) / 8).toNat = i / 8 := by omega
theorem digest_block_cs (σ : List Blk) (a : Nat → Int) (b : ByteArray) (hb : b.size = 136) : CSF Tryz.prog 81 [.agg (arrV .u64 25 a), .d (Sb b)] σ (.agg (arrV .u64 25 (permL (absL a (byteI b) 136) 24))) := by
  refine CSF.of_body T.en81 Tryz.func81 rfl (by simp [Tryz.ntmps81]) (by simp [go_sem]) fun hwf => ?_
  refine awp_reg_seq fun K hK => ?_
  simp [go_sem, Tryz.ntmps81, tn_d8, hb]
  repeat refine ⟨by omega, ?_⟩
  refine hK _ ?_; clear hK K
  refine awp_seq ?_
  refine awp_reg_seq fun K hK => ?_
  simp [go_sem, tn_d8, hb]
  repeat refine ⟨by omega, ?_⟩
  refine hK _ ?_; clear hK K
  refine awp_block ?_
  refine awp_forget [1, 2, 4, 7, 8] (by simp [go_sem, restr]; rfl) ?_
  refine awp_loopU (α := Nat) (fun i => [(8, .d (I i))]) (fun i => σ ++ [.var (arrV .u64 25 (absL a (byteI b) i)), .var (arrV .u64 25 fun _ => 0)]) (fun i => i ≤ 136) (fun i => 136 - i) 0 (by simp [go_sem, tn_d8, hb]) (rfl) (by simp) ?_
  rintro i hi
  refine awp_reg_seq fun K hK => ?_
  simp [go_sem, tn_d8, hb]
  repeat refine ⟨by omega, ?_⟩
  refine hK _ ?_; clear hK K
  refine awp_seq ?_
  refine awp_forget [1, 2, 4, 7, 8, 9] (by simp only [restr, List.contains_cons, List.contains_nil, Nat.reduceBEq, Bool.or_false, Bool.or_true, Bool.true_or, Bool.false_or, if_true, if_false, Bool.false_eq_true]; rfl) ?_
  refine awp_cond rfl (fun c0 => ?_) (fun c0 => ?_)
  · have d0 := c0; try simp at d0
    have hi5 : i < 136 := by omega
    have hd : i / 8 < 25 := by omega
    have hd4 : i / 8 ≤ 24 := by omega
    have h1 : (i : Int).tdiv 8 = (i : Int) / 8 := tdivI (by omega)
    have h2 : IntKind.i64.wrap ((i : Int) / 8) = (i : Int) / 8 := wrapI (by omega) (by omega)
    have h3 : (i : Int).tmod 8 = (i : Int) % 8 := tmodI (by omega)
    have h4 : IntKind.i64.wrap (8 * ((i : Int) % 8)) = 8 * ((i : Int) % 8) := wrapI (by omega) (by omega)
    have hau : absL a (byteI b) (i + 1) = upd (absL a (byteI b) i) (i / 8) (xorI .u64 (absL a (byteI b) i (i / 8)) (shlI .u64 (IntKind.u64.wrap (((b[i]?).getD 0).toNat : Int)) (8 * ((i : Int) % 8)))) := rfl
    refine awp_skip ?_
    refine awp_seq ?_
    refine awp_block ?_
    refine awp_reg_seq fun K hK => ?_
    simp [go_sem, tn_d8, hb, c0, d0, hi5, hd, hd4, h1, h2, h3, h4, hau]
    repeat refine ⟨by omega, ?_⟩
    refine hK _ ?_; clear hK K
    refine awp_draw_end 13 T.mixed (by kernel_rfl) fun K hK => ?_
    simp [go_sem, tn_d8, hb, c0, d0, hi5, hd, hd4, h1, h2, h3, h4, hau]
    try simp (disch := omega) only [tdivI, tmodI, wrapI]
    repeat refine ⟨by omega, ?_⟩
    refine hK _ ?_; clear hK K
    refine awp_reg_end fun K hK => ?_
    simp [go_sem, tn_d8, hb, c0, d0, hi5, hd, hd4, h1, h2, h3, h4, hau]
    try simp (disch := omega) only [wrapI]
    repeat refine ⟨by omega, ?_⟩
    refine hK _ ?_; clear hK K
    refine ⟨i + 1, back_of' (by simp [go_sem, wrap_succ (i := i) (by omega), tn_d8, hb, c0, d0, hi5, hd, hd4, h1, h2, h3, h4, hau]) ((leaves_app (by simp [go_sem]))) (by (simp [go_sem, wrap_succ (i := i) (by omega), tn_d8, hb, c0, d0, hi5, hd, hd4, h1, h2, h3, h4, hau] <;> omega)), by omega, by first | omega | (dsimp only; omega)⟩
  · have d0 := c0; try simp at d0
    obtain rfl : i = 136 := by omega
    refine awp_exit ?_
    refine awp_reg_seq fun K hK => ?_
    simp [go_sem, tn_d8, hb, c0, d0]
    repeat refine ⟨by omega, ?_⟩
    refine CSk.mk (digest_Permute_cs _ _) ?_
    simp [go_sem, tn_d8, hb, c0, d0]
    repeat refine ⟨by omega, ?_⟩
    refine hK _ ?_; clear hK K
    refine awp_ret ?_
    simp [go_sem, Tryz.results81]; exact arrV_same (k := .u64) (n := 25) (f := permL (absL a (byteI b) 136) 24)
def hashV (s : Nat → Int) (rest : ByteArray) (n : Int) : List AV := arrV .u64 25 s ++ [.d (Sb rest), .d (I n)]
def restI (p : ByteArray) (i : Nat) : ByteArray := if i = 0 then ⟨#[]⟩ else p
def takI (p : ByteArray) (i : Nat) : Int := if i = 0 then 0 else (p.size : Int)
theorem digest_New_cs (σ : List Blk)  : CS Tryz.prog 71 [] σ (fun r σ' X => r = .ptr σ.length 0 ∧ σ' = σ ++ [.var (hashV (fun _ => 0) ⟨#[]⟩ 0)] ∧ X = []) := by
  refine CS.of_bodyW T.en71 Tryz.func71 rfl (by simp [Tryz.ntmps71]) fun hwf => ?_
  refine awp_reg_seq fun K hK => ?_
  simp [go_sem, Tryz.ntmps71]
  repeat refine ⟨by omega, ?_⟩
  refine hK _ ?_; clear hK K
  refine awp_reg_seq fun K hK => ?_
  simp [go_sem]
  repeat refine ⟨by omega, ?_⟩
  refine hK _ ?_; clear hK K
  refine awp_ret ?_
  simp [go_sem, Tryz.results71, hashV]; rfl
theorem hash_Write_cs (σ : List Blk) (p : ByteArray) (hp : p.size ≤ 100) : CS Tryz.prog 72 [.ptr σ.length 0, .d (SL (some 1) 1 (fun s : ByteArray => [Sb s]) 1 (fun _ => p))] (σ ++ [.var (hashV (fun _ => 0) ⟨#[]⟩ 0)]) (fun r σ' X => r = .d (I p.size) ∧ σ' = σ ++ [.var (hashV (fun _ => 0) p p.size)] ∧ X = []) := by
  refine CS.of_bodyW T.en72 Tryz.func72 rfl (by simp [Tryz.ntmps72]) fun hwf => ?_
  refine awp_reg_seq fun K hK => ?_
  simp [go_sem, Tryz.ntmps72, hashV]
  repeat refine ⟨by omega, ?_⟩
  refine hK _ ?_; clear hK K
  refine awp_seq ?_
  refine awp_reg_seq fun K hK => ?_
  simp [go_sem, hashV]
  repeat refine ⟨by omega, ?_⟩
  refine hK _ ?_; clear hK K
  refine awp_block ?_
  refine awp_forget [0, 7, 8, 9] (by simp [go_sem, restr]; rfl) ?_
  refine awp_loopU (α := Nat) (fun i => [(9, .d (I i))]) (fun i => σ ++ [.var (arrV .u64 25 (fun _ => 0) ++ [.d (Sb (restI p i)), .d (I (takI p i))])]) (fun i => i ≤ 1) (fun i => 1 - i) 0 (by simp [go_sem, hashV]) (rfl) (by simp) ?_
  rintro i hi
  refine awp_reg_seq fun K hK => ?_
  simp [go_sem, hashV]
  repeat refine ⟨by omega, ?_⟩
  refine hK _ ?_; clear hK K
  refine awp_seq ?_
  refine awp_forget [0, 7, 8, 9, 10] (by simp only [restr, List.contains_cons, List.contains_nil, Nat.reduceBEq, Bool.or_false, Bool.or_true, Bool.true_or, Bool.false_or, if_true, if_false, Bool.false_eq_true]; rfl) ?_
  refine awp_cond rfl (fun c0 => ?_) (fun c0 => ?_)
  · have d0 := c0; try simp at d0
    have hi0 : i = 0 := by omega
    subst hi0
    have h0 : restI p 0 = ⟨#[]⟩ := rfl
    have h1 : takI p 0 = 0 := rfl
    have h2 : restI p 1 = p := rfl
    have h3 : takI p 1 = p.size := rfl
    have h4 : IntKind.i64.wrap (p.size : Int) = p.size := wrapI (by omega) (by omega)
    have h5 : (⟨#[]⟩ : ByteArray) ++ p = p := ByteArray.ext (by rw [ByteArray.data_append]; simp)
    refine awp_skip ?_
    refine awp_seq ?_
    refine awp_block ?_
    refine awp_reg_seq fun K hK => ?_
    simp [go_sem, hashV, c0, d0, h0, h1, h2, h3, h4, h5]
    repeat refine ⟨by omega, ?_⟩
    refine hK _ ?_; clear hK K
    refine awp_reg_seq fun K hK => ?_
    simp [go_sem, hashV, c0, d0, h0, h1, h2, h3, h4, h5]
    try simp (disch := omega) only [wrapI]
    repeat refine ⟨by omega, ?_⟩
    refine hK _ ?_; clear hK K
    refine awp_reg_seq fun K hK => ?_
    simp [go_sem, hashV, c0, d0, h0, h1, h2, h3, h4, h5]
    try simp (disch := omega) only [wrapI]
    repeat refine ⟨by omega, ?_⟩
    refine hK _ ?_; clear hK K
    refine awp_block ?_
    refine awp_forget [0, 7, 8, 9] (by simp [go_sem, restr]; rfl) ?_
    refine awp_loopU (α := Nat) (fun q => [(9, .d (I 0))]) (fun q => σ ++ [.var (arrV .u64 25 (fun _ => 0) ++ [.d (Sb p), .d (I p.size)])]) (fun q => q = 0) (fun q => 0) 0 (by simp [go_sem, hashV]) (rfl) (by simp) ?_
    rintro q hq1
    refine awp_seq ?_
    refine awp_reg_seq fun K hK => ?_
    simp [go_sem, hashV, c0, d0, h0, h1, h2, h3, h4, h5]
    repeat refine ⟨by omega, ?_⟩
    refine hK _ ?_; clear hK K
    refine awp_forget [0, 7, 8, 9, 35] (by simp only [restr, List.contains_cons, List.contains_nil, Nat.reduceBEq, Bool.or_false, Bool.or_true, Bool.true_or, Bool.false_or, if_true, if_false, Bool.false_eq_true]; rfl) ?_
    refine awp_cond rfl (fun c1 => ?_) (fun c1 => ?_)
    · have d1 := c1; try simp at d1
      omega
    · have d1 := c1; try simp at d1
      refine awp_exit ?_
      refine awp_reg_end fun K hK => ?_
      simp [go_sem, hashV, c0, d0, h0, h1, h2, h3, h4, h5, c1, d1]
      try simp (disch := omega) only [wrapI]
      repeat refine ⟨by omega, ?_⟩
      refine hK _ ?_; clear hK K
      refine ⟨1, back_of' (by simp [go_sem, (show IntKind.i64.wrap 1 = 1 from rfl), hashV, c0, d0, h0, h1, h2, h3, h4, h5, c1, d1]) ((leaves_app (by simp [go_sem]))) (by (simp [go_sem, (show IntKind.i64.wrap 1 = 1 from rfl), hashV, c0, d0, h0, h1, h2, h3, h4, h5, c1, d1] <;> omega)), by omega, by first | omega | (dsimp only; omega)⟩
  · have d0 := c0; try simp at d0
    obtain rfl : i = 1 := by omega
    have h2 : restI p 1 = p := rfl
    have h3 : takI p 1 = p.size := rfl
    refine awp_exit ?_
    refine awp_reg_seq fun K hK => ?_
    simp [go_sem, hashV, c0, d0, h2, h3]
    repeat refine ⟨by omega, ?_⟩
    refine hK _ ?_; clear hK K
    refine awp_ret ?_
    simp [go_sem, Tryz.results72, hashV, c0, d0, h2, h3] <;> omega
def pad0 (p : ByteArray) (q : Nat) : Int := if q < p.size then byteI p q else if q = p.size then 6 else 0
def padF (p : ByteArray) (q : Nat) : Int := if q = 135 then orI .u8 (pad0 p 135) 128 else pad0 p q
def u8D (f : Nat → Int) (q : Nat) : List D := [.v (.int .u8 (f q))]
theorem isU8_u8D (f : Nat → Int) (q : Nat) : isU8 (u8D f q) = true := rfl
def stS (p : ByteArray) : Nat → Int := permL (absL (fun _ => 0) (padF p) 136) 24
def outF (p : ByteArray) (q : Nat) : Int := IntKind.u8.wrap (shrI .u64 (stS p (q / 8)) (8 * ((q : Int) % 8)))
def digS (p : ByteArray) : ByteArray := bytesS 32 (u8D (outF p))
theorem byteI_lt (b : ByteArray) (i : Nat) : 0 ≤ byteI b i ∧ byteI b i < 256 := by
  unfold byteI
  have := UInt8.toNat_lt ((b[i]?).getD 0)
  omega
theorem pad0_lt (p : ByteArray) (q : Nat) : 0 ≤ pad0 p q ∧ pad0 p q < 256 := by
  unfold pad0
  split
  · exact byteI_lt p q
  · split <;> omega
theorem or_lt (a b : Int) : 0 ≤ orI .u8 a b ∧ orI .u8 a b < 256 := by
  unfold orI
  rw [IntKind.wrap_u8]
  omega
theorem padF_lt (p : ByteArray) (q : Nat) : 0 ≤ padF p q ∧ padF p q < 256 := by
  unfold padF
  split
  · exact or_lt _ _
  · exact pad0_lt p q
theorem bytesS_size (n : Nat) (row : Nat → List D) : (bytesS n row).size = n := by
  unfold bytesS; rw [strOfNums_size]; simp
theorem bytesS_at {n : Nat} {f : Nat → Int} (hf : ∀ q, 0 ≤ f q ∧ f q < 256) {i : Nat} (h : i < n) : byteI (bytesS n (u8D f)) i = f i := by
  unfold byteI
  have hs : i < (bytesS n (u8D f)).size := by rw [bytesS_size]; exact h
  rw [getElem?_pos _ i hs]
  have e : (bytesS n (u8D f))[i] = UInt8.ofNat (f i).toNat := by
    show (bytesS n (u8D f)).data[i] = _
    simp [bytesS, strOfNums, u8D]; rfl
  rw [Option.getD_some, e]
  have := hf i
  simp
  omega
theorem abs_pad (s : Nat → Int) (p : ByteArray) : absL s (byteI (bytesS 136 (u8D (padF p)))) 136 = absL s (padF p) 136 :=
  absL_congr fun i hi => bytesS_at (padF_lt p) hi
def repZ (c : Nat) : ByteArray := ⟨(Lib.repeatL (⟨#[0]⟩ : ByteArray).data.toList c).toArray⟩
def lastS (p : ByteArray) : ByteArray := p ++ ⟨#[6]⟩ ++ repZ (135 - p.size)
theorem ba_get (b : ByteArray) (i : Nat) : b[i]? = b.data[i]? := by
  by_cases h : i < b.size
  · have h' : i < b.data.size := h
    rw [getElem?_pos b i h, getElem?_pos b.data i h']; rfl
  · have h' : ¬ i < b.data.size := h
    rw [getElem?_neg b i h, getElem?_neg b.data i h']
theorem repZ_data (c : Nat) : (repZ c).data = (List.replicate c (0 : UInt8)).toArray := by
  have := Lib.repeatL_replicate 0 1 c
  simp only [List.replicate_one, Nat.mul_one] at this
  show (Lib.repeatL [0] c).toArray = _
  rw [this]
theorem repZ_size (c : Nat) : (repZ c).size = c := by
  show (repZ c).data.size = c
  rw [repZ_data]; simp
theorem lastS_data (p : ByteArray) : (lastS p).data = p.data ++ #[6] ++ (List.replicate (135 - p.size) (0 : UInt8)).toArray := by
  unfold lastS
  rw [ByteArray.data_append, ByteArray.data_append, repZ_data]
theorem lastS_size {p : ByteArray} (h : p.size ≤ 100) : (lastS p).size = 136 := by
  show (lastS p).data.size = 136
  rw [lastS_data]
  have e : p.data.size = p.size := rfl
  simp; omega
theorem lastS_row {p : ByteArray} (h : p.size ≤ 100) {i : Nat} (hi : i < 136) : strRow (lastS p) i = u8D (pad0 p) i := by
  have e : p.data.size = p.size := rfl
  have key : (((lastS p)[i]?).getD 0).toNat = pad0 p i := by
    rw [ba_get, lastS_data]
    unfold pad0
    by_cases h1 : i < p.size
    · rw [if_pos h1, Array.append_assoc, Array.getElem?_append_left (by omega)]
      unfold byteI; rw [ba_get]
    · rw [if_neg h1]
      by_cases h2 : i = p.size
      · rw [if_pos h2, Array.getElem?_append_left (by simp; omega), Array.getElem?_append_right (by omega), h2, e, Nat.sub_self]
        rfl
      · rw [if_neg h2, Array.getElem?_append_right (by simp; omega)]
        have h3 : i - (p.data ++ #[6]).size < 135 - p.size := by simp; omega
        simp only [List.getElem?_toArray, List.getElem?_replicate, h3, if_true, Option.getD_some]
        rfl
  unfold strRow u8D
  rw [key]
theorem hash_Sum_cs (σ : List Blk) (p : ByteArray) (hp : p.size ≤ 100) : CSF Tryz.prog 73 [.ptr σ.length 0] (σ ++ [.var (hashV (fun _ => 0) p p.size)]) (.d (Sb (digS p))) := by
  have hs : IntKind.i64.wrap (135 - (p.size : Int)) = ((135 - p.size : Nat) : Int) := by rw [wrapI (by omega) (by omega)]; omega
  have hrz := repZ_size (135 - p.size)
  have h6 : (⟨#[6]⟩ : ByteArray).size = 1 := rfl
  have h0 : (⟨#[0]⟩ : ByteArray).size = 1 := rfl
  have hrp : (⟨(Lib.repeatL [0] (135 - p.size)).toArray⟩ : ByteArray) = repZ (135 - p.size) := rfl
  have hls : p ++ ⟨#[6]⟩ ++ repZ (135 - p.size) = lastS p := rfl
  have hl := lastS_size hp
  have hst : permL (absL (fun _ => 0) (byteI (bytesS 136 (u8D (padF p)))) 136) 24 = stS p := by rw [abs_pad]; rfl
  have hsz := ByteArray.size_append (a := p) (b := ⟨#[6]⟩)
  have hr5 : strRow (lastS p) 135 = [.v (.int .u8 (pad0 p 135))] := lastS_row hp (by decide)
  refine CSF.of_body T.en73 Tryz.func73 rfl (by simp [Tryz.ntmps73]) (by simp [go_sem]) fun hwf => ?_
  refine awp_reg_seq fun K hK => ?_
  simp [go_sem, Tryz.ntmps73, hashV, hs, hrz, h6, hrp, hls, hl, hst, hsz, hr5, isU8_u8D]
  repeat refine ⟨by omega, ?_⟩
  refine hK _ ?_; clear hK K
  refine awp_draw_seq 13 T.mixed (by kernel_rfl) fun K hK => ?_
  simp [go_sem, hashV, hs, hrz, h6, hrp, hls, hl, hst, hsz, hr5, isU8_u8D]
  try simp (disch := omega) only [wrapI]
  repeat refine ⟨by omega, ?_⟩
  refine CSg.mk (repeat_cs _ ⟨#[0]⟩ (135 - p.size) (by omega) (by omega) (by rw [h0, Nat.one_mul]; omega) (by omega)) ?_
  simp [go_sem, hashV, hs, hrz, h6, hrp, hls, hl, hst, hsz, hr5, isU8_u8D]
  try simp (disch := omega) only [wrapI]
  repeat refine ⟨by omega, ?_⟩
  refine hK _ ?_; clear hK K
  refine awp_reg_seq fun K hK => ?_
  simp [go_sem, hashV, hs, hrz, h6, hrp, hls, hl, hst, hsz, hr5, isU8_u8D]
  repeat refine ⟨by omega, ?_⟩
  refine hK _ ?_; clear hK K
  refine awp_rows (σ.length + 1) (u8D (padF p)) (by simp [go_sem]; first | exact ⟨rfl, rfl, rfl⟩ | exact ⟨rfl, rfl⟩ | rfl) (by
    intro q hq
    by_cases hq5 : q = 135
    · subst hq5; simp [go_sem, lastS_row hp, u8D, padF]
    · simp [go_sem, hq5, lastS_row hp hq, u8D, padF]) (by simp [go_sem]; rfl) ?_
  apply awp_own_seq 8 7 9 T.mixed (by kernel_rfl)
  · intro τ K hK
    simp [go_sem, hashV, hs, hrz, h6, hrp, hls, hl, hst, hsz, hr5, isU8_u8D]
    repeat refine ⟨by omega, ?_⟩
    refine CSg.mk (digest_block_cs _ (fun _ => 0) (bytesS 136 (u8D (padF p))) (bytesS_size _ _)) ?_
    simp [go_sem, hashV, hs, hrz, h6, hrp, hls, hl, hst, hsz, hr5, isU8_u8D]
    repeat refine ⟨by omega, ?_⟩
    exact hK _ _
  intro K hK
  simp [go_sem, hashV, hs, hrz, h6, hrp, hls, hl, hst, hsz, hr5, isU8_u8D]
  repeat refine ⟨by omega, ?_⟩
  refine hK _ ?_; clear hK K
  refine awp_reg_seq fun K hK => ?_
  simp [go_sem, hashV, hs, hrz, h6, hrp, hls, hl, hst, hsz, hr5, isU8_u8D]
  repeat refine ⟨by omega, ?_⟩
  refine hK _ ?_; clear hK K
  refine awp_seq ?_
  refine awp_thawT 5 1 (u8D (outF p)) (by simp [go_sem]) (by simp [go_sem]; rfl) ?_
  refine awp_reg_seq fun K hK => ?_
  simp [go_sem, hashV, hs, hrz, h6, hrp, hls, hl, hst, hsz, hr5, isU8_u8D]
  repeat refine ⟨by omega, ?_⟩
  refine hK _ ?_; clear hK K
  refine awp_block ?_
  refine awp_forget [4, 5, 33] (by simp [go_sem, restr]; rfl) ?_
  refine awp_mv [σ.length + 3] (by simp) ?_
  refine awp_loopU (α := Nat) (fun i => [(5, .ms (σ.length + 3) 1 0 i), (33, .d (I i))]) (fun i => σ ++ [.var (hashV (fun _ => 0) p p.size), .arr 1 136 (u8D (padF p)), .var (arrV .u64 25 (stS p)), .arr 1 i (u8D (outF p))]) (fun i => i ≤ 32) (fun i => 32 - i) 0 (by simp [go_sem, hashV, hs, hrz, h6, hrp, hls, hl, hst, hsz, hr5, isU8_u8D, hashV]) (rfl) (by simp) ?_
  rintro i hi
  refine awp_reg_seq fun K hK => ?_
  simp [go_sem, hashV, hs, hrz, h6, hrp, hls, hl, hst, hsz, hr5, isU8_u8D]
  repeat refine ⟨by omega, ?_⟩
  refine hK _ ?_; clear hK K
  refine awp_seq ?_
  refine awp_forget [4, 5, 33, 34] (by simp only [restr, List.contains_cons, List.contains_nil, Nat.reduceBEq, Bool.or_false, Bool.or_true, Bool.true_or, Bool.false_or, if_true, if_false, Bool.false_eq_true]; rfl) ?_
  refine awp_cond rfl (fun c0 => ?_) (fun c0 => ?_)
  · have d0 := c0; try simp at d0
    have hi5 : i < 32 := by omega
    have hd : i / 8 < 25 := by omega
    have hd4 : i / 8 ≤ 24 := by omega
    have h1 : (i : Int).tdiv 8 = (i : Int) / 8 := tdivI (by omega)
    have h2 : IntKind.i64.wrap ((i : Int) / 8) = (i : Int) / 8 := wrapI (by omega) (by omega)
    have h3 : (i : Int).tmod 8 = (i : Int) % 8 := tmodI (by omega)
    have h4 : IntKind.i64.wrap (8 * ((i : Int) % 8)) = 8 * ((i : Int) % 8) := wrapI (by omega) (by omega)
    have hsc : σ.map (scrubV [σ.length + 3]) = σ := by
      have h := (WfS.parts hwf 2).1
      simpa [Nat.add_assoc] using h
    refine awp_skip ?_
    refine awp_seq ?_
    refine awp_block ?_
    refine awp_reg_seq fun K hK => ?_
    simp [go_sem, hashV, hs, hrz, h6, hrp, hls, hl, hst, hsz, hr5, isU8_u8D, c0, d0, hi5, hd, hd4, h1, h2, h3, h4, tn_d8, hsc]
    repeat refine ⟨by omega, ?_⟩
    refine hK _ ?_; clear hK K
    refine awp_reg_end fun K hK => ?_
    simp [go_sem, hashV, hs, hrz, h6, hrp, hls, hl, hst, hsz, hr5, isU8_u8D, c0, d0, hi5, hd, hd4, h1, h2, h3, h4, tn_d8, hsc, hwf.one, hwf.zero]
    try simp (disch := omega) only [tdivI, tmodI, wrapI]
    repeat refine ⟨by omega, ?_⟩
    refine hK _ ?_; clear hK K
    refine awp_rows (σ.length + 3) (u8D (outF p)) (by simp [go_sem]; first | exact ⟨rfl, rfl, rfl⟩ | exact ⟨rfl, rfl⟩ | rfl) (by intro q hq; unfold catRows; split; rfl; rw [show q = i by omega]; simp [rowsOf, u8D, outF]) (by simp [go_sem]; rfl) ?_
    refine awp_reg_end fun K hK => ?_
    simp [go_sem, hashV, hs, hrz, h6, hrp, hls, hl, hst, hsz, hr5, isU8_u8D, c0, d0, hi5, hd, hd4, h1, h2, h3, h4, tn_d8, hsc]
    try simp (disch := omega) only [wrapI]
    repeat refine ⟨by omega, ?_⟩
    refine hK _ ?_; clear hK K
    refine ⟨i + 1, back_of' (by simp [go_sem, wrap_succ (i := i) (by omega), hashV, hs, hrz, h6, hrp, hls, hl, hst, hsz, hr5, isU8_u8D, c0, d0, hi5, hd, hd4, h1, h2, h3, h4, tn_d8, hsc]) ((leaves_app (by simp [go_sem]))) (by (simp [go_sem, wrap_succ (i := i) (by omega), hashV, hs, hrz, h6, hrp, hls, hl, hst, hsz, hr5, isU8_u8D, c0, d0, hi5, hd, hd4, h1, h2, h3, h4, tn_d8, hsc] <;> omega)), by omega, by first | omega | (dsimp only; omega)⟩
  · have d0 := c0; try simp at d0
    obtain rfl : i = 32 := by omega
    refine awp_exit ?_
    refine awp_reg_seq fun K hK => ?_
    simp [go_sem, hashV, hs, hrz, h6, hrp, hls, hl, hst, hsz, hr5, isU8_u8D, c0, d0]
    repeat refine ⟨by omega, ?_⟩
    refine hK _ ?_; clear hK K
    refine awp_ret ?_
    simp [go_sem, Tryz.results73, hashV]; rfl
theorem digest_Sum_cs (σ : List Blk) (p : ByteArray) (hp : p.size ≤ 100) : CSF Tryz.prog 61 [.d (Sb p)] σ (.d (Sb (digS p))) := by
  refine CSF.of_body T.en61 Tryz.func61 rfl (by simp [Tryz.ntmps61]) (by simp [go_sem]) fun hwf => ?_
  refine awp_reg_seq fun K hK => ?_
  simp [go_sem, Tryz.ntmps61]
  repeat refine ⟨by omega, ?_⟩
  refine hK _ ?_; clear hK K
  refine awp_reg_seq fun K hK => ?_
  simp [go_sem]
  repeat refine ⟨by omega, ?_⟩
  refine CSk.gen (digest_New_cs _) ?_
  rintro r σ' X ⟨rfl, rfl, rfl⟩
  simp [go_sem]
  repeat refine ⟨by omega, ?_⟩
  refine hK _ ?_; clear hK K
  refine awp_reg_seq fun K hK => ?_
  simp [go_sem]
  repeat refine ⟨by omega, ?_⟩
  refine CSk.gen ((hash_Write_cs σ p hp).sub (by simp [go_sem, sameL, sameE, sameL0, Go.Abs.sameA, rowsOf])) ?_
  rintro r σ' X ⟨rfl, rfl, rfl⟩
  simp [go_sem]
  repeat refine ⟨by omega, ?_⟩
  refine hK _ ?_; clear hK K
  refine awp_reg_seq fun K hK => ?_
  simp [go_sem]
  repeat refine ⟨by omega, ?_⟩
  refine CSk.mk (hash_Sum_cs σ p hp) ?_
  simp [go_sem]
  repeat refine ⟨by omega, ?_⟩
  refine hK _ ?_; clear hK K
  refine awp_ret ?_
  simp [go_sem, Tryz.results61] <;> omega
end Go.Proofs.YtldnolgijfkfpaaGreatDoor

/-! Sm -/
namespace Go.Proofs
open Go.Shelf
def Tryz.sortU_ren : Go.Shelf.Ren := ⟨fun | 6 => 63 | 15 => 76 | 14 => 75 | 28 => 92 | 29 => 93 | 20 => 84 | 21 => 85 | 22 => 86 | 23 => 87 | 24 => 88 | 25 => 89 | 26 => 90 | 27 => 91 | 46 => 117 | 47 => 118 | 48 => 119 | 49 => 120 | 50 => 121 | 57 => 138 | n => n, fun | 22 => 22 | 24 => 3 | 25 => 67 | 3 => 3 | 39 => 87 | 0 => 0 | 53 => 108 | 55 => 90 | 4 => 4 | 46 => 101 | 45 => 100 | 50 => 105 | 5 => 5 | 9 => 9 | 66 => 137 | 70 => 141 | 76 => 157 | 77 => 158 | n => n, fun | n => n⟩
theorem Tryz.sortU : Go.Proofs.SlLaysF.n6 Tryz.prog Tryz.sortU_ren := {
  mixed := by kernel_rfl
  f6 := ⟨Tryz.f63.name, by decide, Tryz.func63.trans (congrArg some (by kernel_rfl))⟩
  f14 := ⟨Tryz.f75.name, by decide, Tryz.func75.trans (congrArg some (by kernel_rfl))⟩
  f15 := Tryz.func76.trans (congrArg some (by kernel_rfl))
  f20 := ⟨Tryz.f84.name, by decide, Tryz.func84.trans (congrArg some (by kernel_rfl))⟩
  f21 := ⟨Tryz.f85.name, by decide, Tryz.func85.trans (congrArg some (by kernel_rfl))⟩
  f22 := ⟨Tryz.f86.name, by decide, Tryz.func86.trans (congrArg some (by kernel_rfl))⟩
  f23 := ⟨Tryz.f87.name, by decide, Tryz.func87.trans (congrArg some (by kernel_rfl))⟩
  f24 := ⟨Tryz.f88.name, by decide, Tryz.func88.trans (congrArg some (by kernel_rfl))⟩
  f25 := ⟨Tryz.f89.name, by decide, Tryz.func89.trans (congrArg some (by kernel_rfl))⟩
  f26 := ⟨Tryz.f90.name, by decide, Tryz.func90.trans (congrArg some (by kernel_rfl))⟩
  f27 := ⟨Tryz.f91.name, by decide, Tryz.func91.trans (congrArg some (by kernel_rfl))⟩
  f28 := Tryz.func92.trans (congrArg some (by kernel_rfl))
  f29 := Tryz.func93.trans (congrArg some (by kernel_rfl))
  f46 := ⟨Tryz.f117.name, by decide, Tryz.func117.trans (congrArg some (by kernel_rfl))⟩
  f47 := Tryz.func118.trans (congrArg some (by kernel_rfl))
  f48 := Tryz.func119.trans (congrArg some (by kernel_rfl))
  f49 := ⟨Tryz.f120.name, by decide, Tryz.func120.trans (congrArg some (by kernel_rfl))⟩
  f50 := ⟨Tryz.f121.name, by decide, Tryz.func121.trans (congrArg some (by kernel_rfl))⟩
  f57 := ⟨Tryz.f138.name, by decide, Tryz.func138.trans (congrArg some (by kernel_rfl))⟩
  t0 := Tryz.underlying0
  a0 := Tryz.isAgg0
  z0 := Tryz.sizeOf0
  v0 := Tryz.zeroValue0
  t3 := Tryz.underlying3
  a3 := Tryz.isAgg3
  z3 := Tryz.sizeOf3
  v3 := Tryz.zeroValue3
  t4 := Tryz.underlying4
  a4 := Tryz.isAgg4
  z4 := Tryz.sizeOf4
  v4 := Tryz.zeroValue4
  t5 := Tryz.underlying5
  a5 := Tryz.isAgg5
  z5 := Tryz.sizeOf5
  v5 := Tryz.zeroValue5
  t9 := Tryz.underlying9
  a9 := Tryz.isAgg9
  z9 := Tryz.sizeOf9
  v9 := Tryz.zeroValue9
  t22 := Tryz.underlying22
  a22 := Tryz.isAgg22
  z22 := Tryz.sizeOf22
  v22 := Tryz.zeroValue22
  a24 := Tryz.isAgg3
  z24 := Tryz.sizeOf3
  t25 := Tryz.underlying67
  a25 := Tryz.isAgg67
  z25 := Tryz.sizeOf67
  v25 := Tryz.zeroValue67
  t39 := Tryz.underlying87
  a39 := Tryz.isAgg87
  z39 := Tryz.sizeOf87
  v39 := Tryz.zeroValue87
  t45 := Tryz.underlying100
  a45 := Tryz.isAgg100
  z45 := Tryz.sizeOf100
  v45 := Tryz.zeroValue100
  t46 := Tryz.underlying101
  a46 := Tryz.isAgg101
  z46 := Tryz.sizeOf101
  v46 := Tryz.zeroValue101
  t50 := Tryz.underlying105
  a50 := Tryz.isAgg105
  z50 := Tryz.sizeOf105
  v50 := Tryz.zeroValue105
  t53 := Tryz.underlying108
  a53 := Tryz.isAgg108
  z53 := Tryz.sizeOf108
  v53 := Tryz.zeroValue108
  t55 := Tryz.underlying90
  a55 := Tryz.isAgg90
  z55 := Tryz.sizeOf90
  v55 := Tryz.zeroValue90
  t66 := Tryz.underlying137
  a66 := Tryz.isAgg137
  z66 := Tryz.sizeOf137
  v66 := Tryz.zeroValue137
  t70 := Tryz.underlying141
  a70 := Tryz.isAgg141
  z70 := Tryz.sizeOf141
  v70 := Tryz.zeroValue141
  t76 := Tryz.underlying157
  a76 := Tryz.isAgg157
  z76 := Tryz.sizeOf157
  v76 := Tryz.zeroValue157
  t77 := Tryz.underlying158
  a77 := Tryz.isAgg158
  z77 := Tryz.sizeOf158
  v77 := Tryz.zeroValue158 }
end Go.Proofs

/-! Cf -/
namespace Go.Proofs.YtldnolgijfkfpaaGreatDoor
open Go.Abs
set_option linter.unusedVariables false
set_option linter.unusedSimpArgs false
set_option maxRecDepth 100000
set_option maxHeartbeats 1000000
def cmpI (a b : Int) : Int := if a < b then -1 else if b < a then 1 else 0
def ltS (a b : ByteArray) : Bool := Op.bytesLess a.toList b.toList
def cmpS (a b : ByteArray) : Int := if ltS a b = true then -1 else if (ltS a b || a.toList == b.toList) = false then 1 else 0
theorem dec_len {n : Nat} : ∀ {k : Nat}, 0 < k → n < 10 ^ k → (Lib.decDigits n).length ≤ k := by
  induction n using Nat.strongRecOn with
  | _ n ih =>
  intro k hk hn
  rw [Lib.decDigits]
  split
  · simp; omega
  · rcases k with _ | _ | k
    · omega
    · simp at hn; omega
    · have := ih (n / 10) (by omega) (k := k + 1) (by omega) (by rw [Nat.pow_succ] at hn; omega)
      simp only [List.length_append, List.length_singleton]; omega
theorem itoS_size {n : Nat} (h : n ≤ 1073741824) : (itoS n).size ≤ 10 := by
  have := dec_len (n := n) (k := 10) (by decide) (by omega)
  show (Lib.decDigits n).toArray.size ≤ 10
  simpa using this
def textS (ID rd u : Nat) : ByteArray := itoS ID ++ ⟨#[32]⟩ ++ itoS rd ++ ⟨#[32]⟩ ++ itoS u
theorem sp_size : (⟨#[32]⟩ : ByteArray).size = 1 := rfl
theorem textS_size {ID rd u : Nat} (h1 : ID ≤ 1073741824) (h2 : rd ≤ 1073741824) (h3 : u ≤ 1073741824) : (textS ID rd u).size ≤ 100 := by
  have := itoS_size h1
  have := itoS_size h2
  have := itoS_size h3
  unfold textS
  simp only [ByteArray.size_append, sp_size]; omega
def keyS (ID rd u : Nat) : ByteArray := digS (textS ID rd u)
def ordU (ID rd : Nat) (x y : Nat) : Int := if cmpS (keyS ID rd x) (keyS ID rd y) ≠ 0 then cmpS (keyS ID rd x) (keyS ID rd y) else cmpI x y
theorem isNaN_int_cs (σ : List Blk) (a : Int) : CSF Tryz.prog 78 [.d (I a)] σ (.d (B false)) := by
  refine CSF.of_body T.en78 Tryz.func78 rfl (by simp [Tryz.ntmps78]) (by simp [go_sem]) fun hwf => ?_
  refine awp_reg_seq fun K hK => ?_
  simp [go_sem, Tryz.ntmps78]
  repeat refine ⟨by omega, ?_⟩
  refine hK _ ?_; clear hK K
  refine awp_reg_seq fun K hK => ?_
  simp [go_sem]
  repeat refine ⟨by omega, ?_⟩
  refine hK _ ?_; clear hK K
  refine awp_ret ?_
  simp [go_sem, Tryz.results78] <;> omega
theorem cmp_int_cs (σ : List Blk) (a b : Int) : CSF Tryz.prog 67 [.d (I a), .d (I b)] σ (.d (I (cmpI a b))) := by
  refine CSF.of_body T.en67 Tryz.func67 rfl (by simp [Tryz.ntmps67]) (by simp [go_sem]) fun hwf => ?_
  refine awp_reg_seq fun K hK => ?_
  simp [go_sem, Tryz.ntmps67]
  repeat refine ⟨by omega, ?_⟩
  refine hK _ ?_; clear hK K
  refine awp_reg_seq fun K hK => ?_
  simp [go_sem]
  repeat refine ⟨by omega, ?_⟩
  refine CSk.mk (isNaN_int_cs _ a) ?_
  simp [go_sem]
  repeat refine ⟨by omega, ?_⟩
  refine hK _ ?_; clear hK K
  refine awp_reg_seq fun K hK => ?_
  simp [go_sem]
  repeat refine ⟨by omega, ?_⟩
  refine CSk.mk (isNaN_int_cs _ b) ?_
  simp [go_sem]
  repeat refine ⟨by omega, ?_⟩
  refine hK _ ?_; clear hK K
  refine awp_seq ?_
  refine awp_reg_seq fun K hK => ?_
  simp [go_sem]
  repeat refine ⟨by omega, ?_⟩
  refine hK _ ?_; clear hK K
  refine awp_forget [0, 1, 6, 11] (by simp only [restr, List.contains_cons, List.contains_nil, Nat.reduceBEq, Bool.or_false, Bool.or_true, Bool.true_or, Bool.false_or, if_true, if_false, Bool.false_eq_true]; rfl) ?_
  refine awp_cond rfl (fun c0 => ?_) (fun c0 => ?_)
  · have d0 := c0; try simp at d0
  · have d0 := c0; try simp at d0
    refine awp_skip ?_
    refine awp_seq ?_
    refine awp_reg_seq fun K hK => ?_
    simp [go_sem, c0, d0]
    repeat refine ⟨by omega, ?_⟩
    refine hK _ ?_; clear hK K
    refine awp_forget [0, 1, 13] (by simp only [restr, List.contains_cons, List.contains_nil, Nat.reduceBEq, Bool.or_false, Bool.or_true, Bool.true_or, Bool.false_or, if_true, if_false, Bool.false_eq_true]; rfl) ?_
    refine awp_cond rfl (fun c1 => ?_) (fun c1 => ?_)
    · have d1 := c1; try simp at d1
    · have d1 := c1; try simp at d1
      refine awp_skip ?_
      refine awp_seq ?_
      refine awp_reg_seq fun K hK => ?_
      simp [go_sem, c0, d0, c1, d1]
      repeat refine ⟨by omega, ?_⟩
      refine hK _ ?_; clear hK K
      refine awp_forget [0, 1, 16] (by simp only [restr, List.contains_cons, List.contains_nil, Nat.reduceBEq, Bool.or_false, Bool.or_true, Bool.true_or, Bool.false_or, if_true, if_false, Bool.false_eq_true]; rfl) ?_
      refine awp_cond rfl (fun c2 => ?_) (fun c2 => ?_)
      · have d2 := c2; try simp at d2
        have hz : cmpI a b = -1 := by unfold cmpI; rw [if_pos d2]
        refine awp_reg_seq fun K hK => ?_
        simp [go_sem, c0, d0, c1, d1, c2, d2]
        repeat refine ⟨by omega, ?_⟩
        refine hK _ ?_; clear hK K
        refine awp_ret ?_
        rw [hz]; simp [go_sem, Tryz.results67]
      · have d2 := c2; try simp at d2
        refine awp_skip ?_
        refine awp_seq ?_
        refine awp_reg_seq fun K hK => ?_
        simp [go_sem, c0, d0, c1, d1, c2, d2]
        repeat refine ⟨by omega, ?_⟩
        refine hK _ ?_; clear hK K
        refine awp_forget [19] (by simp only [restr, List.contains_cons, List.contains_nil, Nat.reduceBEq, Bool.or_false, Bool.or_true, Bool.true_or, Bool.false_or, if_true, if_false, Bool.false_eq_true]; rfl) ?_
        refine awp_cond rfl (fun c3 => ?_) (fun c3 => ?_)
        · have d3 := c3; try simp at d3
          have hz : cmpI a b = 1 := by unfold cmpI; rw [if_neg (by omega), if_pos d3]
          refine awp_reg_seq fun K hK => ?_
          simp [go_sem, c0, d0, c1, d1, c2, d2, c3, d3]
          repeat refine ⟨by omega, ?_⟩
          refine hK _ ?_; clear hK K
          refine awp_ret ?_
          rw [hz]; simp [go_sem, Tryz.results67]
        · have d3 := c3; try simp at d3
          have hz : cmpI a b = 0 := by unfold cmpI; rw [if_neg (by omega), if_neg (by omega)]
          refine awp_skip ?_
          refine awp_reg_seq fun K hK => ?_
          simp [go_sem, c0, d0, c1, d1, c2, d2, c3, d3]
          repeat refine ⟨by omega, ?_⟩
          refine hK _ ?_; clear hK K
          refine awp_ret ?_
          rw [hz]; simp [go_sem, Tryz.results67]
theorem isNaN_str_cs (σ : List Blk) (a : ByteArray) : CSF Tryz.prog 77 [.d (Sb a)] σ (.d (B false)) := by
  refine CSF.of_body T.en77 Tryz.func77 rfl (by simp [Tryz.ntmps77]) (by simp [go_sem]) fun hwf => ?_
  refine awp_reg_seq fun K hK => ?_
  simp [go_sem, Tryz.ntmps77]
  repeat refine ⟨by omega, ?_⟩
  refine hK _ ?_; clear hK K
  refine awp_reg_seq fun K hK => ?_
  simp [go_sem]
  repeat refine ⟨by omega, ?_⟩
  refine hK _ ?_; clear hK K
  refine awp_ret ?_
  simp [go_sem, Tryz.results77] <;> omega
theorem cmp_str_cs (σ : List Blk) (a b : ByteArray) : CSF Tryz.prog 66 [.d (Sb a), .d (Sb b)] σ (.d (I (cmpS a b))) := by
  refine CSF.of_body T.en66 Tryz.func66 rfl (by simp [Tryz.ntmps66]) (by simp [go_sem]) fun hwf => ?_
  refine awp_reg_seq fun K hK => ?_
  simp [go_sem, Tryz.ntmps66]
  repeat refine ⟨by omega, ?_⟩
  refine hK _ ?_; clear hK K
  refine awp_reg_seq fun K hK => ?_
  simp [go_sem]
  repeat refine ⟨by omega, ?_⟩
  refine CSk.mk (isNaN_str_cs _ a) ?_
  simp [go_sem]
  repeat refine ⟨by omega, ?_⟩
  refine hK _ ?_; clear hK K
  refine awp_reg_seq fun K hK => ?_
  simp [go_sem]
  repeat refine ⟨by omega, ?_⟩
  refine CSk.mk (isNaN_str_cs _ b) ?_
  simp [go_sem]
  repeat refine ⟨by omega, ?_⟩
  refine hK _ ?_; clear hK K
  refine awp_seq ?_
  refine awp_reg_seq fun K hK => ?_
  simp [go_sem]
  repeat refine ⟨by omega, ?_⟩
  refine hK _ ?_; clear hK K
  refine awp_forget [0, 1, 6, 11] (by simp only [restr, List.contains_cons, List.contains_nil, Nat.reduceBEq, Bool.or_false, Bool.or_true, Bool.true_or, Bool.false_or, if_true, if_false, Bool.false_eq_true]; rfl) ?_
  refine awp_cond rfl (fun c0 => ?_) (fun c0 => ?_)
  · have d0 := c0; try simp at d0
  · have d0 := c0; try simp at d0
    refine awp_skip ?_
    refine awp_seq ?_
    refine awp_reg_seq fun K hK => ?_
    simp [go_sem, c0, d0]
    repeat refine ⟨by omega, ?_⟩
    refine hK _ ?_; clear hK K
    refine awp_forget [0, 1, 13] (by simp only [restr, List.contains_cons, List.contains_nil, Nat.reduceBEq, Bool.or_false, Bool.or_true, Bool.true_or, Bool.false_or, if_true, if_false, Bool.false_eq_true]; rfl) ?_
    refine awp_cond rfl (fun c1 => ?_) (fun c1 => ?_)
    · have d1 := c1; try simp at d1
    · have d1 := c1; try simp at d1
      refine awp_skip ?_
      refine awp_seq ?_
      refine awp_reg_seq fun K hK => ?_
      simp [go_sem, c0, d0, c1, d1]
      repeat refine ⟨by omega, ?_⟩
      refine hK _ ?_; clear hK K
      refine awp_forget [0, 1, 16] (by simp only [restr, List.contains_cons, List.contains_nil, Nat.reduceBEq, Bool.or_false, Bool.or_true, Bool.true_or, Bool.false_or, if_true, if_false, Bool.false_eq_true]; rfl) ?_
      refine awp_cond rfl (fun c2 => ?_) (fun c2 => ?_)
      · have d2 := c2; try simp at d2
        have hz : cmpS a b = -1 := by unfold cmpS ltS; rw [if_pos (by simpa using c2)]
        refine awp_reg_seq fun K hK => ?_
        simp [go_sem, c0, d0, c1, d1, c2, d2]
        repeat refine ⟨by omega, ?_⟩
        refine hK _ ?_; clear hK K
        refine awp_ret ?_
        rw [hz]; simp [go_sem, Tryz.results66]
      · have d2 := c2; try simp at d2
        refine awp_skip ?_
        refine awp_seq ?_
        refine awp_reg_seq fun K hK => ?_
        simp [go_sem, c0, d0, c1, d1, c2, d2]
        repeat refine ⟨by omega, ?_⟩
        refine hK _ ?_; clear hK K
        refine awp_forget [19] (by simp only [restr, List.contains_cons, List.contains_nil, Nat.reduceBEq, Bool.or_false, Bool.or_true, Bool.true_or, Bool.false_or, if_true, if_false, Bool.false_eq_true]; rfl) ?_
        refine awp_cond rfl (fun c3 => ?_) (fun c3 => ?_)
        · have d3 := c3; try simp at d3
          have hz : cmpS a b = 1 := by
            unfold cmpS ltS; rw [if_neg (by simpa using c2), if_pos (by simp at c2 c3 ⊢; exact ⟨c2, c3⟩)]
          refine awp_reg_seq fun K hK => ?_
          simp [go_sem, c0, d0, c1, d1, c2, d2, c3, d3]
          repeat refine ⟨by omega, ?_⟩
          refine hK _ ?_; clear hK K
          refine awp_ret ?_
          rw [hz]; simp [go_sem, Tryz.results66]
        · have d3 := c3; try simp at d3
          have hz : cmpS a b = 0 := by
            unfold cmpS ltS; rw [if_neg (by simpa using c2), if_neg (by simp at c2 c3 ⊢; exact fun _ => c3)]
          refine awp_skip ?_
          refine awp_reg_seq fun K hK => ?_
          simp [go_sem, c0, d0, c1, d1, c2, d2, c3, d3]
          repeat refine ⟨by omega, ?_⟩
          refine hK _ ?_; clear hK K
          refine awp_ret ?_
          rw [hz]; simp [go_sem, Tryz.results66]
theorem cmp_Or_cs (σ : List Blk) (c : Option Nat) (n : Nat) (g : Nat → Int) (hn : n < 1000000000) : CSF Tryz.prog 65 [.d (SL c 1 encI n g)] σ (.d (I (firstE g 0 n))) := by
  refine CSF.of_body T.en65 Tryz.func65 rfl (by simp [Tryz.ntmps65]) (by simp [go_sem]) fun hwf => ?_
  refine awp_reg_seq fun K hK => ?_
  simp [go_sem, Tryz.ntmps65]
  repeat refine ⟨by omega, ?_⟩
  refine hK _ ?_; clear hK K
  refine awp_reg_seq fun K hK => ?_
  simp [go_sem]
  repeat refine ⟨by omega, ?_⟩
  refine hK _ ?_; clear hK K
  refine awp_seq ?_
  refine awp_reg_seq fun K hK => ?_
  simp [go_sem]
  repeat refine ⟨by omega, ?_⟩
  refine hK _ ?_; clear hK K
  refine awp_block ?_
  refine awp_forget [3, 6, 7, 8] (by simp [go_sem, restr]; rfl) ?_
  refine awp_loopU (α := Nat) (fun i => [(8, .d (I i))]) (fun i => _) (fun i => i ≤ n ∧ firstE g 0 n = firstE g i (n - i)) (fun i => n - i) 0 (by simp [go_sem]) (rfl) (⟨Nat.zero_le _, rfl⟩) ?_
  rintro i ⟨hi, hx⟩
  refine awp_reg_seq fun K hK => ?_
  simp [go_sem]
  repeat refine ⟨by omega, ?_⟩
  refine hK _ ?_; clear hK K
  refine awp_seq ?_
  refine awp_forget [3, 6, 7, 8, 9] (by simp only [restr, List.contains_cons, List.contains_nil, Nat.reduceBEq, Bool.or_false, Bool.or_true, Bool.true_or, Bool.false_or, if_true, if_false, Bool.false_eq_true]; rfl) ?_
  refine awp_cond rfl (fun c0 => ?_) (fun c0 => ?_)
  · have d0 := c0; try simp at d0
    have hst : firstE g i (n - i) = if g i ≠ 0 then g i else firstE g (i + 1) (n - (i + 1)) := by rw [show n - i = (n - (i + 1)) + 1 by omega, firstE]
    refine awp_skip ?_
    refine awp_seq ?_
    refine awp_block ?_
    refine awp_reg_seq fun K hK => ?_
    simp [go_sem, c0, d0]
    repeat refine ⟨by omega, ?_⟩
    refine hK _ ?_; clear hK K
    refine awp_reg_seq fun K hK => ?_
    simp [go_sem, c0, d0]
    repeat refine ⟨by omega, ?_⟩
    refine hK _ ?_; clear hK K
    refine awp_forget [3, 5, 6, 7, 8, 14] (by simp only [restr, List.contains_cons, List.contains_nil, Nat.reduceBEq, Bool.or_false, Bool.or_true, Bool.true_or, Bool.false_or, if_true, if_false, Bool.false_eq_true]; rfl) ?_
    refine awp_cond rfl (fun c1 => ?_) (fun c1 => ?_)
    · have d1 := c1; try simp at d1
      have hz : firstE g 0 n = g i := by rw [hx, hst, if_pos (by simpa using d1)]
      refine awp_reg_seq fun K hK => ?_
      simp [go_sem, c0, d0, c1, d1]
      repeat refine ⟨by omega, ?_⟩
      refine hK _ ?_; clear hK K
      refine awp_ret ?_
      rw [hz]; simp [go_sem, Tryz.results65]
    · have d1 := c1; try simp at d1
      refine awp_skip ?_
      refine awp_reg_end fun K hK => ?_
      simp [go_sem, c0, d0, c1, d1]
      try simp (disch := omega) only [wrapI]
      repeat refine ⟨by omega, ?_⟩
      refine hK _ ?_; clear hK K
      refine ⟨i + 1, back_of' (by simp) (.refl _) (by (simp [go_sem, wrap_succ (i := i) (by omega), c0, d0, c1, d1] <;> omega)), ⟨by omega, by rw [hx, hst, if_neg (by simp [d1])]⟩, by first | omega | (dsimp only; omega)⟩
  · have d0 := c0; try simp at d0
    have hz : firstE g 0 n = 0 := by rw [hx, show n - i = 0 by omega]; rfl
    refine awp_exit ?_
    refine awp_reg_seq fun K hK => ?_
    simp [go_sem, c0, d0]
    repeat refine ⟨by omega, ?_⟩
    refine hK _ ?_; clear hK K
    refine awp_ret ?_
    rw [hz]; simp [go_sem, Tryz.results65]
theorem drawn_key_cs (σ : List Blk) (ID rd u : Nat) (h1 : ID ≤ 1073741824) (h2 : rd ≤ 1073741824) (h3 : u ≤ 1073741824) (hσ : σ[0]? = some (.tab 0 powV)) : CSF Tryz.prog 60 [.d (I u), .el [I ID], .el [I rd]] σ (.d (Sb (keyS ID rd u))) := by
  have s1 := itoS_size h1
  have s2 := itoS_size h2
  have s3 := itoS_size h3
  have ht : itoS ID ++ ⟨#[32]⟩ ++ itoS rd ++ ⟨#[32]⟩ ++ itoS u = textS ID rd u := rfl
  refine CSF.of_body T.en60 Tryz.func60 rfl (by simp [Tryz.ntmps60]) (by simp [go_sem]) fun hwf => ?_
  refine awp_reg_seq fun K hK => ?_
  simp [go_sem, Tryz.ntmps60, ByteArray.size_append, sp_size, ht]
  repeat refine ⟨by omega, ?_⟩
  refine hK _ ?_; clear hK K
  refine awp_draw_seq 12 T.mixed (by kernel_rfl) fun K hK => ?_
  simp [go_sem, ByteArray.size_append, sp_size, ht]
  try simp (disch := omega) only [wrapI]
  repeat refine ⟨by omega, ?_⟩
  refine CSg.mk (itoa_cs _ ID h1 hσ) ?_
  simp [go_sem, ByteArray.size_append, sp_size, ht]
  try simp (disch := omega) only [wrapI]
  repeat refine ⟨by omega, ?_⟩
  refine CSg.mk (itoa_cs _ rd h2 hσ) ?_
  simp [go_sem, ByteArray.size_append, sp_size, ht]
  try simp (disch := omega) only [wrapI]
  repeat refine ⟨by omega, ?_⟩
  refine CSg.mk (itoa_cs _ u h3 hσ) ?_
  simp [go_sem, ByteArray.size_append, sp_size, ht]
  try simp (disch := omega) only [wrapI]
  repeat refine ⟨by omega, ?_⟩
  refine CSg.mk (digest_Sum_cs _ (textS ID rd u) (textS_size h1 h2 h3)) ?_
  simp [go_sem, ByteArray.size_append, sp_size, ht]
  try simp (disch := omega) only [wrapI]
  repeat refine ⟨by omega, ?_⟩
  refine hK _ ?_; clear hK K
  refine awp_ret ?_
  simp [go_sem, Tryz.results60, keyS, ByteArray.size_append, sp_size, ht] <;> omega
theorem drawn_cmp_cs (σ : List Blk) (ID rd x y : Nat) (pB pR : Value) (hx : CSF Tryz.prog 60 [.d (I x), .d (.v pB), .d (.v pR)] σ (.d (Sb (keyS ID rd x)))) (hy : CSF Tryz.prog 60 [.d (I y), .d (.v pB), .d (.v pR)] σ (.d (Sb (keyS ID rd y)))) : CSF Tryz.prog 64 [.d (I x), .d (I y), .el [.v (.func (.func 60) #[] #[pB, pR])]] σ (.d (I (ordU ID rd x y))) := by
  refine CSF.of_body T.en64 Tryz.func64 rfl (by simp [Tryz.ntmps64]) (by simp [go_sem]) fun hwf => ?_
  refine awp_reg_seq fun K hK => ?_
  simp [go_sem, Tryz.ntmps64]
  repeat refine ⟨by omega, ?_⟩
  refine hK _ ?_; clear hK K
  refine awp_draw_seq 12 T.mixed (by kernel_rfl) fun K hK => ?_
  simp [go_sem]
  repeat refine ⟨by omega, ?_⟩
  refine CSg.mk (hx) ?_
  simp [go_sem]
  repeat refine ⟨by omega, ?_⟩
  refine CSg.mk (hy) ?_
  simp [go_sem]
  repeat refine ⟨by omega, ?_⟩
  refine CSg.mk (cmp_str_cs _ (keyS ID rd x) (keyS ID rd y)) ?_
  simp [go_sem]
  repeat refine ⟨by omega, ?_⟩
  refine CSg.mk (cmp_int_cs _ x y) ?_
  simp [go_sem]
  repeat refine ⟨by omega, ?_⟩
  refine CSg.mk ((cmp_Or_cs _ none 2 (fun i => if i = 0 then cmpS (keyS ID rd x) (keyS ID rd y) else cmpI x y) (by omega)).sub (by simp [go_sem, sameL, sameE, sameL0, Go.Abs.sameA] <;> (intro i hi; obtain rfl | rfl : i = 0 ∨ i = 1 := (by omega); all_goals rfl))) ?_
  simp [go_sem]
  repeat refine ⟨by omega, ?_⟩
  refine hK _ ?_; clear hK K
  refine awp_ret ?_
  have hz : firstE (fun i => if i = 0 then cmpS (keyS ID rd x) (keyS ID rd y) else cmpI x y) 0 2 = ordU ID rd x y := by
    simp only [firstE, ordU]; by_cases h1 : cmpS (keyS ID rd x) (keyS ID rd y) = 0 <;> by_cases h2 : cmpI x y = 0 <;> simp [h1, h2]
  simp [go_sem, Tryz.results64, hz]
end Go.Proofs.YtldnolgijfkfpaaGreatDoor

/-! Adr -/
namespace Go.Abs
open Go
set_option linter.unusedVariables false
set_option linter.unusedSimpArgs false
theorem ask_drawn {α : Type} : ∀ (x : Ask α) (w : World), w.drawn ≤ (w.ask x).2.drawn
  | .done a, w => Nat.le_refl _
  | .ask what range k, w => by
    unfold World.ask
    simp only []
    split
    · exact ask_drawn (k 0) w
    · have := ask_drawn (k ((Question.extern what range).cut (w.tape w.drawn (Question.extern what range)))) { w with drawn := w.drawn + 1 }
      simp only at this
      omega
theorem sys_drawn (w : World) (c : Sys) : w.drawn ≤ (w.sys c).2.drawn := by
  have h := ask_drawn (Kernel.perform c w.os) w
  unfold World.sys
  generalize w.ask (Kernel.perform c w.os) = r at *
  obtain ⟨⟨a, os⟩, w'⟩ := r
  cases a <;> first | exact Nat.le_refl _ | exact h
theorem viewStore_drawn {p : Program} {w w' : World} {at_ : Addr} {u : TypeId} {k : Addr} {v : Value} {a : Bool} {l : List Addr} (h : w.viewStore p at_ u k v a = .ok (w', l)) : w'.drawn = w.drawn := by
  unfold World.viewStore at h
  simp only [bind, Except.bind, pure, Except.pure, throw, throwThe, MonadExceptOf.throw] at h
  repeat' first
    | (cases h; done)
    | (simp only [Except.ok.injEq, Prod.mk.injEq] at h; obtain ⟨rfl, _⟩ := h; rfl)
    | split at h
theorem farStore_drawn {p : Program} {w w' : World} {a : Addr} {v : Value} {b : Bool} {l : List Addr} (h : w.farStore p a v b = .ok (w', l)) : w'.drawn = w.drawn := by
  unfold World.farStore at h
  split at h
  · split at h
    · rename_i r hr
      simp only [Except.ok.injEq] at h
      subst h
      exact viewStore_drawn hr
    · cases h
  · cases h
def dOf {α : Type} : Result α → Nat
  | .ok _ w => w.drawn
  | .halt _ w => w.drawn
theorem run_drawn {α : Type} (p : Program) (e : Sem α) : ∀ w : World, w.drawn ≤ dOf (e.run p w) := by
  induction e with
  | pure a => intro w; exact Nat.le_refl _
  | load m a k ih =>
    intro w
    simp only [Sem.run]
    split
    · exact ih _ w
    · split
      · exact ih _ w
      · exact Nat.le_refl _
  | store m a v k ih =>
    intro w
    have fin : w.drawn ≤ dOf (match w.cell? a with
        | some _ => if w.frozen? a then .halt (.unsupported (.unsafePointer "a write to bytes that a string shares")) w else k.run p (w.setCell a v)
        | none => match w.farStore p a v (m == .atomic) with
          | .ok (w, _) => k.run p w
          | .error h => .halt h w) := by
      split
      · split
        · exact Nat.le_refl _
        · exact ih (w.setCell a v)
      · split
        · rename_i w1 l1 hf
          rw [← farStore_drawn hf]; exact ih w1
        · exact Nat.le_refl _
    cases v <;> simp only [Sem.run] <;> first | exact Nat.le_refl _ | exact fin
  | new o k ih => intro w; exact ih w.heap.size { w with heap := w.heap.push o }
  | shape r k ih => intro w; unfold Sem.run; exact ih _ _
  | freeze a n k ih =>
    intro w; unfold Sem.run
    have := ih (w.freeze a n)
    have e1 : (w.freeze a n).drawn = w.drawn := by unfold World.freeze; split <;> rfl
    omega
  | frozen a k ih => intro w; unfold Sem.run; exact ih _ _
  | getObj r k ih =>
    intro w; unfold Sem.run
    split
    · exact Nat.le_refl _
    · exact ih _ _
    · exact Nat.le_refl _
  | setObj r o k ih =>
    intro w; unfold Sem.run
    split
    · exact Nat.le_refl _
    · exact ih { w with heap := w.heap.setIfInBounds r o }
    · exact Nat.le_refl _
  | choose q k ih =>
    intro w; unfold Sem.run
    split
    · exact ih _ _
    · have := ih (q.cut (w.tape w.drawn q)) { w with drawn := w.drawn + 1 }
      simp only at this
      omega
  | sys c k ih =>
    intro w; unfold Sem.run
    exact Nat.le_trans (sys_drawn w c) (ih _ _)
  | program k ih => intro w; unfold Sem.run; exact ih _ _
  | mark m k ih => intro w; unfold Sem.run; exact ih _
  | halt h => intro w; exact Nat.le_refl _
def gd (n : Nat) : GStep → Prop
  | .go _ w _ | .comm _ _ _ _ w _ | .spawn _ _ w _ | .count _ w _ | .timer _ _ w _ | .alone _ _ w _ | .newcoro _ _ _ w _ | .coroswitch _ _ _ w _ | .collect _ w _ | .watch _ w _ => n ≤ w.drawn
  | .ended .. => True
theorem gd_after {n : Nat} {es : Array Event} {s : GStep} (h : gd n s) : gd n (GStep.after es s) := by cases s <;> exact h
theorem gd_dieOf {n : Nat} {fr : Frame} {l : List ByteArray} {m : String} {b : Bool} {w : World} (h : n ≤ w.drawn) : gd n (dieOf fr l m b w) := h
theorem gd_endThrow {n : Nat} {fr : Frame} {m : String} {w : World} (h : n ≤ w.drawn) : gd n (endThrow fr m w) := h
theorem gd_endPrinting {n : Nat} {p : Program} {fr : Frame} {v : Value} {w : World} (h : n ≤ w.drawn) : gd n (endPrinting p fr v w) := by
  unfold endPrinting; simp only []; split
  · exact h
  · trivial
theorem gd_endWith {n : Nat} {w : World} {fd : Nat} {t : ByteArray} {o : Outcome} : gd n (endWith w fd t o) := by
  unfold endWith; simp only []
  split
  · split <;> trivial
  · trivial
  · trivial
theorem run_le {α : Type} {p : Program} {e : Sem α} {w : World} {r : Result α} (h : e.run p w = r) {n : Nat} (hn : n ≤ w.drawn) : n ≤ dOf r := by
  subst h; exact Nat.le_trans hn (run_drawn p e w)
theorem gd_endFatal {n : Nat} {p : Program} {fr : Frame} {cs : List Frame} {d : Option Dying} {m : String} {w : World} (h : n ≤ w.drawn) : gd n (endFatal p fr cs d m w) := by
  unfold endFatal; simp only []
  split
  · rename_i heq; exact gd_dieOf (run_le heq h)
  · trivial
  · trivial
theorem gd_writeOn {n : Nat} {p : Program} {fr : Frame} {d : Dying} {f : Fatal} {w : World} (h : n ≤ w.drawn) : gd n (writeOn p fr d f w) := by
  unfold writeOn; simp only []
  split
  · trivial
  · simp only [Sem.runT_eq]
    split
    · rename_i heq; simp only [Prod.mk.injEq] at heq; exact run_le heq.1 h
    · rename_i heq; simp only [Prod.mk.injEq] at heq; exact run_le heq.1 h
    · trivial
    · trivial
theorem gd_die {n : Nat} {p : Program} {fr : Frame} {d : Dying} {w : World} (h : n ≤ w.drawn) : gd n (die p fr d w) := by
  unfold die
  split
  · exact gd_writeOn h
  · split
    · split
      · exact h
      · exact gd_endWith
    · simp only []
      split
      · exact h
      · split
        · rename_i heq; exact run_le heq h
        · trivial
      · simp only [Sem.runT_eq]
        refine gd_after ?_
        split
        · rename_i heq; exact run_le heq h
        · rename_i heq; exact run_le heq h
        · trivial
        · rename_i heq; exact gd_endPrinting (run_le heq h)
        · trivial
      · trivial
theorem gd_doReturn {n : Nat} {p : Program} {main : Bool} {fr : Frame} {cs : List Frame} {d : Option Dying} {v : Value} {w : World} (h : n ≤ w.drawn) : gd n (doReturn p main fr cs d v w) := by
  unfold doReturn
  repeat' first
    | exact h
    | trivial
    | split
theorem gd_ite {n : Nat} {c : Prop} [Decidable c] {a b : GStep} (h1 : gd n a) (h2 : gd n b) : gd n (if c then a else b) := by
  by_cases h : c
  · rw [if_pos h]; exact h1
  · rw [if_neg h]; exact h2
theorem gd_callDeferred {n : Nat} {p : Program} {fr : Frame} {cs : List Frame} {dy : Option Dying} {d : Deferred} {w : World} (h : n ≤ w.drawn) : gd n (callDeferred p fr cs dy d w) := by
  unfold callDeferred
  refine gd_ite trivial ?_
  simp only [Sem.runT_eq]
  refine gd_after ?_
  have hr : n ≤ dOf ((invoke d.target d.args).run p w) := Nat.le_trans h (run_drawn p _ w)
  generalize (invoke d.target d.args).run p w = r at *
  cases r with
  | ok a w1 =>
    cases a with
    | coroswitch c ex => cases ex <;> first | exact hr | trivial
    | alone on v => cases on <;> first | exact hr | trivial
    | _ =>
      (try simp only []) <;> (repeat' first
        | exact hr
        | trivial
        | split)
  | halt a w1 =>
    cases a <;> (try simp only []) <;> (repeat' first
      | exact hr
      | trivial
      | exact gd_endFatal hr
      | exact gd_endThrow hr
      | split)
theorem gd_unwind {n : Nat} {p : Program} {main : Bool} {fr : Frame} {cs : List Frame} {d : Option Dying} {w : World} (h : n ≤ w.drawn) : gd n (unwind p main fr cs d w) := by
  unfold unwind
  split
  · simp only [Sem.runT_eq]
    refine gd_after ?_
    split
    · rename_i heq; exact run_le heq h
    · trivial
  · exact gd_callDeferred h
  · split
    · trivial
    · split
      · trivial
      · split
        · exact h
        · split
          · split
            · exact h
            · split
              · rename_i heq; exact run_le heq h
              · trivial
              · trivial
          · split
            · exact gd_endPrinting h
            · trivial
    · split
      · exact gd_doReturn h
      · simp only [Sem.runT_eq]
        refine gd_after ?_
        split
        · rename_i heq; exact gd_doReturn (run_le heq h)
        · trivial
        · trivial
theorem gd_early {n : Nat} {p : Program} {fr : Frame} {cs : List Frame} {d : Option Dying} {g : Nat} {w : World} (h : n ≤ w.drawn) : gd n (early p fr cs d g w) := by
  have ny : ∀ w : World, n ≤ w.drawn → gd n (match w.heap[g]? with
    | some (.pending c elem) => .go { frame := fr, callers := cs, status := .running, dying := d } { w with heap := w.heap.setIfInBounds g (.cells c elem) }
    | _ => .ended (.stuck "early: the variable does not wait" (fr.pos p)) w) := by
    intro w hw; split
    · exact hw
    · trivial
  unfold early
  simp only []
  repeat' first
    | exact h
    | trivial
    | exact ny w h
    | (rename_i heq; exact ny _ (run_le heq h))
    | (rename_i heq; exact run_le heq h)
    | split
theorem gd_apply {n : Nat} {p : Program} {b : Bool} {fr : Frame} {cs : List Frame} {dy : Option Dying} {s : Sem Next} {w : World} (h : n ≤ w.drawn) : gd n (stepG.apply p b fr cs dy s w) := by
  unfold stepG.apply
  have e : (if b = true then s.runT p w #[] else (s.run p w, #[])) = (s.run p w, if b = true then s.events p w #[] else #[]) := by
    split <;> simp [Sem.runT_eq]
  simp only [e]
  refine gd_after ?_
  have hr : n ≤ dOf (s.run p w) := Nat.le_trans h (run_drawn p _ w)
  generalize s.run p w = r at *
  cases r with
  | ok a w1 =>
    cases a <;> (try simp only []) <;> (repeat' first
      | exact hr
      | trivial
      | exact gd_endThrow hr
      | split)
  | halt a w1 =>
    cases a with
    | unsupported u =>
      cases u <;> (try simp only []) <;> first | exact gd_early hr | trivial
    | _ =>
      first
        | exact hr
        | trivial
        | exact gd_endFatal hr
        | exact gd_endThrow hr
theorem gd_elim {n : Nat} {β : Type} {o : Option β} {a : GStep} {f : β → GStep} (h1 : gd n a) (h2 : ∀ x, gd n (f x)) : gd n (o.elim a f) := by
  cases o with
  | none => exact h1
  | some x => exact h2 x
theorem gd_oper {n : Nat} {p : Program} {b : Bool} {fr : Frame} {cs : List Frame} {dy : Option Dying} {w : World} (h : n ≤ w.drawn) : gd n (stepG.oper p b fr cs dy w) := by
  unfold stepG.oper
  split
  · trivial
  · split <;> exact gd_apply h
theorem gd_exec {n : Nat} {p : Program} {main b : Bool} {fr : Frame} {cs : List Frame} {dy : Option Dying} {w : World} (h : n ≤ w.drawn) : gd n (stepG.exec p main b fr cs dy w) := by
  have leave : ∀ jump : Option Code, gd n (match fr.roundOf with
      | none => if (jump matches none | some .ret) then GStep.go { frame := { fr with mode := .returning }, callers := cs, status := .running, dying := dy } w else GStep.ended (.stuck "exit, goto: no such block or label" (fr.pos p)) w
      | some l =>
        GStep.after (seen p fr.fn ((Instr.endRound l jump).events p w #[])) (match (Instr.endRound l jump).run p w with
        | .ok v w => doReturn p main fr cs dy v w
        | .halt _ w => GStep.ended (.stuck "range over a function: no such loop" (fr.pos p)) w)) := by
    intro jump
    split
    · exact gd_ite h trivial
    · refine gd_after ?_
      split
      · rename_i heq; exact gd_doReturn (run_le heq h)
      · trivial
  unfold stepG.exec
  simp only [Sem.runT_eq]
  repeat' first
    | exact h
    | trivial
    | exact leave _
    | exact gd_oper h
    | (refine gd_apply ?_)
    | (refine gd_doReturn ?_)
    | (refine gd_after ?_)
    | (refine gd_elim ?_ fun _ => ?_)
    | (rename_i heq; exact run_le heq h)
    | split
theorem gd_stepG {n : Nat} {p : Program} {main b : Bool} {g : Goroutine} {w : World} (h : n ≤ w.drawn) : gd n (stepG p main g w b) := by
  unfold stepG
  simp only []
  split
  · exact gd_die h
  · exact gd_exec h
  · exact gd_unwind h
def sd (n : Nat) : Stepped → Prop
  | .next m => n ≤ m.world.drawn
  | .ended .. => True
theorem waiting_drawn {rest : Go.Rest} {cs : Array CommCase} {w w' : World} (h : waitingAt rest cs w = some w') : w'.drawn = w.drawn := by
  unfold waitingAt at h
  split at h
  · split at h
    · simp only [Option.some.injEq] at h; subst h; rfl
    · cases h
  · simp only [Option.some.injEq] at h; subst h; rfl
theorem sd_communicate {n : Nat} {p : Program} {rest : Go.Rest} {gs : Array Goroutine} {i : Nat} {g : Goroutine} {cs : Array CommCase} {b : Bool} {sh : CommShape} {w : World} (h : n ≤ w.drawn) : sd n (communicate p rest gs i g cs b sh w).1 := by
  unfold communicate
  simp only []
  repeat' first
    | trivial
    | (show n ≤ World.drawn _; assumption)
    | (show n ≤ World.drawn _; rename_i heq; rw [waiting_drawn heq]; assumption)
    | (rename_i heq; have hle := run_le heq (by assumption); clear heq; simp only [dOf] at hle)
    | split
theorem sd_look {n : Nat} {p : Program} {rest : Go.Rest} {gs : Array Goroutine} {w : World} (h : n ≤ w.drawn) : sd n (look p gs rest w) := by
  unfold look
  simp only []
  repeat' first
    | exact h
    | trivial
    | (rename_i heq; exact run_le heq h)
    | split
theorem drain_drawn (w : World) (c : Nat) : (drain w c).2.drawn = w.drawn := by unfold drain; split <;> rfl
theorem retime_drawn (m : Machine) (k : Nat) (t : Timer) (a b : Nat) : (retime m k t a b).2.world.drawn = m.world.drawn := by
  unfold retime
  cases t.chan with
  | none => rfl
  | some c => simp only []; exact drain_drawn m.world c
theorem named_drawn {m m' : Machine} {var : Addr} {f : Nat → Timer → Value × Machine} {v : Value} {d : Nat} (hf : ∀ k t, (f k t).2.world.drawn = d) (h : timerOp.named m var f = .ok (v, m')) : m'.world.drawn = d := by
  unfold timerOp.named at h
  split at h
  · rename_i k hk
    simp only [Except.ok.injEq] at h
    have := hf k (m.rest.timers.getD k default)
    rw [h] at this; exact this
  · cases h
theorem opened_drawn {m m1 : Machine} {var : Addr} (h : timerOp.opened m var = some m1) : m1.world.drawn = m.world.drawn := by
  unfold timerOp.opened at h
  split at h
  · split at h
    · simp only [Option.some.injEq] at h; subst h; rfl
    · cases h
  · simp only [Option.some.injEq] at h; subst h; rfl
theorem timer_drawn {m m' : Machine} {op : TimerOp} {v : Value} (h : timerOp m op = .ok (v, m')) : m'.world.drawn = m.world.drawn := by
  unfold timerOp at h
  simp only [] at h
  repeat' first
    | (cases h; done)
    | (simp only [Except.ok.injEq, Prod.mk.injEq] at h; obtain ⟨_, rfl⟩ := h; rfl)
    | exact named_drawn (fun k t => retime_drawn _ _ _ _ _) h
    | (rename_i heq; have := named_drawn (fun k t => retime_drawn _ _ _ _ _) h; rw [opened_drawn heq] at this; exact this)
    | split at h
theorem sd_runT {n : Nat} {p : Program} {m : Machine} {i : Nat} {b : Bool} (h : n ≤ m.world.drawn) : sd n (runT p m i b).1 := by
  simp only [runT]
  generalize m.gs.swapAt! i { (default : Goroutine) with status := .finished } = gg
  have hg := gd_stepG (n := n) (p := p) (main := i == 0) (b := b) (g := gg.1) h
  generalize stepG p (i == 0) gg.1 m.world b = s at *
  cases s with
  | comm g cs bl sh w es => exact sd_communicate hg
  | collect g w es => exact sd_look hg
  | timer g op w es =>
    simp only []
    split
    · rename_i heq; show n ≤ World.drawn _; rw [timer_drawn heq]; exact hg
    · exact hg
    · trivial
    · trivial
  | coroswitch g c ex w es =>
    simp only []
    split
    · exact hg
    · exact hg
    · trivial
  | count g w es =>
    simp only []
    split
    · trivial
    · exact hg
  | ended o w es => trivial
  | _ => exact hg
theorem sd_serve {n : Nat} {p : Program} {m : Machine} {k : Nat} (h : n ≤ m.world.drawn) : sd n (serve p m k) := by
  unfold serve
  simp only []
  repeat' first
    | exact h
    | trivial
    | split
def md (n : Nat) : Move → Prop
  | .goroutine m _ => n ≤ m.world.drawn
  | .machine s _ => sd n s
theorem md_askOn {n : Nat} {p : Program} {m : Machine} (h : n ≤ m.world.drawn) : md n (askOn p m) := by
  unfold askOn
  simp only []
  repeat' first
    | trivial
    | (show n ≤ World.drawn _; assumption)
    | exact sd_serve (by assumption)
    | (rename_i heq; have hle := run_le heq (by assumption); clear heq; simp only [dOf] at hle)
    | split
theorem md_ask {n : Nat} {p : Program} {m : Machine} (h : n ≤ m.world.drawn) : md n (ask p m) := by
  unfold ask
  split
  · split
    · trivial
    · rename_i w heq
      have hl := sd_look (p := p) (rest := m.rest) (gs := m.gs) (run_le heq h)
      split
      · rename_i m1 hm
        rw [hm] at hl
        exact md_askOn hl
      · rename_i e he
        exact hl
    · rename_i w1 hne heq
      first | exact md_askOn (run_le heq h) | exact md_askOn (run_le hne h)
  · exact md_askOn h
theorem md_move {n : Nat} {p : Program} {m : Machine} (h : n ≤ m.world.drawn) : md n (move p m) := by
  unfold move
  split
  · split
    · exact h
    · trivial
  · split
    · split
      · exact h
      · exact md_ask h
    · exact md_ask h
theorem step_drawn {p : Program} {m m' : Machine} (h : step p m = .next m') : m.world.drawn ≤ m'.world.drawn := by
  have hm := md_move (p := p) (Nat.le_refl m.world.drawn)
  unfold step stepT at h
  generalize move p m = mv at *
  cases mv with
  | goroutine m1 i =>
    have := sd_runT (p := p) (i := i) (b := true) hm
    simp only [] at h
    rw [h] at this
    exact this
  | machine s ops =>
    simp only [] at h
    have hm : sd _ s := hm
    rw [h] at hm
    exact hm
theorem steps_drawn {p : Program} {m m' : Machine} (h : Steps p m m') : m.world.drawn ≤ m'.world.drawn := by
  obtain ⟨k, hk⟩ := h
  induction k generalizing m with
  | zero => simp only [runN, Stepped.next.injEq] at hk; subst hk; exact Nat.le_refl _
  | succ k ih =>
    simp only [runN] at hk
    split at hk
    · rename_i m1 h1
      exact Nat.le_trans (step_drawn h1) (ih hk)
    · rename_i h1
      exact absurd hk (h1 m')
theorem calls_drawn {p : Program} {f : FuncId} {args : Array Value} {w : World} {v : Value} {Q : World → Prop} (h : Calls p f args w fun e w' => e = .returned v ∧ Q w') : Calls p f args w fun e w' => e = .returned v ∧ Q w' ∧ w.drawn ≤ w'.drawn := by
  intro cs
  obtain ⟨e, w', fr, ⟨rfl, hQ⟩, h2, h3⟩ := h cs
  exact ⟨_, w', fr, ⟨rfl, hQ, steps_drawn (show Steps p _ _ from h2)⟩, h2, h3⟩
end Go.Abs

/-! Azx -/
namespace Go.Abs
set_option linter.unusedVariables false
set_option linter.unusedSimpArgs false
open Go.Sort
theorem grown_of {w w' : World} (h1 : w'.os = w.os) (h2 : w'.tape = w.tape) (h3 : w'.output = w.output) (hs : w.heap.size ≤ w'.heap.size) (hb : ∀ k, k < w.heap.size → w'.heap[k]? = w.heap[k]?) (hd : w.drawn ≤ w'.drawn) : ∃ q os, w' = grow (w.drewN q) os := by
  refine ⟨w'.drawn - w.drawn, w'.heap.extract w.heap.size w'.heap.size, ?_⟩
  have eh : w'.heap = w.heap ++ w'.heap.extract w.heap.size w'.heap.size := by
    apply Array.ext_getElem?
    intro k
    by_cases hk : k < w.heap.size
    · rw [Array.getElem?_append_left hk]; exact hb k hk
    · rw [Array.getElem?_append_right (by omega), Array.getElem?_extract]
      by_cases hk2 : k < w'.heap.size
      · rw [if_pos (by omega)]; congr 1; omega
      · rw [if_neg (by omega), Array.getElem?_eq_none (by omega)]
  have ed : w'.drawn = w.drawn + (w'.drawn - w.drawn) := by omega
  obtain ⟨heap', tape', drawn', os', output'⟩ := w'
  simp only at h1 h2 h3 eh ed
  subst h1 h2 h3
  unfold grow World.drewN
  simp only
  congr 1
theorem CSF.grows {P : Program} {f : FuncId} {args : List AV} {σ : List Blk} {x : Value} {vs : Array Value} {j : Js} {w : World} (h : CSF P f args σ (.d (.v x))) (hj : ∀ b : Nat, some b ∉ j) (hS : RelS w j σ) (hr : Rs w j args vs) :
    Calls P f vs w fun e w' => e = .returned x ∧ ∃ q os, w' = grow (w.drewN q) os := by
  have h1 : Calls P f vs w fun e w' => e = .returned x ∧ ∃ j', Ev j w j' w' := (h.2 j w vs hS hr).mono fun e w' ⟨v, r, σ', j', X, he, g1, g2, g3, g4, g5, g6⟩ => by
    obtain ⟨rfl, _⟩ := g6
    exact ⟨by rw [he, R_v g2], j', g3⟩
  refine (calls_drawn h1).mono ?_
  rintro e w' ⟨rfl, ⟨j', hE⟩, hd⟩
  exact ⟨rfl, grown_of hE.os hE.tape hE.output hE.size (fun k hk => hE.keep k hk (hj k)) hd⟩
section
variable {α : Type} [Inhabited α] {enc : α → Value}
theorem heap_sort1 {w : World} {cb : Nat} {C : Array Value} {e : TypeId} {f : Nat × Nat} (hC : w.heap[cb]? = some (.cells C e f)) (m : Nat) (d : Array α) (os : Array Obj) {c : Nat} (hc : c < w.heap.size) :
    (grow (putRow enc (Go.Sort.ahead w m) cb 0 d) os).heap[c]? = if c = cb then some (.cells (putCells enc 0 d C) e f) else w.heap[c]? := by
  unfold grow putRow mapBlock
  simp only
  rw [Array.getElem?_append_left (by simpa [Go.Sort.ahead] using hc), Array.getElem?_modify]
  have e0 : (Go.Sort.ahead w m).heap = w.heap := rfl
  rw [e0]
  by_cases hb : c = cb
  · subst hb; simp [hC, onCells]
  · simp [hb, Ne.symm hb]
theorem sort1_rel {w : World} {j : Js} {σ : List Blk} (hS : RelS w j σ) {b cb n : Nat} {row : Nat → List D} (hj : j[b]? = some (some cb)) (hb : σ[b]? = some (.arr 1 n row)) (d : Array α) (hk : d.size ≤ n) (m : Nat) (os : Array Obj) (row' : Nat → List D) (hrow : ∀ i, i < n → row' i = if i < d.size then [.v (enc d[i]!)] else row i) :
    RelS (grow (putRow enc (Go.Sort.ahead w m) cb 0 d) os) j (σ.set b (.arr 1 n row')) ∧ Ev j w j (grow (putRow enc (Go.Sort.ahead w m) cb 0 d) os) := by
  obtain ⟨o, ho, hB⟩ := hS.blk b _ hb
  rw [hj] at ho; cases ho
  obtain ⟨C, e, ⟨f, hC, hfz⟩, hcs, hrel⟩ := hB
  have hcb : cb < w.heap.size := hS.lt b cb hj
  have hheap := fun c hc => heap_sort1 (enc := enc) hC m d os (c := c) hc
  have hsz : (putCells enc 0 d C).size = C.size := by simp [putCells]
  have hsize : w.heap.size ≤ (grow (putRow enc (Go.Sort.ahead w m) cb 0 d) os).heap.size := by
    unfold grow putRow mapBlock Go.Sort.ahead; simp
  have he : Ev j w j (grow (putRow enc (Go.Sort.ahead w m) cb 0 d) os) := by
    refine ⟨hsize, fun c hc hn => ?_, fun _ _ h => h, fun c hc => ?_, fun a ha => ?_, rfl, rfl, rfl, fun c r hr => ?_⟩
    · rw [hheap c hc, if_neg (fun h : c = cb => hn (by rw [h]; exact List.mem_of_getElem? hj))]
    · unfold World.shape?
      rw [hheap c hc]
      by_cases h : c = cb
      · subst h; simp [hC, hsz]
      · simp [h]
    · unfold World.frozen?
      rw [hheap a.block ha]
      by_cases h : a.block = cb
      · simp [h, hC]
      · simp [h]
    · have hc : c < w.heap.size := (Array.getElem?_eq_some_iff.1 hr).1
      refine ⟨r, ?_⟩
      rw [hheap c hc, if_neg (fun h : c = cb => by subst h; rw [hC] at hr; cases hr)]; exact hr
  refine ⟨⟨by simp [hS.len], fun c q hc => Nat.lt_of_lt_of_le (hS.lt c q hc) hsize, hS.inj, fun c y hy => ?_⟩, he⟩
  rw [List.getElem?_set] at hy
  split at hy
  · rename_i hbc
    subst hbc
    split at hy
    · simp only [Option.some.injEq] at hy
      subst hy
      refine ⟨some cb, hj, putCells enc 0 d C, e, ⟨f, by rw [hheap cb hcb]; simp, by rw [hsz]; exact hfz⟩, by rw [hsz]; exact hcs, fun i hi => ?_⟩
      have hlt : i < C.size := by omega
      rw [hrow i hi]
      by_cases hid : i < d.size
      · simp only [hid, if_true]
        refine ⟨rfl, fun q hq => ?_⟩
        obtain rfl : q = 0 := by omega
        have e3 : (putCells enc 0 d C).getD (i * 1 + 0) Go.undef = enc d[i]! := by
          simp [putCells, Array.getD_eq_getD_getElem?, hlt, hid]
        rw [e3]; exact .v _
      · simp only [hid, if_false]
        refine ⟨(hrel i hi).1, fun q hq => ?_⟩
        obtain rfl : q = 0 := by omega
        have e3 : (putCells enc 0 d C).getD (i * 1 + 0) Go.undef = C.getD (i * 1 + 0) Go.undef := by
          simp [putCells, Array.getD_eq_getD_getElem?, hlt, hid]
        rw [e3]; exact ((hrel i hi).2 0 (by omega)).mono he
    · simp at hy
  · rename_i hbc
    obtain ⟨o, ho, hB⟩ := hS.blk c y hy
    refine ⟨o, ho, hB.mono he hS.lt (.refl _ _) fun cb' hcb' => ?_⟩
    subst hcb'
    have hne : cb' ≠ cb := fun h => hbc (hS.inj _ _ _ hj (h ▸ ho))
    rw [hheap cb' (hS.lt c cb' ho), if_neg hne]
theorem holds1_of {w : World} {j : Js} {σ : List Blk} (hS : RelS w j σ) {b cb n : Nat} {row : Nat → List D} (hj : j[b]? = some (some cb)) (hb : σ[b]? = some (.arr 1 n row)) (d : Array α) (hk : d.size ≤ n) (hr : ∀ i, i < d.size → row i = [.v (enc d[i]!)]) : Holds enc w cb 0 d := by
  obtain ⟨o, ho, hB⟩ := hS.blk b _ hb
  rw [hj] at ho; cases ho
  obtain ⟨C, e, ⟨f, hC, hfz⟩, hcs, hrel⟩ := hB
  intro t ht
  have hlt : t < C.size := by omega
  have h0 := (hrel t (by omega)).2 0 (by omega)
  rw [hr t ht] at h0
  simp only [List.getD_cons_zero, Nat.mul_one, Nat.add_zero] at h0
  have hv : C.getD t Go.undef = enc d[t]! := by
    generalize C.getD t Go.undef = u at h0
    cases h0; rfl
  refine ⟨?_, ?_⟩
  · rw [cell_of hC, Nat.zero_add, ← hv]
    simp [Array.getD_eq_getD_getElem?, hlt]
  · obtain ⟨lo, hi'⟩ := f
    simp only [World.frozen?, hC, Bool.and_eq_false_iff, decide_eq_false_iff_not]
    rcases hfz with hf | hf
    · left; simp only at hf; omega
    · simp only [Prod.mk.injEq] at hf; right; omega
end
end Go.Abs

/-! Cg -/
namespace Go.Proofs.YtldnolgijfkfpaaGreatDoor
open Go.Abs Go.Shelf Go.RowKit Go.Lib Go.Sort
set_option linter.unusedVariables false
set_option linter.unusedSimpArgs false
set_option maxRecDepth 100000
theorem bl_irrefl : ∀ x : List UInt8, Op.bytesLess x x = false
  | [] => rfl
  | a :: x => by
    simp only [Op.bytesLess, bl_irrefl x, Bool.and_false, Bool.or_false, decide_eq_false_iff_not, UInt8.lt_iff_toNat_lt]
    omega
theorem bl_trans : ∀ {x y z : List UInt8}, Op.bytesLess x y = true → Op.bytesLess y z = true → Op.bytesLess x z = true
  | _, [], _, h, _ => by simp [Op.bytesLess] at h
  | _, _ :: _, [], _, h => by simp [Op.bytesLess] at h
  | [], _ :: _, _ :: _, _, _ => rfl
  | a :: x, b :: y, c :: z, h1, h2 => by
    simp only [Op.bytesLess, Bool.or_eq_true, Bool.and_eq_true, decide_eq_true_eq, beq_iff_eq, UInt8.lt_iff_toNat_lt] at *
    rcases h1 with h1 | ⟨rfl, h1⟩ <;> rcases h2 with h2 | ⟨rfl, h2⟩
    · left; omega
    · left; exact h1
    · left; exact h2
    · right; exact ⟨rfl, bl_trans h1 h2⟩
theorem bl_total : ∀ {x y : List UInt8}, Op.bytesLess x y = false → Op.bytesLess y x = false → x = y
  | [], [], _, _ => rfl
  | [], _ :: _, h, _ => by simp [Op.bytesLess] at h
  | _ :: _, [], _, h => by simp [Op.bytesLess] at h
  | a :: x, b :: y, h1, h2 => by
    simp only [Op.bytesLess, Bool.or_eq_false_iff, Bool.and_eq_false_iff, decide_eq_false_iff_not, UInt8.lt_iff_toNat_lt] at *
    have hab : a = b := UInt8.toNat_inj.1 (by omega)
    subst hab
    have e1 : Op.bytesLess x y = false := by rcases h1.2 with h | h; (simp at h); exact h
    have e2 : Op.bytesLess y x = false := by rcases h2.2 with h | h; (simp at h); exact h
    rw [bl_total e1 e2]
theorem cmpS_neg (a b : ByteArray) : cmpS a b < 0 ↔ ltS a b = true := by
  unfold cmpS
  split
  · rename_i h; simp [h]
  · rename_i h; split <;> simp [h]
theorem cmpS_zero (a b : ByteArray) : cmpS a b = 0 ↔ a.toList = b.toList := by
  unfold cmpS
  by_cases h : ltS a b = true
  · rw [if_pos h]
    constructor
    · intro h; cases h
    · intro he; unfold ltS at h; rw [he, bl_irrefl] at h; cases h
  · rw [if_neg h]
    have h' : ltS a b = false := by simpa using h
    by_cases he : a.toList = b.toList <;> simp [h', he]
def befU (ID rd x y : Nat) : Prop := ltS (keyS ID rd x) (keyS ID rd y) = true ∨ ((keyS ID rd x).toList = (keyS ID rd y).toList ∧ x < y)
theorem cmpI_neg (x y : Nat) : cmpI x y < 0 ↔ x < y := by unfold cmpI; split <;> (try split) <;> omega
theorem ordU_neg (ID rd x y : Nat) : ordU ID rd x y < 0 ↔ befU ID rd x y := by
  unfold ordU befU
  by_cases h : cmpS (keyS ID rd x) (keyS ID rd y) = 0
  · rw [if_neg (by simpa using h), cmpI_neg]
    have he := (cmpS_zero _ _).1 h
    have hl : ltS (keyS ID rd x) (keyS ID rd y) = false := by unfold ltS; rw [he, bl_irrefl]
    simp [hl, he]
  · rw [if_pos h, cmpS_neg]
    have he : ¬ (keyS ID rd x).toList = (keyS ID rd y).toList := fun e => h ((cmpS_zero _ _).2 e)
    simp [he]
theorem befU_irrefl (ID rd x : Nat) : ¬ befU ID rd x x := by
  unfold befU ltS; rw [bl_irrefl]; simp
theorem befU_trans {ID rd x y z : Nat} (h1 : befU ID rd x y) (h2 : befU ID rd y z) : befU ID rd x z := by
  unfold befU ltS at *
  rcases h1 with h1 | ⟨e1, h1⟩ <;> rcases h2 with h2 | ⟨e2, h2⟩
  · exact .inl (bl_trans h1 h2)
  · exact .inl (by rw [← e2]; exact h1)
  · exact .inl (by rw [e1]; exact h2)
  · exact .inr ⟨e1.trans e2, by omega⟩
theorem befU_total {ID rd x y : Nat} (h1 : ¬ befU ID rd x y) (h2 : ¬ befU ID rd y x) : x = y := by
  unfold befU ltS at *
  simp only [not_or, Bool.not_eq_true, not_and] at h1 h2
  have e := bl_total h1.1 h2.1
  have := h1.2 e
  have := h2.2 e.symm
  omega
abbrev Uno := { n : Nat // n ≤ 1073741824 }
instance : Inhabited Uno := ⟨⟨0, by decide⟩⟩
def encU (x : Uno) : Value := .int .i64 x.1
def cfU (ID rd : Nat) (x y : Uno) : Int := ordU ID rd x.1 y.1
theorem cfU_swo (ID rd : Nat) : SWO (ltOf (cfU ID rd)) where
  irrefl x := by
    unfold ltOf cfU; rw [decide_eq_false_iff_not, ordU_neg]; exact befU_irrefl _ _ _
  trans x y z h1 h2 := by
    unfold ltOf cfU at *; rw [decide_eq_true_iff, ordU_neg] at *; exact befU_trans h1 h2
  ntrans x y z h1 h2 := by
    unfold ltOf cfU at *; rw [decide_eq_false_iff_not, ordU_neg] at *
    intro h3
    by_cases h4 : befU ID rd y x.1
    · exact h2 (befU_trans h4 h3)
    · have e := befU_total h1 h4
      rw [e] at h3; exact h2 h3
theorem CSF.conv {P : Program} {f : FuncId} {args args' : List AV} {σ : List Blk} {r : AV} (h : CSF P f args' σ r) (hc : ∀ j w vs, RelS w j σ → Rs w j args vs → Rs w j args' vs) : CSF P f args σ r :=
  ⟨h.1, fun j w vs hS hr => h.2 j w vs hS (hc j w vs hS hr)⟩
theorem el_tab {w : World} {j : Js} {σ : List Blk} (hS : RelS w j σ) {i c : Nat} {C : Array Value} (h : σ[i]? = some (.tab c C)) {x : Value} (hx : C[0]? = some x) : R w j (.el [.v x]) (.pointer (some ⟨c, 0, none⟩)) := by
  obtain ⟨o, _, hB⟩ := hS.blk i _ h
  have hB' : c < w.heap.size ∧ some c ∉ j ∧ ∃ e, w.shape? c = some (e, C.size) ∧ ∀ i, w.cell? ⟨c, i, none⟩ = C[i]? := by
    cases o <;> exact ⟨hB.2.1, hB.2.2.1, hB.2.2.2⟩
  obtain ⟨h1, h2, e, h3, h4⟩ := hB'
  refine .el _ (fun _ => x) rfl h1 h2 (fun k hk => ?_) (fun k hk => ?_)
  · obtain rfl : k = 0 := by simpa using hk
    exact (h4 0).trans hx
  · obtain rfl : k = 0 := by simpa using hk
    exact .v x
theorem key_conv {σ : List Blk} {ID rd u cB cR : Nat} {CB CR : Array Value} (h1 : ID ≤ 1073741824) (h2 : rd ≤ 1073741824) (h3 : u ≤ 1073741824) (hσ : σ[0]? = some (.tab 0 powV)) (hB : σ[1]? = some (.tab cB CB)) (hR : σ[2]? = some (.tab cR CR)) (b0 : CB[0]? = some (.int .i64 ID)) (r0 : CR[0]? = some (.int .i64 rd)) :
    CSF Tryz.prog 60 [.d (I u), .d (.v (.pointer (some ⟨cB, 0, none⟩))), .d (.v (.pointer (some ⟨cR, 0, none⟩)))] σ (.d (Sb (keyS ID rd u))) := by
  refine CSF.conv (drawn_key_cs σ ID rd u h1 h2 h3 hσ) fun j w vs hS hr => ⟨hr.1, fun k hk => ?_⟩
  have hk' : k < 3 := hk
  have := hr.2 k hk
  rcases (by omega : k = 0 ∨ k = 1 ∨ k = 2) with rfl | rfl | rfl
  · exact this
  · have e := R_v (show R w j (.d (.v (.pointer (some ⟨cB, 0, none⟩)))) (vs.getD 1 Go.undef) from this)
    show R w j (.el [I ID]) (vs.getD 1 Go.undef)
    rw [e]; exact el_tab hS hB b0
  · have e := R_v (show R w j (.d (.v (.pointer (some ⟨cR, 0, none⟩)))) (vs.getD 2 Go.undef) from this)
    show R w j (.el [I rd]) (vs.getD 2 Go.undef)
    rw [e]; exact el_tab hS hR r0
structure Asks (w : World) (cB cR cK ID rd : Nat) : Prop where
  pow : ∃ e, (0 < w.heap.size) ∧ w.shape? 0 = some (e, powV.size) ∧ ∀ i, w.cell? ⟨0, i, none⟩ = powV[i]?
  b : ∃ CB e f, w.heap[cB]? = some (.cells CB e f) ∧ CB[0]? = some (.int .i64 ID)
  r : ∃ CR e f, w.heap[cR]? = some (.cells CR e f) ∧ CR[0]? = some (.int .i64 rd)
  k : w.cell? ⟨cK, 0, none⟩ = some (.func (.func 60) #[] #[.pointer (some ⟨cB, 0, none⟩), .pointer (some ⟨cR, 0, none⟩)])
theorem cmp_w {w : World} {cB cR cK ID rd : Nat} (h : Asks w cB cR cK ID rd) (h1 : ID ≤ 1073741824) (h2 : rd ≤ 1073741824) (x y : Uno) :
    Calls Tryz.prog 64 #[encU x, encU y, .pointer (some ⟨cK, 0, none⟩)] w fun e w' => e = .returned (.int .i64 (cfU ID rd x y)) ∧ ∃ q os, w' = grow (w.drewN q) os := by
  obtain ⟨⟨ep, hp0, hp1, hp2⟩, ⟨CB, eB, fB, hB1, hB2⟩, ⟨CR, eR, fR, hR1, hR2⟩, hk⟩ := h
  have hj : ∀ b : Nat, some b ∉ ([none, none, none] : Js) := by intro b; simp
  have hlt : ∀ {c : Nat} {o : Obj}, w.heap[c]? = some o → c < w.heap.size := fun h => (Array.getElem?_eq_some_iff.1 h).1
  have hS : RelS w [none, none, none] [.tab 0 powV, .tab cB CB, .tab cR CR] := by
    refine ⟨rfl, fun b cb hb => ?_, fun b b' cb hb _ => ?_, fun b y hy => ?_⟩
    · have := List.mem_of_getElem? hb; simp at this
    · have := List.mem_of_getElem? hb; simp at this
    · have hb : b < 3 := (List.getElem?_eq_some_iff.1 hy).1
      refine ⟨none, by rcases (by omega : b = 0 ∨ b = 1 ∨ b = 2) with rfl | rfl | rfl <;> rfl, ?_⟩
      rcases (by omega : b = 0 ∨ b = 1 ∨ b = 2) with rfl | rfl | rfl
      · simp only [List.getElem?_cons_zero, Option.some.injEq] at hy; subst hy
        exact ⟨rfl, hp0, hj _, ep, hp1, hp2⟩
      · simp only [List.getElem?_cons_succ, List.getElem?_cons_zero, Option.some.injEq] at hy; subst hy
        exact ⟨rfl, hlt hB1, hj _, eB, by simp [World.shape?, hB1], fun i => cell_of hB1 i⟩
      · simp only [List.getElem?_cons_succ, List.getElem?_cons_zero, Option.some.injEq] at hy; subst hy
        exact ⟨rfl, hlt hR1, hj _, eR, by simp [World.shape?, hR1], fun i => cell_of hR1 i⟩
  have kx := fun u (hu : u ≤ 1073741824) => key_conv (σ := [.tab 0 powV, .tab cB CB, .tab cR CR]) h1 h2 hu rfl rfl rfl hB2 hR2
  have hc := drawn_cmp_cs [.tab 0 powV, .tab cB CB, .tab cR CR] ID rd x.1 y.1 _ _ (kx x.1 x.2) (kx y.1 y.2)
  refine hc.grows hj hS ⟨rfl, fun k hk' => ?_⟩
  have hk3 : k < 3 := hk'
  rcases (by omega : k = 0 ∨ k = 1 ∨ k = 2) with rfl | rfl | rfl
  · exact .d (.v _)
  · exact .d (.v _)
  · refine .el _ (fun _ => .func (.func 60) #[] #[.pointer (some ⟨cB, 0, none⟩), .pointer (some ⟨cR, 0, none⟩)]) rfl (block_lt_of_cell hk) (hj _) (fun q hq => ?_) (fun q hq => ?_)
    · obtain rfl : q = 0 := by simpa using hq
      exact hk
    · obtain rfl : q = 0 := by simpa using hq
      exact .v _
end Go.Proofs.YtldnolgijfkfpaaGreatDoor

/-! Ch -/
namespace Go.Proofs.YtldnolgijfkfpaaGreatDoor
open Go.Abs Go.Shelf Go.RowKit Go.Lib Go.Sort
set_option linter.unusedVariables false
set_option linter.unusedSimpArgs false
set_option maxRecDepth 100000
theorem asks_of {w : World} {j : Js} {S : List Blk} (hS : RelS w j S) {i cB cR cK ID rd : Nat} {l : List AV} (h0 : S[0]? = some (.tab 0 powV)) (hB : S[i]? = some (.var (.d (I ID) :: l))) (hR : S[i + 1]? = some (.var [.d (I rd)])) (hK : S[i + 2]? = some (.var [.clo (.func 60) [] [.ptr i 0, .ptr (i + 1) 0]]))
    (jB : j[i]? = some (some cB)) (jR : j[i + 1]? = some (some cR)) (jK : j[i + 2]? = some (some cK)) : Asks w cB cR cK ID rd := by
  refine ⟨?_, ?_, ?_, ?_⟩
  · obtain ⟨o, _, hb⟩ := hS.blk 0 _ h0
    cases o <;> (obtain ⟨_, g1, _, e, g2, g3⟩ := hb; exact ⟨e, g1, g2, g3⟩)
  · obtain ⟨o, ho, hb⟩ := hS.blk i _ hB
    rw [jB] at ho; cases ho
    obtain ⟨C, e, hC, hs, hr⟩ := hb
    have h1 := R_v (show R w j (.d (I ID)) (C.getD 0 Go.undef) from hr 0 (by simp))
    have hlt : 0 < C.size := by rw [hs]; simp
    exact ⟨C, e, _, hC, by rw [Array.getElem?_eq_getElem hlt]; rw [Array.getD_eq_getD_getElem?, Array.getElem?_eq_getElem hlt] at h1; simpa using h1⟩
  · obtain ⟨o, ho, hb⟩ := hS.blk (i + 1) _ hR
    rw [jR] at ho; cases ho
    obtain ⟨C, e, hC, hs, hr⟩ := hb
    have h1 := R_v (show R w j (.d (I rd)) (C.getD 0 Go.undef) from hr 0 (by simp))
    have hlt : 0 < C.size := by rw [hs]; simp
    exact ⟨C, e, _, hC, by rw [Array.getElem?_eq_getElem hlt]; rw [Array.getD_eq_getD_getElem?, Array.getElem?_eq_getElem hlt] at h1; simpa using h1⟩
  · obtain ⟨o, ho, hb⟩ := hS.blk (i + 2) _ hK
    rw [jK] at ho; cases ho
    obtain ⟨C, e, hC, hs, hr⟩ := hb
    have h1 : R w j (.clo (.func 60) [] [.ptr i 0, .ptr (i + 1) 0]) (C.getD 0 Go.undef) := hr 0 (by simp)
    have hlt : 0 < C.size := by rw [hs]; simp
    rw [cell_of hC, Array.getElem?_eq_getElem hlt]
    rw [Array.getD_eq_getD_getElem?, Array.getElem?_eq_getElem hlt, Option.getD_some] at h1
    generalize C[0] = v at h1
    cases h1 with
    | clo ff cc g1 g2 g3 g4 =>
      have e1 : ff = #[] := Array.eq_empty_of_size_eq_zero (by simpa using g1)
      subst e1
      have p0 : R w j (.ptr i 0) (cc.getD 0 Go.undef) := g4 0 (by simp)
      have p1 : R w j (.ptr (i + 1) 0) (cc.getD 1 Go.undef) := g4 1 (by simp)
      have hcc : cc = #[cc.getD 0 Go.undef, cc.getD 1 Go.undef] := by
        have hs2 : cc.size = 2 := by simpa using g2
        apply Array.ext
        · simp [hs2]
        · intro q hq1 hq2
          rcases (by omega : q = 0 ∨ q = 1) with rfl | rfl
          · rw [← (arr_get hq1).2]; rfl
          · rw [← (arr_get hq1).2]; rfl
      rw [hcc]
      generalize cc.getD 0 Go.undef = v0 at p0
      generalize cc.getD 1 Go.undef = v1 at p1
      cases p0 with | ptr q0 =>
      cases p1 with | ptr q1 =>
      rw [jB] at q0; cases q0
      rw [jR] at q1; cases q1
      rfl
theorem sort_permU {α : Type} [Inhabited α] {n : Nat} {x : Nat → α} {d : Array α} (h : PermIn 0 n (lst n x).toArray d) : d.size = n ∧ d.toList.Perm (lst n x) := by
  obtain ⟨h1, _, h3⟩ := h
  have hs : d.size = n := by simpa [lst_length] using h1
  refine ⟨hs, ?_⟩
  have e1 : (d.extract 0 n).toList = d.toList := by rw [← hs]; simp
  have e2 : ((lst n x).toArray.extract 0 n).toList = lst n x := by
    simp only [List.extract_toArray, List.extract_eq_take_drop, List.drop_zero, Nat.sub_zero]
    exact List.take_of_length_le (by rw [lst_length]; exact Nat.le_refl _)
  rw [e1, e2] at h3
  exact h3
def vU (v : Nat → Nat) (i : Nat) : Uno := if h : v i ≤ 1073741824 then ⟨v i, h⟩ else default
theorem vU_val {v : Nat → Nat} {i : Nat} (h : v i ≤ 1073741824) : (vU v i).1 = v i := by unfold vU; rw [dif_pos h]
set_option maxHeartbeats 1000000 in
theorem sortU_cs (σ : List Blk) (ID rd n : Nat) (l : List AV) (v : Nat → Nat) (h1 : ID ≤ 1073741824) (h2 : rd ≤ 1073741824) (hv : ∀ i, i < n → v i ≤ 1073741824) (hn0 : 0 < n) (hn : n < 1000000000) (hσ : σ[0]? = some (.tab 0 powV)) :
    CS Tryz.prog 63 [.ms (σ.length + 3) 1 0 n, .clo (.func 64) [] [.ptr (σ.length + 2) 0]] (σ ++ [.var (.d (I ID) :: l), .var [.d (I rd)], .var [.clo (.func 60) [] [.ptr σ.length 0, .ptr (σ.length + 1) 0]], .arr 1 n (fun i => encI (v i))])
      (fun r σ' X => r = .tup [] ∧ X = [] ∧ ∃ L : List Nat, L.Perm (lst n v) ∧ L.Pairwise (fun a b => ¬ befU ID rd b a) ∧ σ' = σ ++ [.var (.d (I ID) :: l), .var [.d (I rd)], .var [.clo (.func 60) [] [.ptr σ.length 0, .ptr (σ.length + 1) 0]], .arr 1 n (fun i => encI ((nth L i : Nat) : Int))]) := by
  refine ⟨T.en63, fun j w vs hS hR => ?_⟩
  obtain ⟨hsz, hrel⟩ := hR
  have r0 : R w j (.ms (σ.length + 3) 1 0 n) (vs.getD 0 Go.undef) := hrel 0 (by simp)
  have r1 : R w j (.clo (.func 64) [] [.ptr (σ.length + 2) 0]) (vs.getD 1 Go.undef) := hrel 1 (by simp)
  have hsz : vs.size = 2 := by simpa using hsz
  have hvs : vs = #[vs.getD 0 Go.undef, vs.getD 1 Go.undef] := by
    apply Array.ext
    · simp [hsz]
    · intro i h1 h2
      have hi : i = 0 ∨ i = 1 := by simp at h2; omega
      rcases hi with rfl | rfl
      · rw [← (arr_get h1).2]; rfl
      · rw [← (arr_get h1).2]; rfl
  rw [hvs]
  generalize vs.getD 0 Go.undef = v0 at r0
  generalize vs.getD 1 Go.undef = v1 at r1
  cases r1 with
  | clo ff cc g1 g2 g3 g4 =>
  have e1 : ff = #[] := Array.eq_empty_of_size_eq_zero (by simpa using g1)
  subst e1
  have p0 : R w j (.ptr (σ.length + 2) 0) (cc.getD 0 Go.undef) := g4 0 (by simp)
  have hcc : cc = #[cc.getD 0 Go.undef] := by
    have hs2 : cc.size = 1 := by simpa using g2
    apply Array.ext
    · simp [hs2]
    · intro q hq1 hq2
      obtain rfl : q = 0 := by omega
      rw [← (arr_get hq1).2]; rfl
  rw [hcc]
  generalize cc.getD 0 Go.undef = vK at p0
  cases p0 with | @ptr _ _ cK jK =>
  cases r0 with
  | ms0 p h => omega
  | msE p e m h hs hlo hm => omega
  | @ms _ _ _ _ cb c e m hj hs hc hm =>
  have hb : (σ ++ [Blk.var (.d (I ID) :: l), .var [.d (I rd)], .var [.clo (.func 60) [] [.ptr σ.length 0, .ptr (σ.length + 1) 0]], .arr 1 n (fun i => encI (v i))])[σ.length + 3]? = some (.arr 1 n fun i => encI (v i)) := by simp
  obtain ⟨oB, jB0, hBB⟩ := hS.blk σ.length (.var (.d (I ID) :: l)) (by simp)
  obtain ⟨oR, jR0, hBR⟩ := hS.blk (σ.length + 1) (.var [.d (I rd)]) (by simp)
  cases oB with
  | none => exact hBB.elim
  | some cB =>
  cases oR with
  | none => exact hBR.elim
  | some cR =>
  have h0 : (σ ++ [Blk.var (.d (I ID) :: l), .var [.d (I rd)], .var [.clo (.func 60) [] [.ptr σ.length 0, .ptr (σ.length + 1) 0]], .arr 1 n (fun i => encI (v i))])[0]? = some (.tab 0 powV) := loc_app hσ
  have hnl : ∀ (q : Nat), q ≠ σ.length + 3 → ∀ y : Blk, ((σ ++ [Blk.var (.d (I ID) :: l), .var [.d (I rd)], .var [.clo (.func 60) [] [.ptr σ.length 0, .ptr (σ.length + 1) 0]], .arr 1 n (fun i => encI (v i))]).set (σ.length + 3) y)[q]? = (σ ++ [Blk.var (.d (I ID) :: l), .var [.d (I rd)], .var [.clo (.func 60) [] [.ptr σ.length 0, .ptr (σ.length + 1) 0]], .arr 1 n (fun i => encI (v i))])[q]? := fun q hq y => by rw [List.getElem?_set_ne (Ne.symm hq)]
  have hds : (lst n (vU v)).toArray.size = n := by simp [lst_length]
  have hget : ∀ i, i < n → (lst n (vU v)).toArray[i]! = vU v i := fun i hi => by
    rw [getElem!_pos _ i (by rw [hds]; exact hi)]
    simp [lst]
  have hH : Holds encU w cb 0 (lst n (vU v)).toArray := holds1_of hS hj hb _ (by rw [hds]; exact Nat.le_refl _) (fun i hi => by
    rw [hds] at hi
    rw [hget i hi]
    show encI (v i) = _
    unfold encU; rw [vU_val (hv i hi)]; rfl)
  have eg : ∀ args w, (callFunc 64 args).run Tryz.prog w = .ok (.enter 64 args) w := enters_of Tryz.func64 (by kernel_rfl) rfl
  have hcmp : CmpLays1 Tryz.prog 64 #[.pointer (some ⟨cK, 0, none⟩)] encU (cfU ID rd) cb 0 (lst n (vU v)).toArray.size w := fun m os dk hsd x y => by
    rw [hds] at hsd
    have hrl := (sort1_rel (enc := encU) hS hj hb dk (by omega) m os _ (fun i hi => rfl)).1
    have hA := asks_of hrl (i := σ.length) (ID := ID) (rd := rd) (l := l) (by rw [hnl _ (by omega)]; exact h0) (by rw [hnl _ (by omega)]; simp) (by rw [hnl _ (by omega)]; simp) (by rw [hnl _ (by omega)]; simp) jB0 jR0 jK
    exact cmp_w hA h1 h2 x y
  have hcon := Any.slices_SortFunc Tryz.sortU encU (fun x => rfl) (cfU ID rd) (cfU_swo ID rd) 64 #[.pointer (some ⟨cK, 0, none⟩)] cb 0 c (lst n (vU v)).toArray w eg hcmp hH (hS.lt _ _ hj) (by rw [hds]; omega)
  rw [hds] at hcon
  change Calls Tryz.prog 63 _ _ _ at hcon
  simp only [Nat.zero_mul]
  refine hcon.mono ?_
  rintro e' w' ⟨rfl, d', q, os, hp, hso, rfl⟩
  obtain ⟨hd, hperm⟩ := sort_permU hp
  have hnth : ∀ i, i < n → nth (d'.toList.map (·.1)) i = (d'[i]!).1 := fun i hi => by
    rw [getElem!_pos d' i (by omega)]
    simp [nth, show i < d'.size by omega]
  obtain ⟨k1, k2⟩ := sort1_rel (enc := encU) hS hj hb d' (by omega) q os (fun i => encI ((nth (d'.toList.map (·.1)) i : Nat) : Int)) (fun i hi => by
    rw [if_pos (by omega), hnth i hi]; rfl)
  refine ⟨_, .tup [], _, j, [], rfl, k1, .tup #[] (Nat.le_refl _) (by simp), k2, Nat.le_refl _, .refl _ _, rfl, rfl, d'.toList.map (·.1), ?_, ?_, ?_⟩
  · have h3 := hperm.map (fun x : Uno => x.1)
    have h4 : (lst n (vU v)).map (fun x : Uno => x.1) = lst n v := by
      unfold lst
      rw [List.map_map]
      exact List.map_congr_left fun i hi => vU_val (hv i (List.mem_range.1 hi))
    rwa [h4] at h3
  · rw [List.pairwise_map, List.pairwise_iff_getElem]
    intro i k hi hk' hik
    simp only [Array.length_toList] at hi hk'
    have := hso i k (Nat.zero_le _) hik (by omega)
    rw [getElem!_pos d' i hi, getElem!_pos d' k hk'] at this
    unfold ltOf cfU at this
    rw [decide_eq_false_iff_not, ordU_neg] at this
    simp only [Array.getElem_toList]
    exact this
  · rw [List.set_append_right _ _ (by omega)]
    simp
set_option maxHeartbeats 1000000 in
theorem sortI_cs (σ τ : List Blk) (n k : Nat) (g : Nat → Int) (hk0 : 0 < k) (hkn : k ≤ n) (hn : n < 1000000000) :
    CS Tryz.prog 68 [.ms σ.length 1 0 k] (σ ++ .arr 1 n (fun i => encI (g i)) :: τ)
      (fun r σ' X => r = .tup [] ∧ X = [] ∧ ∃ L : List Int, L.Perm (lst k g) ∧ L.Pairwise (· ≤ ·) ∧ ∃ row, σ' = σ ++ .arr 1 n row :: τ ∧ ∀ i, i < k → row i = encI (nth L i)) := by
  refine ⟨T.en68, fun j w vs hS hR => ?_⟩
  obtain ⟨hsz, hrel⟩ := hR
  have r0 : R w j (.ms σ.length 1 0 k) (vs.getD 0 Go.undef) := hrel 0 (by simp)
  have hsz : vs.size = 1 := by simpa using hsz
  have hvs : vs = #[vs.getD 0 Go.undef] := by
    apply Array.ext
    · simp [hsz]
    · intro i h1 h2
      obtain rfl : i = 0 := by simp at h2; omega
      rw [← (arr_get h1).2]; rfl
  rw [hvs]
  generalize vs.getD 0 Go.undef = v0 at r0
  cases r0 with
  | ms0 p h => omega
  | msE p e m h hs hlo hm => omega
  | @ms _ _ _ _ cb c e m hj hs hc hm =>
  have hb : (σ ++ Blk.arr 1 n (fun i => encI (g i)) :: τ)[σ.length]? = some (.arr 1 n fun i => encI (g i)) := by simp
  have hds : (lst k g).toArray.size = k := by simp [lst_length]
  have hH : Holds (Value.int .i64) w cb 0 (lst k g).toArray := holds1_of hS hj hb _ (by rw [hds]; exact hkn) (fun i hi => by
    rw [hds] at hi
    rw [getElem!_pos _ i (by rw [hds]; exact hi)]
    show encI (g i) = _
    simp [lst, encI])
  have hcon := Any.slices_Sort_int Tryz.sortInt cb 0 c (lst k g) w hH (hS.lt _ _ hj) (by rw [lst_length]; omega)
  rw [lst_length] at hcon
  change Calls Tryz.prog 68 _ _ _ at hcon
  simp only [Nat.zero_mul]
  refine hcon.mono ?_
  rintro e' w' ⟨rfl, q, os, rfl⟩
  have hperm := List.mergeSort_perm (lst k g) (fun x y => decide (x ≤ y))
  have hsort := List.pairwise_mergeSort (le := fun x y : Int => decide (x ≤ y)) (by intro a b c h1 h2; simp at *; omega) (by intro a b; simp; omega) (lst k g)
  generalize (lst k g).mergeSort (fun x y => decide (x ≤ y)) = L at *
  have hL : L.length = k := by rw [hperm.length_eq, lst_length]
  obtain ⟨k1, k2⟩ := sort1_rel (enc := Value.int .i64) hS hj hb L.toArray (by simp [hL]; exact hkn) q os (fun i => if i < k then encI (nth L i) else encI (g i)) (fun i hi => by
    by_cases hik : i < k
    · rw [if_pos hik, if_pos (by simp [hL]; exact hik), getElem!_pos _ i (by simp [hL]; exact hik), nth_eq (by omega)]
      simp [encI]
    · rw [if_neg hik, if_neg (by simp [hL]; omega)])
  refine ⟨_, .tup [], _, j, [], rfl, k1, .tup #[] (Nat.le_refl _) (by simp), k2, Nat.le_refl _, .refl _ _, rfl, rfl, L, hperm, hsort.imp fun h => by simpa using h, fun i => if i < k then encI (nth L i) else encI (g i), by simp, fun i hi => by simp [hi]⟩
end Go.Proofs.YtldnolgijfkfpaaGreatDoor

/-! Ci -/
namespace Go.Proofs.YtldnolgijfkfpaaGreatDoor
open Go.Abs
set_option linter.unusedVariables false
set_option linter.unusedSimpArgs false
set_option maxRecDepth 100000
set_option maxHeartbeats 1000000
theorem perm_sorted_eq {α : Type} {r : α → α → Prop} (ha : ∀ a b, r a b → r b a → a = b) : ∀ {l1 l2 : List α}, l1.Perm l2 → l1.Pairwise r → l2.Pairwise r → l1 = l2
  | [], l2, h, _, _ => by rw [List.Perm.nil_eq h]
  | x :: l1, [], h, _, _ => by have := h.length_eq; simp at this
  | x :: l1, y :: l2, h, p1, p2 => by
    rw [List.pairwise_cons] at p1 p2
    have hxy : x = y := by
      have hx : x ∈ y :: l2 := h.subset (by simp)
      have hy : y ∈ x :: l1 := h.symm.subset (by simp)
      rcases List.mem_cons.1 hx with rfl | hx
      · rfl
      · rcases List.mem_cons.1 hy with rfl | hy
        · rfl
        · exact ha x y (p1.1 y hy) (p2.1 x hx)
    subst hxy
    rw [perm_sorted_eq ha (List.Perm.cons_inv h) p1.2 p2.2]
def OrdL (ID rd : Nat) (l L : List Nat) : Prop := L.Perm l ∧ L.Pairwise (fun a b => ¬ befU ID rd b a)
theorem OrdL.uniq {ID rd : Nat} {l L L' : List Nat} (h : OrdL ID rd l L) (h' : OrdL ID rd l L') : L = L' :=
  perm_sorted_eq (fun a b h1 h2 => befU_total h2 h1) (h.1.trans h'.1.symm) h.2 h'.2
open Classical in
noncomputable def ordL (ID rd : Nat) (l : List Nat) : List Nat := if h : ∃ L, OrdL ID rd l L then Classical.choose h else []
theorem ordL_eq {ID rd : Nat} {l L : List Nat} (h : OrdL ID rd l L) : ordL ID rd l = L := by
  unfold ordL
  rw [dif_pos ⟨L, h⟩]
  exact (Classical.choose_spec (⟨L, h⟩ : ∃ L, OrdL ID rd l L)).uniq h
def sortI (l : List Int) : List Int := l.mergeSort fun x y => decide (x ≤ y)
theorem sortI_perm (l : List Int) : (sortI l).Perm l := List.mergeSort_perm _ _
theorem sortI_le (l : List Int) : (sortI l).Pairwise (· ≤ ·) :=
  (List.pairwise_mergeSort (le := fun x y : Int => decide (x ≤ y)) (by intro a b c h1 h2; simp at *; omega) (by intro a b; simp; omega) l).imp fun h => by simpa using h
theorem sortI_eq {l L : List Int} (h : L.Perm l) (hs : L.Pairwise (· ≤ ·)) : L = sortI l :=
  perm_sorted_eq (fun a b h1 h2 => Int.le_antisymm h1 h2) (h.trans (sortI_perm l).symm) hs (sortI_le l)
def unN (x : Bat) (i : Nat) : Nat := (x.u i).toNat
noncomputable def drawL (x : Bat) (rd : Int) : List Int := sortI (((ordL x.ID.toNat rd.toNat (lst x.nu (unN x))).take x.Sample.toNat).map fun n : Nat => (n : Int))
def rngB (x : Bat) : Bool := idB x.ID && inB x.Day 0 1048575 && inB x.Round 0 1024 && inB x.nu 1 60 && !((lst x.nu x.u).any fun n => !idB n) && inB x.Sample 1 x.nu && inB x.Accept 0 (IntKind.i64.wrap (x.Sample - 1))
structure Rng (x : Bat) : Prop where
  id1 : 1 ≤ x.ID
  id2 : x.ID ≤ 1073741824
  d1 : 0 ≤ x.Day
  d2 : x.Day ≤ 1048575
  r1 : 0 ≤ x.Round
  r2 : x.Round ≤ 1024
  n1 : 1 ≤ x.nu
  n2 : x.nu ≤ 60
  u1 : ∀ i, i < x.nu → 1 ≤ x.u i ∧ x.u i ≤ 1073741824
  s1 : 1 ≤ x.Sample
  s2 : x.Sample ≤ x.nu
  a1 : 0 ≤ x.Accept
  a2 : x.Accept ≤ x.Sample - 1
theorem rngB_iff (x : Bat) : rngB x = true ↔ Rng x := by
  unfold rngB idB inB
  simp only [Bool.and_eq_true, decide_eq_true_eq, Bool.not_eq_true', lst, List.any_map, List.any_eq_false, List.mem_range, Function.comp, Bool.not_eq_true', Bool.not_eq_false', Bool.not_not]
  constructor
  · rintro ⟨⟨⟨⟨⟨⟨⟨a, b⟩, c, d⟩, e, f⟩, g, h⟩, k⟩, l, m⟩, n, o⟩
    rw [wrapI (by omega) (by omega)] at o
    exact ⟨a, b, c, d, e, f, by omega, by omega, fun i hi => by simpa using k i hi, l, m, n, o⟩
  · intro h
    have h1 := h.s1
    have h2 := h.s2
    have h3 := h.n2
    rw [wrapI (by omega) (by omega)]
    exact ⟨⟨⟨⟨⟨⟨⟨h.id1, h.id2⟩, h.d1, h.d2⟩, h.r1, h.r2⟩, by have := h.n1; omega, by have := h.n2; omega⟩, fun i hi => by simpa using h.u1 i hi⟩, h.s1, h.s2⟩, h.a1, h.a2⟩
theorem exists_ordL (ID rd : Nat) (l : List Nat) : ∃ L, OrdL ID rd l L := by
  classical
  refine ⟨l.mergeSort (fun x y => decide (¬ befU ID rd y x)), List.mergeSort_perm _ _, ?_⟩
  refine (List.pairwise_mergeSort (le := fun x y => decide (¬ befU ID rd y x)) ?_ ?_ l).imp fun h => by simpa using h
  · intro a b c h1 h2
    simp only [decide_eq_true_eq] at *
    intro h3
    by_cases h4 : befU ID rd b a
    · exact h1 h4
    · by_cases h5 : befU ID rd a b
      · exact h2 (befU_trans h3 h5)
      · have e := befU_total h4 h5
        subst e; exact h2 h3
  · intro a b
    by_cases h : befU ID rd b a
    · have : ¬ befU ID rd a b := fun h2 => befU_irrefl _ _ _ (befU_trans h h2)
      simp [this]
    · simp [h]
theorem ordL_spec (ID rd : Nat) (l : List Nat) : OrdL ID rd l (ordL ID rd l) := by
  obtain ⟨L, h⟩ := exists_ordL ID rd l
  rw [ordL_eq h]; exact h
theorem drawL_len (x : Bat) (rd : Int) : (drawL x rd).length = min x.Sample.toNat x.nu := by
  unfold drawL
  rw [(sortI_perm _).length_eq, List.length_map, List.length_take, (ordL_spec _ _ _).1.length_eq, lst_length]
theorem drawL_le (x : Bat) (rd : Int) : (drawL x rd).length ≤ x.nu := by rw [drawL_len]; omega
theorem digitize_drawn_cs (σ : List Blk) (x : Bat) (rd : Int) (hx : Rng x) (h0 : 0 ≤ rd) (h1 : rd ≤ 1024) (hσ : σ[0]? = some (.tab 0 powV)) : CSF Tryz.prog 42 [.agg (x.enc.map .d), .d (I rd)] σ (.d (SL none 1 encI (drawL x rd).length (nth (drawL x rd)))) := by
  obtain ⟨ID, hID⟩ : ∃ ID : Nat, x.ID = ID := ⟨x.ID.toNat, by have := hx.id1; omega⟩
  obtain ⟨r, rfl⟩ : ∃ r : Nat, rd = r := ⟨rd.toNat, by omega⟩
  obtain ⟨k, hk⟩ : ∃ k : Nat, x.Sample = k := ⟨x.Sample.toNat, by have := hx.s1; omega⟩
  have g1 := hx.id1
  have g2 := hx.id2
  have g3 := hx.n1
  have g4 := hx.n2
  have g5 := hx.s1
  have g6 := hx.s2
  refine CSF.of_body T.en42 Tryz.func42 rfl (by simp [Tryz.ntmps42]) (by simp [go_sem]) fun hwf => ?_
  refine awp_reg_seq fun K hK => ?_
  simp [go_sem, Tryz.ntmps42, hID, hk]
  repeat refine ⟨by omega, ?_⟩
  refine hK _ ?_; clear hK K
  refine awp_reg_seq fun K hK => ?_
  simp [go_sem, hID, hk]
  repeat refine ⟨by omega, ?_⟩
  refine hK _ ?_; clear hK K
  refine awp_reg_seq fun K hK => ?_
  simp [go_sem, hID, hk]
  repeat refine ⟨by omega, ?_⟩
  refine CSk.gen (cloneIntM_cs _ none x.nu x.u (by omega)) ?_
  rintro r' σ' X ⟨rfl, rfl, rfl⟩
  simp [go_sem, hID, hk]
  repeat refine ⟨by omega, ?_⟩
  refine hK _ ?_; clear hK K
  refine awp_rows (σ.length + 3) (fun i => encI ((unN x i : Nat) : Int)) (by simp [go_sem]; first | exact ⟨rfl, rfl, rfl⟩ | exact ⟨rfl, rfl⟩ | rfl) (by
    intro q hq
    have := hx.u1 q hq
    simp only [encI, unN]; rw [Int.toNat_of_nonneg (by omega)]) (by simp [go_sem]; rfl) ?_
  refine awp_reg_seq fun K hK => ?_
  simp [go_sem, hID, hk]
  repeat refine ⟨by omega, ?_⟩
  refine CSk.gen (sortU_cs σ ID r x.nu _ (unN x) (by omega) (by omega) (fun i hi => by have := hx.u1 i hi; unfold unN; omega) (by omega) (by omega) hσ) ?_
  rintro r' σ' X ⟨rfl, rfl, L, hp, hs, rfl⟩
  have hL : ordL ID r (lst x.nu (unN x)) = L := ordL_eq ⟨hp, hs⟩
  have hLn : L.length = x.nu := by rw [hp.length_eq, lst_length]
  simp [go_sem, hID, hk]
  repeat refine ⟨by omega, ?_⟩
  refine hK _ ?_; clear hK K
  refine awp_reg_seq fun K hK => ?_
  simp [go_sem, hID, hk]
  repeat refine ⟨by omega, ?_⟩
  refine hK _ ?_; clear hK K
  refine awp_reg_seq fun K hK => ?_
  simp [go_sem, hID, hk]
  repeat refine ⟨by omega, ?_⟩
  have hso := fun B1 B2 B3 : Blk => sortI_cs (σ ++ [B1, B2, B3]) [] x.nu k (fun i => ((nth L i : Nat) : Int)) (by omega) (by omega) (by omega)
  simp only [List.append_assoc, List.cons_append, List.nil_append, List.length_append, List.length_cons, List.length_nil, Nat.zero_add, Nat.reduceAdd] at hso
  refine CSk.gen (hso _ _ _) ?_
  rintro r' σ' X ⟨rfl, rfl, L2, hp2, hs2, row, rfl, hrow⟩
  have hD : drawL x r = L2 := by
    unfold drawL
    rw [hID, Int.toNat_natCast, Int.toNat_natCast, hL, hk, Int.toNat_natCast]
    refine (sortI_eq (hp2.trans ?_) hs2).symm
    have : lst k (fun i => ((nth L i : Nat) : Int)) = (L.take k).map fun n : Nat => (n : Int) := by
      apply List.ext_getElem
      · rw [lst_length]; simp; omega
      · intro i a1 a2
        rw [lst_length] at a1
        simp [lst, nth, show i < L.length by omega]
    rw [this]
  have hDn : L2.length = k := by rw [hp2.length_eq, lst_length]
  simp [go_sem, hID, hk]
  repeat refine ⟨by omega, ?_⟩
  refine hK _ ?_; clear hK K
  refine awp_reg_seq fun K hK => ?_
  simp [go_sem, hID, hk]
  repeat refine ⟨by omega, ?_⟩
  refine hK _ ?_; clear hK K
  refine awp_shrink (σ.length + 3) k (fun i => encI (nth L2 i)) (by simp [go_sem]; first | exact ⟨rfl, rfl, rfl⟩ | exact ⟨rfl, rfl⟩ | rfl) (by omega) (fun i hi => hrow i hi) (by simp [go_sem]; rfl) ?_
  refine awp_freeze (σ.length + 3) (by simp [go_sem]; first | exact ⟨rfl, rfl, rfl⟩ | exact ⟨rfl, rfl⟩ | rfl) (by simp [go_sem]; rfl) (by simp [go_sem, hwf.frz, hwf.frz0]; rfl) ?_
  refine awp_ret ?_
  rw [hD, hDn]; simp [go_sem, Tryz.results42]
end Go.Proofs.YtldnolgijfkfpaaGreatDoor

/-! Cj -/
namespace Go.Proofs.YtldnolgijfkfpaaGreatDoor
open Go.Abs
set_option linter.unusedVariables false
set_option linter.unusedSimpArgs false
set_option maxRecDepth 100000
set_option maxHeartbeats 1000000
def subB (n : Nat) (g : Nat → Int) (m : Nat) (h : Nat → Int) : Bool := !((lst m h).any fun k => !memI n g k)
theorem subB_iff (n : Nat) (g : Nat → Int) (m : Nat) (h : Nat → Int) : subB n g m h = true ↔ ∀ i, i < m → memI n g (h i) = true := by
  unfold subB
  simp only [Bool.not_eq_true', lst, List.any_map, List.any_eq_false, List.mem_range, Function.comp, Bool.not_eq_true', Bool.not_eq_false', Bool.not_not]
  exact ⟨fun H i hi => by simpa using H i hi, fun H i hi => by simpa using H i hi⟩
noncomputable def badB (x : Bat) : Bool := decide (0 < x.nb) && !subB (drawL x x.Round).length (nth (drawL x x.Round)) x.nb x.b
noncomputable def chkB (x : Bat) : Int := if rngB x = false then 2 else if (!ascB x.u x.nu || !ascB x.b x.nb) = true then 5 else if badB x = true then 7 else if fitsB x = false then 11 else 0
theorem rng_no : ∀ {a b c d e f g : Bool}, ((!a || !b || !c || !d || e) || !f || !g) = true → (a && b && c && d && !e && f && g) = false := by decide
theorem rng_yes : ∀ {a b c d e f g : Bool}, ((!a || !b || !c || !d || e) || !f || !g) = false → (a && b && c && d && !e && f && g) = true := by decide
theorem chk_2 {x : Bat} (h : rngB x = false) : chkB x = 2 := by unfold chkB; rw [if_pos h]
theorem chk_5 {x : Bat} (h : rngB x = true) (h1 : (!ascB x.u x.nu || !ascB x.b x.nb) = true) : chkB x = 5 := by unfold chkB; rw [if_neg (by simp [h]), if_pos h1]
theorem chk_7 {x : Bat} (h : rngB x = true) (h1 : (!ascB x.u x.nu || !ascB x.b x.nb) = false) (h2 : badB x = true) : chkB x = 7 := by unfold chkB; rw [if_neg (by simp [h]), if_neg (by rw [h1]; decide), if_pos h2]
theorem chk_11 {x : Bat} (h : rngB x = true) (h1 : (!ascB x.u x.nu || !ascB x.b x.nb) = false) (h2 : badB x = false) (h3 : fitsB x = false) : chkB x = 11 := by unfold chkB; rw [if_neg (by simp [h]), if_neg (by rw [h1]; decide), if_neg (by simp [h2]), if_pos h3]
theorem chk_0 {x : Bat} (h : rngB x = true) (h1 : (!ascB x.u x.nu || !ascB x.b x.nb) = false) (h2 : badB x = false) (h3 : fitsB x = true) : chkB x = 0 := by unfold chkB; rw [if_neg (by simp [h]), if_neg (by rw [h1]; decide), if_neg (by simp [h2]), if_neg (by simp [h3])]
theorem contains1_cs (σ : List Blk) (τ : List Blk) (c : Option Nat) (n : Nat) (g : Nat → Int) (k : Int) (hn : n < 1000000000) : CSF Tryz.prog 59 [.d (I k), .ptr σ.length 0] (σ ++ .var [.d (SL c 1 encI n g)] :: τ) (.d (B (!memI n g k))) := by
  refine CSF.of_body T.en59 Tryz.func59 rfl (by simp [Tryz.ntmps59]) (by simp [go_sem]) fun hwf => ?_
  refine awp_reg_seq fun K hK => ?_
  simp [go_sem, Tryz.ntmps59]
  repeat refine ⟨by omega, ?_⟩
  refine hK _ ?_; clear hK K
  refine awp_reg_seq fun K hK => ?_
  simp [go_sem]
  repeat refine ⟨by omega, ?_⟩
  refine CSk.mk (containsOf_cs _ c n g k hn) ?_
  simp [go_sem]
  repeat refine ⟨by omega, ?_⟩
  refine hK _ ?_; clear hK K
  refine awp_ret ?_
  simp [go_sem, Tryz.results59] <;> omega
theorem digitize_contains_cs (σ : List Blk) (c c' : Option Nat) (n : Nat) (g : Nat → Int) (m : Nat) (h : Nat → Int) (hn : n < 1000000000) (hm : m < 1000000000) : CSF Tryz.prog 41 [.d (SL c 1 encI n g), .d (SL c' 1 encI m h)] σ (.d (B (subB n g m h))) := by
  refine CSF.of_body T.en41 Tryz.func41 rfl (by simp [Tryz.ntmps41]) (by simp [go_sem]) fun hwf => ?_
  refine awp_reg_seq fun K hK => ?_
  simp [go_sem, Tryz.ntmps41]
  repeat refine ⟨by omega, ?_⟩
  refine hK _ ?_; clear hK K
  refine awp_reg_seq fun K hK => ?_
  simp [go_sem]
  repeat refine ⟨by omega, ?_⟩
  refine CSk.mk (containsInt_cs _ c' m h 59 [.ptr σ.length 0] (fun k => !memI n g k) hm (fun i hi => contains1_cs σ [] c n g (h i) hn)) ?_
  simp [go_sem]
  repeat refine ⟨by omega, ?_⟩
  refine hK _ ?_; clear hK K
  refine awp_ret ?_
  simp [go_sem, Tryz.results41, subB] <;> omega
theorem digitize_Check_cs (σ : List Blk) (x : Bat) (hn : x.nu < 1000000000) (hm : x.nb < 1000000000) (hσ : σ[0]? = some (.tab 0 powV)) : CSF Tryz.prog 16 [.agg (x.enc.map .d)] σ (.d (I (chkB x))) := by
  refine CSF.of_body T.en16 Tryz.func16 rfl (by simp [Tryz.ntmps16]) (by simp [go_sem]) fun hwf => ?_
  refine awp_reg_seq fun K hK => ?_
  simp [go_sem, Tryz.ntmps16]
  repeat refine ⟨by omega, ?_⟩
  refine hK _ ?_; clear hK K
  refine awp_seq ?_
  refine awp_block ?_
  refine awp_reg_seq fun K hK => ?_
  simp [go_sem]
  try simp (disch := omega) only [wrapI]
  repeat refine ⟨by omega, ?_⟩
  refine CSk.mk (digitize_id_cs _ x.ID) ?_
  simp [go_sem]
  try simp (disch := omega) only [wrapI]
  repeat refine ⟨by omega, ?_⟩
  refine CSm.mk (digitize_in_cs _ x.Day 0 1048575) ?_
  simp [go_sem]
  try simp (disch := omega) only [wrapI]
  repeat refine ⟨by omega, ?_⟩
  refine CSm.mk (digitize_in_cs _ x.Round 0 1024) ?_
  simp [go_sem]
  try simp (disch := omega) only [wrapI]
  repeat refine ⟨by omega, ?_⟩
  refine CSm.mk (digitize_in_cs _ x.nu 1 60) ?_
  simp [go_sem]
  try simp (disch := omega) only [wrapI]
  repeat refine ⟨by omega, ?_⟩
  refine CSm.mk (containsInt_cs _ none x.nu x.u 39 [] (fun n => !idB n) hn (fun i hi => digitize_Check_1_cs _ (x.u i))) ?_
  simp [go_sem]
  try simp (disch := omega) only [wrapI]
  repeat refine ⟨by omega, ?_⟩
  refine CSm.mk (digitize_in_cs _ x.Sample 1 x.nu) ?_
  simp [go_sem]
  try simp (disch := omega) only [wrapI]
  repeat refine ⟨by omega, ?_⟩
  refine CSm.mk (digitize_in_cs _ x.Accept 0 (IntKind.i64.wrap (x.Sample - 1))) ?_
  simp [go_sem]
  try simp (disch := omega) only [wrapI]
  repeat refine ⟨by omega, ?_⟩
  refine hK _ ?_; clear hK K
  refine awp_forget [1, 3] (by simp only [restr, List.contains_cons, List.contains_nil, Nat.reduceBEq, Bool.or_false, Bool.or_true, Bool.true_or, Bool.false_or, if_true, if_false, Bool.false_eq_true]; rfl) ?_
  refine awp_cond rfl (fun c0 => ?_) (fun c0 => ?_)
  · have d0 := c0; try simp at d0
    have hz : rngB x = false := rng_no c0
    refine awp_reg_seq fun K hK => ?_
    simp [go_sem, c0, d0]
    repeat refine ⟨by omega, ?_⟩
    refine hK _ ?_; clear hK K
    refine awp_ret ?_
    rw [chk_2 hz]; simp [go_sem, Tryz.results16]
  · have d0 := c0; try simp at d0
    have hz : rngB x = true := rng_yes c0
    have hx := (rngB_iff x).1 hz
    have hr1 := hx.r1
    have hr2 := hx.r2
    refine awp_reg_seq fun K hK => ?_
    simp [go_sem, c0, d0]
    repeat refine ⟨by omega, ?_⟩
    refine CSk.mk (digitize_increase_cs _ none x.nu x.u hn) ?_
    simp [go_sem, c0, d0]
    repeat refine ⟨by omega, ?_⟩
    refine CSm.mk (digitize_increase_cs _ none x.nb x.b hm) ?_
    simp [go_sem, c0, d0]
    repeat refine ⟨by omega, ?_⟩
    refine hK _ ?_; clear hK K
    refine awp_forget [1, 50] (by simp only [restr, List.contains_cons, List.contains_nil, Nat.reduceBEq, Bool.or_false, Bool.or_true, Bool.true_or, Bool.false_or, if_true, if_false, Bool.false_eq_true]; rfl) ?_
    refine awp_cond rfl (fun c1 => ?_) (fun c1 => ?_)
    · have d1 := c1; try simp at d1
      refine awp_reg_seq fun K hK => ?_
      simp [go_sem, c0, d0, c1, d1]
      repeat refine ⟨by omega, ?_⟩
      refine hK _ ?_; clear hK K
      refine awp_ret ?_
      rw [chk_5 hz c1]; simp [go_sem, Tryz.results16]
    · have d1 := c1; try simp at d1
      refine awp_draw_seq 15 T.mixed (by kernel_rfl) fun K hK => ?_
      simp [go_sem, c0, d0, c1, d1]
      repeat refine ⟨by omega, ?_⟩
      refine CSg.mk' _ (fun _ => digitize_drawn_cs _ x x.Round hx hr1 hr2 (loc_app hσ)) ?_
      simp [go_sem, c0, d0, c1, d1]
      repeat refine ⟨by omega, ?_⟩
      refine CSg.mk' _ (fun _ => digitize_contains_cs _ none none (drawL x x.Round).length (nth (drawL x x.Round)) x.nb x.b (by have := drawL_le x x.Round; omega) hm) ?_
      simp [go_sem, c0, d0, c1, d1]
      repeat refine ⟨by omega, ?_⟩
      refine hK _ ?_; clear hK K
      refine awp_forget [1, 61] (by simp only [restr, List.contains_cons, List.contains_nil, Nat.reduceBEq, Bool.or_false, Bool.or_true, Bool.true_or, Bool.false_or, if_true, if_false, Bool.false_eq_true]; rfl) ?_
      refine awp_cond rfl (fun c2 => ?_) (fun c2 => ?_)
      · have d2 := c2; try simp at d2
        refine awp_reg_seq fun K hK => ?_
        simp [go_sem, c0, d0, c1, d1, c2, d2]
        repeat refine ⟨by omega, ?_⟩
        refine hK _ ?_; clear hK K
        refine awp_ret ?_
        rw [chk_7 hz c1 c2]; simp [go_sem, Tryz.results16]
      · have d2 := c2; try simp at d2
        refine awp_reg_seq fun K hK => ?_
        simp [go_sem, c0, d0, c1, d1, c2, d2]
        repeat refine ⟨by omega, ?_⟩
        refine CSk.mk (digitize_fits_cs _ x hn hm) ?_
        simp [go_sem, c0, d0, c1, d1, c2, d2]
        repeat refine ⟨by omega, ?_⟩
        refine hK _ ?_; clear hK K
        refine awp_forget [76] (by simp only [restr, List.contains_cons, List.contains_nil, Nat.reduceBEq, Bool.or_false, Bool.or_true, Bool.true_or, Bool.false_or, if_true, if_false, Bool.false_eq_true]; rfl) ?_
        refine awp_cond rfl (fun c3 => ?_) (fun c3 => ?_)
        · have d3 := c3; try simp at d3
          refine awp_reg_seq fun K hK => ?_
          simp [go_sem, c0, d0, c1, d1, c2, d2, c3, d3]
          repeat refine ⟨by omega, ?_⟩
          refine hK _ ?_; clear hK K
          refine awp_ret ?_
          rw [chk_11 hz c1 c2 (by simpa using c3)]; simp [go_sem, Tryz.results16]
        · have d3 := c3; try simp at d3
          refine awp_skip ?_
          refine awp_reg_seq fun K hK => ?_
          simp [go_sem, c0, d0, c1, d1, c2, d2, c3, d3]
          repeat refine ⟨by omega, ?_⟩
          refine hK _ ?_; clear hK K
          refine awp_ret ?_
          rw [chk_0 hz c1 c2 (by simpa using c3)]; simp [go_sem, Tryz.results16]
def bat0 : Bat := ⟨0, 0, 0, 0, 0, 0, 0, fun _ => 0, 0, fun _ => 0⟩
def newB (id day : Int) (n : Nat) (u : Nat → Int) (s a : Int) : Bat := ⟨id, day, 1, 0, s, a, n, u, 0, fun _ => 0⟩
noncomputable def makeP (id day : Int) (n : Nat) (u : Nat → Int) (s a : Int) : Bat × Int := if chkB (newB id day n u s a) ≠ 0 then (bat0, chkB (newB id day n u s a)) else (newB id day n u s a, 0)
noncomputable def drawnP (x : Bat) (rd : Int) : List Int × Int := if chkB x ≠ 0 then ([], 1) else if inB rd 1 1024 = false then ([], 2) else (drawL x rd, 0)
def scanB (x : Bat) : Bat := { x with State := 2, Round := x.Round + 1, nb := 0, b := fun _ => 0 }
noncomputable def scanP (x : Bat) : Bat × Int := if chkB x ≠ 0 then (bat0, 1) else if (x.State != 1 && x.State != 4) = true then (bat0, 11) else if x.Round = 1024 then (bat0, 15) else (scanB x, 0)
def inspB (x : Bat) (m : Nat) (h : Nat → Int) : Bat := { x with State := if x.Accept < m then 4 else 3, nb := m, b := h }
noncomputable def inspP (x : Bat) (m : Nat) (h : Nat → Int) : Bat × Int :=
  if chkB x ≠ 0 then (bat0, 1) else if x.State ≠ 2 then (bat0, 11) else if ascB h m = false then (bat0, 5) else if subB (drawL x x.Round).length (nth (drawL x x.Round)) m h = false then (bat0, 7) else (inspB x m h, 0)
theorem chk_rng {x : Bat} (h : chkB x = 0) : Rng x := by
  cases hr : rngB x with
  | true => exact (rngB_iff x).1 hr
  | false => rw [chk_2 hr] at h; cases h
theorem digitize_clone_cs (σ : List Blk) (x : Bat) (hn : x.nu < 1000000000) (hm : x.nb < 1000000000) : CSF Tryz.prog 52 [.agg (x.enc.map .d)] σ (.agg (x.enc.map .d)) := by
  refine CSF.of_body T.en52 Tryz.func52 rfl (by simp [Tryz.ntmps52]) (by simp [go_sem]) fun hwf => ?_
  refine awp_reg_seq fun K hK => ?_
  simp [go_sem, Tryz.ntmps52]
  repeat refine ⟨by omega, ?_⟩
  refine hK _ ?_; clear hK K
  refine awp_draw_seq 7 T.mixed (by kernel_rfl) fun K hK => ?_
  simp [go_sem]
  repeat refine ⟨by omega, ?_⟩
  refine CSg.mk (cloneInt_cs _ none x.nu x.u hn) ?_
  simp [go_sem]
  repeat refine ⟨by omega, ?_⟩
  refine CSg.mk (cloneInt_cs _ none x.nb x.b hm) ?_
  simp [go_sem]
  repeat refine ⟨by omega, ?_⟩
  refine hK _ ?_; clear hK K
  refine awp_reg_seq fun K hK => ?_
  simp [go_sem]
  repeat refine ⟨by omega, ?_⟩
  refine hK _ ?_; clear hK K
  refine awp_ret ?_
  simp [go_sem, Tryz.results52] <;> omega
theorem digitize_Make_cs (σ : List Blk) (id day : Int) (c : Option Nat) (n : Nat) (u : Nat → Int) (s a : Int) (hn : n < 1000000000) (hσ : σ[0]? = some (.tab 0 powV)) : CSF Tryz.prog 13 [.d (I id), .d (I day), .d (SL c 1 encI n u), .d (I s), .d (I a)] σ (.tup [.agg ((makeP id day n u s a).1.enc.map .d), .d (I (makeP id day n u s a).2)]) := by
  refine CSF.of_body T.en13 Tryz.func13 rfl (by simp [Tryz.ntmps13]) (by simp [go_sem]) fun hwf => ?_
  refine awp_reg_seq fun K hK => ?_
  simp [go_sem, Tryz.ntmps13]
  repeat refine ⟨by omega, ?_⟩
  refine hK _ ?_; clear hK K
  refine awp_reg_seq fun K hK => ?_
  simp [go_sem]
  repeat refine ⟨by omega, ?_⟩
  refine CSk.mk (cloneInt_cs _ c n u hn) ?_
  simp [go_sem]
  repeat refine ⟨by omega, ?_⟩
  refine hK _ ?_; clear hK K
  refine awp_seq ?_
  refine awp_reg_seq fun K hK => ?_
  simp [go_sem]
  repeat refine ⟨by omega, ?_⟩
  refine CSk.mk ((digitize_Check_cs _ (newB id day n u s a) hn (show (0 : Nat) < 1000000000 by decide) (loc_app hσ)).sub (by simp [go_sem, sameL, sameE, sameL0, Go.Abs.sameA, newB])) ?_
  simp [go_sem]
  repeat refine ⟨by omega, ?_⟩
  refine hK _ ?_; clear hK K
  refine awp_reg_seq fun K hK => ?_
  simp [go_sem]
  repeat refine ⟨by omega, ?_⟩
  refine hK _ ?_; clear hK K
  refine awp_forget [10, 12, 13, 24] (by simp only [restr, List.contains_cons, List.contains_nil, Nat.reduceBEq, Bool.or_false, Bool.or_true, Bool.true_or, Bool.false_or, if_true, if_false, Bool.false_eq_true]; rfl) ?_
  refine awp_cond rfl (fun c0 => ?_) (fun c0 => ?_)
  · have d0 := c0; try simp at d0
    have hz : makeP id day n u s a = (bat0, chkB (newB id day n u s a)) := by unfold makeP; rw [if_pos d0]
    refine awp_reg_seq fun K hK => ?_
    simp [go_sem, c0, d0]
    repeat refine ⟨by omega, ?_⟩
    refine hK _ ?_; clear hK K
    refine awp_ret ?_
    rw [hz]; simp [go_sem, Tryz.results13, sameL0, Go.Abs.sameA, bat0]
  · have d0 := c0; try simp at d0
    have hz : makeP id day n u s a = (newB id day n u s a, 0) := by unfold makeP; rw [if_neg (by simpa using d0)]
    refine awp_skip ?_
    refine awp_reg_seq fun K hK => ?_
    simp [go_sem, c0, d0]
    repeat refine ⟨by omega, ?_⟩
    refine hK _ ?_; clear hK K
    refine awp_ret ?_
    rw [hz]; simp [go_sem, Tryz.results13, sameL0, Go.Abs.sameA, newB]
theorem digitize_Drawn_cs (σ : List Blk) (x : Bat) (rd : Int) (hn : x.nu < 1000000000) (hm : x.nb < 1000000000) (hσ : σ[0]? = some (.tab 0 powV)) : CSF Tryz.prog 22 [.agg (x.enc.map .d), .d (I rd)] σ (.tup [.d (SL none 1 encI (drawnP x rd).1.length (nth (drawnP x rd).1)), .d (I (drawnP x rd).2)]) := by
  refine CSF.of_body T.en22 Tryz.func22 rfl (by simp [Tryz.ntmps22]) (by simp [go_sem]) fun hwf => ?_
  refine awp_reg_seq fun K hK => ?_
  simp [go_sem, Tryz.ntmps22]
  repeat refine ⟨by omega, ?_⟩
  refine hK _ ?_; clear hK K
  refine awp_seq ?_
  refine awp_block ?_
  refine awp_reg_seq fun K hK => ?_
  simp [go_sem]
  repeat refine ⟨by omega, ?_⟩
  refine CSk.mk (digitize_Check_cs _ x hn hm (loc_app hσ)) ?_
  simp [go_sem]
  repeat refine ⟨by omega, ?_⟩
  refine hK _ ?_; clear hK K
  refine awp_forget [1, 2, 6] (by simp only [restr, List.contains_cons, List.contains_nil, Nat.reduceBEq, Bool.or_false, Bool.or_true, Bool.true_or, Bool.false_or, if_true, if_false, Bool.false_eq_true]; rfl) ?_
  refine awp_cond rfl (fun c0 => ?_) (fun c0 => ?_)
  · have d0 := c0; try simp at d0
    have hz : drawnP x rd = ([], 1) := by unfold drawnP; rw [if_pos d0]
    refine awp_reg_seq fun K hK => ?_
    simp [go_sem, c0, d0]
    repeat refine ⟨by omega, ?_⟩
    refine hK _ ?_; clear hK K
    refine awp_ret ?_
    rw [hz]; simp [go_sem, Tryz.results22, sameL0, Go.Abs.sameA]
  · have d0 := c0; try simp at d0
    have hch : chkB x = 0 := by simpa using d0
    have hx := chk_rng hch
    refine awp_reg_seq fun K hK => ?_
    simp [go_sem, c0, d0]
    repeat refine ⟨by omega, ?_⟩
    refine CSk.mk (digitize_in_cs _ rd 1 1024) ?_
    simp [go_sem, c0, d0]
    repeat refine ⟨by omega, ?_⟩
    refine hK _ ?_; clear hK K
    refine awp_forget [1, 2, 10] (by simp only [restr, List.contains_cons, List.contains_nil, Nat.reduceBEq, Bool.or_false, Bool.or_true, Bool.true_or, Bool.false_or, if_true, if_false, Bool.false_eq_true]; rfl) ?_
    refine awp_cond rfl (fun c1 => ?_) (fun c1 => ?_)
    · have d1 := c1; try simp at d1
      have hz : drawnP x rd = ([], 2) := by unfold drawnP; rw [if_neg (by simp [hch]), if_pos (by simpa using c1)]
      refine awp_reg_seq fun K hK => ?_
      simp [go_sem, c0, d0, c1, d1]
      repeat refine ⟨by omega, ?_⟩
      refine hK _ ?_; clear hK K
      refine awp_ret ?_
      rw [hz]; simp [go_sem, Tryz.results22, sameL0, Go.Abs.sameA]
    · have d1 := c1; try simp at d1
      have hz : drawnP x rd = (drawL x rd, 0) := by unfold drawnP; rw [if_neg (by simp [hch]), if_neg (by simpa using c1)]
      have hrd : 1 ≤ rd ∧ rd ≤ 1024 := by
        have : inB rd 1 1024 = true := by simpa using c1
        simpa [inB] using this
      refine awp_skip ?_
      refine awp_reg_seq fun K hK => ?_
      simp [go_sem, c0, d0, c1, d1]
      repeat refine ⟨by omega, ?_⟩
      refine CSk.mk (digitize_drawn_cs _ x rd hx (by omega) (by omega) (loc_app hσ)) ?_
      simp [go_sem, c0, d0, c1, d1]
      repeat refine ⟨by omega, ?_⟩
      refine hK _ ?_; clear hK K
      refine awp_ret ?_
      rw [hz]; simp [go_sem, Tryz.results22, sameL0, Go.Abs.sameA]
theorem digitize_Scan_cs (σ : List Blk) (x : Bat) (hn : x.nu < 1000000000) (hm : x.nb < 1000000000) (hσ : σ[0]? = some (.tab 0 powV)) : CSF Tryz.prog 25 [.agg (x.enc.map .d)] σ (.tup [.agg ((scanP x).1.enc.map .d), .d (I (scanP x).2)]) := by
  refine CSF.of_body T.en25 Tryz.func25 rfl (by simp [Tryz.ntmps25]) (by simp [go_sem]) fun hwf => ?_
  refine awp_reg_seq fun K hK => ?_
  simp [go_sem, Tryz.ntmps25]
  repeat refine ⟨by omega, ?_⟩
  refine hK _ ?_; clear hK K
  refine awp_seq ?_
  refine awp_block ?_
  refine awp_reg_seq fun K hK => ?_
  simp [go_sem]
  repeat refine ⟨by omega, ?_⟩
  refine CSk.mk (digitize_Check_cs _ x hn hm (loc_app hσ)) ?_
  simp [go_sem]
  repeat refine ⟨by omega, ?_⟩
  refine hK _ ?_; clear hK K
  refine awp_forget [1, 2, 5] (by simp only [restr, List.contains_cons, List.contains_nil, Nat.reduceBEq, Bool.or_false, Bool.or_true, Bool.true_or, Bool.false_or, if_true, if_false, Bool.false_eq_true]; rfl) ?_
  refine awp_cond rfl (fun c0 => ?_) (fun c0 => ?_)
  · have d0 := c0; try simp at d0
    have hz : scanP x = (bat0, 1) := by unfold scanP; rw [if_pos d0]
    refine awp_reg_seq fun K hK => ?_
    simp [go_sem, c0, d0]
    repeat refine ⟨by omega, ?_⟩
    refine hK _ ?_; clear hK K
    refine awp_ret ?_
    rw [hz]; simp [go_sem, Tryz.results25, sameL0, Go.Abs.sameA, bat0]
  · have d0 := c0; try simp at d0
    have hch : chkB x = 0 := by simpa using d0
    have hx := chk_rng hch
    have hr1 := hx.r1
    have hr2 := hx.r2
    have hwr : IntKind.i64.wrap (x.Round + 1) = x.Round + 1 := wrapI (by omega) (by omega)
    refine awp_reg_seq fun K hK => ?_
    simp [go_sem, c0, d0, hwr]
    repeat refine ⟨by omega, ?_⟩
    refine hK _ ?_; clear hK K
    refine awp_forget [1, 2, 10] (by simp only [restr, List.contains_cons, List.contains_nil, Nat.reduceBEq, Bool.or_false, Bool.or_true, Bool.true_or, Bool.false_or, if_true, if_false, Bool.false_eq_true]; rfl) ?_
    refine awp_cond rfl (fun c1 => ?_) (fun c1 => ?_)
    · have d1 := c1; try simp at d1
      have hz : scanP x = (bat0, 11) := by unfold scanP; rw [if_neg (by simp [hch]), if_pos (by simpa using c1)]
      refine awp_reg_seq fun K hK => ?_
      simp [go_sem, c0, d0, hwr, c1, d1]
      repeat refine ⟨by omega, ?_⟩
      refine hK _ ?_; clear hK K
      refine awp_ret ?_
      rw [hz]; simp [go_sem, Tryz.results25, sameL0, Go.Abs.sameA, bat0]
    · have d1 := c1; try simp at d1
      refine awp_reg_seq fun K hK => ?_
      simp [go_sem, c0, d0, hwr, c1, d1]
      repeat refine ⟨by omega, ?_⟩
      refine hK _ ?_; clear hK K
      refine awp_forget [1, 2, 20] (by simp only [restr, List.contains_cons, List.contains_nil, Nat.reduceBEq, Bool.or_false, Bool.or_true, Bool.true_or, Bool.false_or, if_true, if_false, Bool.false_eq_true]; rfl) ?_
      refine awp_cond rfl (fun c2 => ?_) (fun c2 => ?_)
      · have d2 := c2; try simp at d2
        have hz : scanP x = (bat0, 15) := by unfold scanP; rw [if_neg (by simp [hch]), if_neg (by simpa using c1), if_pos d2]
        refine awp_reg_seq fun K hK => ?_
        simp [go_sem, c0, d0, hwr, c1, d1, c2, d2]
        repeat refine ⟨by omega, ?_⟩
        refine hK _ ?_; clear hK K
        refine awp_ret ?_
        rw [hz]; simp [go_sem, Tryz.results25, sameL0, Go.Abs.sameA, bat0]
      · have d2 := c2; try simp at d2
        have hz : scanP x = (scanB x, 0) := by unfold scanP; rw [if_neg (by simp [hch]), if_neg (by simpa using c1), if_neg d2]
        refine awp_skip ?_
        refine awp_reg_seq fun K hK => ?_
        simp [go_sem, c0, d0, hwr, c1, d1, c2, d2]
        repeat refine ⟨by omega, ?_⟩
        refine CSk.mk (digitize_clone_cs _ x hn hm) ?_
        simp [go_sem, c0, d0, hwr, c1, d1, c2, d2]
        repeat refine ⟨by omega, ?_⟩
        refine hK _ ?_; clear hK K
        apply awp_late_seq 5 4 T.mixed (by kernel_rfl)
        · intro K hK
          simp [go_sem, c0, d0, hwr, c1, d1, c2, d2]
          try simp (disch := omega) only [wrapI]
          repeat refine ⟨by omega, ?_⟩
          exact hK _ _
        · simp [go_sem, c0, d0, hwr, c1, d1, c2, d2]; rfl
        · intro K hK
          simp [go_sem, c0, d0, hwr, c1, d1, c2, d2]
          try simp (disch := omega) only [wrapI]
          repeat refine ⟨by omega, ?_⟩
          exact hK _ _
        intro K hK
        simp [go_sem, c0, d0, hwr, c1, d1, c2, d2]
        try simp (disch := omega) only [wrapI]
        repeat refine ⟨by omega, ?_⟩
        refine hK _ ?_; clear hK K
        refine awp_reg_seq fun K hK => ?_
        simp [go_sem, c0, d0, hwr, c1, d1, c2, d2]
        repeat refine ⟨by omega, ?_⟩
        refine hK _ ?_; clear hK K
        refine awp_ret ?_
        rw [hz]; simp [go_sem, Tryz.results25, sameL0, Go.Abs.sameA, scanB]
theorem digitize_Inspect_cs (σ : List Blk) (x : Bat) (c : Option Nat) (m : Nat) (h : Nat → Int) (hn : x.nu < 1000000000) (hm : x.nb < 1000000000) (hk : m < 1000000000) (hσ : σ[0]? = some (.tab 0 powV)) : CSF Tryz.prog 27 [.agg (x.enc.map .d), .d (SL c 1 encI m h)] σ (.tup [.agg ((inspP x m h).1.enc.map .d), .d (I (inspP x m h).2)]) := by
  refine CSF.of_body T.en27 Tryz.func27 rfl (by simp [Tryz.ntmps27]) (by simp [go_sem]) fun hwf => ?_
  refine awp_reg_seq fun K hK => ?_
  simp [go_sem, Tryz.ntmps27]
  repeat refine ⟨by omega, ?_⟩
  refine hK _ ?_; clear hK K
  refine awp_seq ?_
  refine awp_block ?_
  refine awp_reg_seq fun K hK => ?_
  simp [go_sem]
  repeat refine ⟨by omega, ?_⟩
  refine CSk.mk (digitize_Check_cs _ x hn hm (loc_app hσ)) ?_
  simp [go_sem]
  repeat refine ⟨by omega, ?_⟩
  refine hK _ ?_; clear hK K
  refine awp_forget [1, 2, 4, 7] (by simp only [restr, List.contains_cons, List.contains_nil, Nat.reduceBEq, Bool.or_false, Bool.or_true, Bool.true_or, Bool.false_or, if_true, if_false, Bool.false_eq_true]; rfl) ?_
  refine awp_cond rfl (fun c0 => ?_) (fun c0 => ?_)
  · have d0 := c0; try simp at d0
    have hz : inspP x m h = (bat0, 1) := by unfold inspP; rw [if_pos d0]
    refine awp_reg_seq fun K hK => ?_
    simp [go_sem, c0, d0]
    repeat refine ⟨by omega, ?_⟩
    refine hK _ ?_; clear hK K
    refine awp_ret ?_
    rw [hz]; simp [go_sem, Tryz.results27, sameL0, Go.Abs.sameA, bat0]
  · have d0 := c0; try simp at d0
    have hch : chkB x = 0 := by simpa using d0
    have hx := chk_rng hch
    have hr1 := hx.r1
    have hr2 := hx.r2
    refine awp_reg_seq fun K hK => ?_
    simp [go_sem, c0, d0]
    repeat refine ⟨by omega, ?_⟩
    refine hK _ ?_; clear hK K
    refine awp_forget [1, 2, 4, 12] (by simp only [restr, List.contains_cons, List.contains_nil, Nat.reduceBEq, Bool.or_false, Bool.or_true, Bool.true_or, Bool.false_or, if_true, if_false, Bool.false_eq_true]; rfl) ?_
    refine awp_cond rfl (fun c1 => ?_) (fun c1 => ?_)
    · have d1 := c1; try simp at d1
      have hz : inspP x m h = (bat0, 11) := by unfold inspP; rw [if_neg (by simp [hch]), if_pos d1]
      refine awp_reg_seq fun K hK => ?_
      simp [go_sem, c0, d0, c1, d1]
      repeat refine ⟨by omega, ?_⟩
      refine hK _ ?_; clear hK K
      refine awp_ret ?_
      rw [hz]; simp [go_sem, Tryz.results27, sameL0, Go.Abs.sameA, bat0]
    · have d1 := c1; try simp at d1
      have h2 : x.State = 2 := by simpa using d1
      clear d1 c1
      have d1 : True := trivial
      have c1 : True := trivial
      refine awp_reg_seq fun K hK => ?_
      simp [go_sem, c0, d0, c1, d1]
      repeat refine ⟨by omega, ?_⟩
      refine CSk.mk (digitize_increase_cs _ c m h hk) ?_
      simp [go_sem, c0, d0, c1, d1]
      repeat refine ⟨by omega, ?_⟩
      refine hK _ ?_; clear hK K
      refine awp_forget [1, 2, 4, 17] (by simp only [restr, List.contains_cons, List.contains_nil, Nat.reduceBEq, Bool.or_false, Bool.or_true, Bool.true_or, Bool.false_or, if_true, if_false, Bool.false_eq_true]; rfl) ?_
      refine awp_cond rfl (fun c2 => ?_) (fun c2 => ?_)
      · have d2 := c2; try simp at d2
        have hz : inspP x m h = (bat0, 5) := by unfold inspP; rw [if_neg (by simp [hch]), if_neg (by simp [h2]), if_pos (by simpa using c2)]
        refine awp_reg_seq fun K hK => ?_
        simp [go_sem, c0, d0, c1, d1, c2, d2]
        repeat refine ⟨by omega, ?_⟩
        refine hK _ ?_; clear hK K
        refine awp_ret ?_
        rw [hz]; simp [go_sem, Tryz.results27, sameL0, Go.Abs.sameA, bat0]
      · have d2 := c2; try simp at d2
        refine awp_reg_seq fun K hK => ?_
        simp [go_sem, c0, d0, c1, d1, c2, d2]
        repeat refine ⟨by omega, ?_⟩
        refine CSk.mk (digitize_drawn_cs _ x x.Round hx hr1 hr2 (loc_app hσ)) ?_
        simp [go_sem, c0, d0, c1, d1, c2, d2]
        repeat refine ⟨by omega, ?_⟩
        refine CSk.mk (digitize_contains_cs _ none c (drawL x x.Round).length (nth (drawL x x.Round)) m h (by have := drawL_le x x.Round; omega) hk) ?_
        simp [go_sem, c0, d0, c1, d1, c2, d2]
        repeat refine ⟨by omega, ?_⟩
        refine hK _ ?_; clear hK K
        refine awp_forget [1, 2, 4, 22] (by simp only [restr, List.contains_cons, List.contains_nil, Nat.reduceBEq, Bool.or_false, Bool.or_true, Bool.true_or, Bool.false_or, if_true, if_false, Bool.false_eq_true]; rfl) ?_
        refine awp_cond rfl (fun c3 => ?_) (fun c3 => ?_)
        · have d3 := c3; try simp at d3
          have hz : inspP x m h = (bat0, 7) := by unfold inspP; rw [if_neg (by simp [hch]), if_neg (by simp [h2]), if_neg (by simpa using c2), if_pos (by simpa using c3)]
          refine awp_reg_seq fun K hK => ?_
          simp [go_sem, c0, d0, c1, d1, c2, d2, c3, d3]
          repeat refine ⟨by omega, ?_⟩
          refine hK _ ?_; clear hK K
          refine awp_ret ?_
          rw [hz]; simp [go_sem, Tryz.results27, sameL0, Go.Abs.sameA, bat0]
        · have d3 := c3; try simp at d3
          have hz : inspP x m h = (inspB x m h, 0) := by unfold inspP; rw [if_neg (by simp [hch]), if_neg (by simp [h2]), if_neg (by simpa using c2), if_neg (by simpa using c3)]
          refine awp_skip ?_
          refine awp_reg_seq fun K hK => ?_
          simp [go_sem, c0, d0, c1, d1, c2, d2, c3, d3]
          repeat refine ⟨by omega, ?_⟩
          refine CSk.mk (digitize_clone_cs _ x hn hm) ?_
          simp [go_sem, c0, d0, c1, d1, c2, d2, c3, d3]
          repeat refine ⟨by omega, ?_⟩
          refine hK _ ?_; clear hK K
          refine awp_reg_seq fun K hK => ?_
          simp [go_sem, c0, d0, c1, d1, c2, d2, c3, d3]
          repeat refine ⟨by omega, ?_⟩
          refine CSk.mk (cloneInt_cs _ c m h hk) ?_
          simp [go_sem, c0, d0, c1, d1, c2, d2, c3, d3]
          repeat refine ⟨by omega, ?_⟩
          refine hK _ ?_; clear hK K
          refine awp_seq ?_
          refine awp_reg_seq fun K hK => ?_
          simp [go_sem, c0, d0, c1, d1, c2, d2, c3, d3]
          repeat refine ⟨by omega, ?_⟩
          refine hK _ ?_; clear hK K
          refine awp_forget [4, 6, 41] (by simp only [restr, List.contains_cons, List.contains_nil, Nat.reduceBEq, Bool.or_false, Bool.or_true, Bool.true_or, Bool.false_or, if_true, if_false, Bool.false_eq_true]; rfl) ?_
          refine awp_cond rfl (fun c4 => ?_) (fun c4 => ?_)
          · have d4 := c4; try simp at d4
            refine awp_reg_end fun K hK => ?_
            simp [go_sem, c0, d0, c1, d1, c2, d2, c3, d3, c4, d4]
            repeat refine ⟨by omega, ?_⟩
            refine hK _ ?_; clear hK K
            refine awp_reg_seq fun K hK => ?_
            simp [go_sem, c0, d0, c1, d1, c2, d2, c3, d3, c4, d4]
            repeat refine ⟨by omega, ?_⟩
            refine hK _ ?_; clear hK K
            refine awp_ret ?_
            rw [hz]; simp [go_sem, Tryz.results27, sameL0, Go.Abs.sameA, inspB, d4]
          · have d4 := c4; try simp at d4
            refine awp_skip ?_
            refine awp_reg_seq fun K hK => ?_
            simp [go_sem, c0, d0, c1, d1, c2, d2, c3, d3, c4, d4]
            repeat refine ⟨by omega, ?_⟩
            refine hK _ ?_; clear hK K
            refine awp_ret ?_
            rw [hz]; simp [go_sem, Tryz.results27, sameL0, Go.Abs.sameA, inspB, d4]
end Go.Proofs.YtldnolgijfkfpaaGreatDoor

/-! Ck -/
namespace Go.Proofs.YtldnolgijfkfpaaGreatDoor
open Go.Abs
set_option linter.unusedVariables false
set_option linter.unusedSimpArgs false
def bc : Nat → Nat → Nat
  | _, 0 => 1
  | 0, _ + 1 => 0
  | n + 1, k + 1 => bc n k + bc n (k + 1)
theorem bc_zero (n : Nat) : bc n 0 = 1 := by cases n <;> rfl
theorem bc_le : ∀ n k, bc n k ≤ 2 ^ n
  | 0, 0 => by decide
  | 0, k + 1 => by simp [bc]
  | n + 1, 0 => by rw [bc_zero]; exact Nat.one_le_two_pow
  | n + 1, k + 1 => by
    have h1 := bc_le n k
    have h2 := bc_le n (k + 1)
    rw [Nat.pow_succ]; simp only [bc]; omega
theorem bc_over : ∀ {n k : Nat}, n < k → bc n k = 0
  | 0, k + 1, _ => rfl
  | n + 1, k + 1, h => by
    simp only [bc]; rw [bc_over (n := n) (k := k) (by omega), bc_over (n := n) (k := k + 1) (by omega)]
theorem bc_pos : ∀ {n k : Nat}, k ≤ n → 1 ≤ bc n k
  | n, 0, _ => by rw [bc_zero]; exact Nat.le_refl _
  | n + 1, k + 1, h => by have := bc_pos (n := n) (k := k) (by omega); simp only [bc]; omega
theorem bc_60 {n : Nat} (h : n ≤ 60) (k : Nat) : bc n k ≤ 1152921504606846976 := by
  have h1 := bc_le n k
  have h2 : (2 : Nat) ^ n ≤ 2 ^ 60 := Nat.pow_le_pow_right (by decide) h
  have h3 : (2 : Nat) ^ 60 = 1152921504606846976 := by decide
  omega
def bcF (i : Nat) (q : Nat) : Int := (bc i q : Nat)
def mixF (i j : Nat) (q : Nat) : Int := if j < q then ((bc (i + 1) q : Nat) : Int) else ((bc i q : Nat) : Int)
theorem mix_start (i : Nat) : mixF i (i + 1) = bcF i := by
  funext q; unfold mixF bcF
  split
  · rw [bc_over (by omega), bc_over (by omega)]
  · rfl
theorem mix_end (i : Nat) : mixF i 0 = bcF (i + 1) := by
  funext q; unfold mixF bcF
  split
  · rfl
  · rename_i h
    obtain rfl : q = 0 := by omega
    rw [bc_zero, bc_zero]
theorem mix_step {i j : Nat} (h : 0 < j) : upd (mixF i j) j ((bc (i + 1) j : Nat) : Int) = mixF i (j - 1) := by
  funext q; unfold upd mixF
  by_cases hq : q = j
  · subst hq; rw [if_pos rfl, if_pos (by omega)]
  · rw [if_neg hq]
    by_cases h2 : j < q
    · rw [if_pos h2, if_pos (by omega)]
    · rw [if_neg h2, if_neg (by omega)]
theorem mix_sum {i j : Nat} (h : 0 < j) : mixF i j j + mixF i j (j - 1) = ((bc (i + 1) j : Nat) : Int) := by
  unfold mixF
  rw [if_neg (by omega), if_neg (by omega)]
  obtain ⟨k, rfl⟩ : ∃ k, j = k + 1 := ⟨j - 1, by omega⟩
  rw [Nat.add_sub_cancel]
  simp only [bc]; omega
def chP (n : Nat) (k : Int) : Int := if k < 0 ∨ (n : Int) < k then 0 else ((bc n k.toNat : Nat) : Int)
theorem chP_nat {n k : Nat} : chP n (k : Int) = ((bc n k : Nat) : Int) := by
  unfold chP
  split
  · rw [bc_over (by omega)]; rfl
  · rw [Int.toNat_natCast]
def sumW (m b s : Nat) : Nat → Nat
  | 0 => 0
  | c + 1 => sumW m b s c + bc b c * bc m (s - c)
theorem sumW_step (m b s : Nat) : ∀ c, c ≤ s → sumW (m + 1) b s (c + 1) = sumW m (b + 1) s (c + 1) + (if c < s then bc b c * bc m (s - 1 - c) else 0)
  | 0, h => by
    simp only [sumW, bc_zero, Nat.sub_zero, Nat.one_mul, Nat.zero_add]
    by_cases hs : 0 < s
    · rw [if_pos hs]
      obtain ⟨t, rfl⟩ : ∃ t, s = t + 1 := ⟨s - 1, by omega⟩
      rw [Nat.add_sub_cancel]
      simp only [bc]; omega
    · obtain rfl : s = 0 := by omega
      simp [bc_zero]
  | c + 1, h => by
    have ih := sumW_step m b s c (by omega)
    rw [if_pos (by omega)] at ih
    rw [sumW, ih]
    have e0 : sumW m (b + 1) s (c + 1 + 1) = sumW m (b + 1) s (c + 1) + bc (b + 1) (c + 1) * bc m (s - (c + 1)) := rfl
    have e1 : s - (c + 1) = s - 1 - c := by omega
    rw [e0, e1]
    generalize hA : sumW m (b + 1) s (c + 1) = A
    by_cases hs : c + 1 < s
    · rw [if_pos hs]
      obtain ⟨t, ht⟩ : ∃ t, s - 1 - c = t + 1 := ⟨s - 1 - c - 1, by omega⟩
      have e2 : s - 1 - (c + 1) = t := by omega
      rw [ht, e2]
      simp only [bc, Nat.mul_add, Nat.add_mul]; omega
    · rw [if_neg hs]
      have e3 : s - 1 - c = 0 := by omega
      rw [e3]
      simp only [bc_zero, bc, Nat.mul_one]; omega
theorem sumW_mono (m b s : Nat) (c : Nat) (h : c ≤ s) : sumW m (b + 1) s (c + 1) ≤ sumW (m + 1) b s (c + 1) := by
  rw [sumW_step m b s c h]; omega
theorem sumW_zero (m s : Nat) : ∀ c, sumW m 0 s (c + 1) = bc m s
  | 0 => by simp [sumW, bc_zero]
  | c + 1 => by rw [sumW, sumW_zero m s c]; simp [bc]
theorem sumW_le (s : Nat) : ∀ (b m c : Nat), c ≤ s → sumW m b s (c + 1) ≤ bc (m + b) s
  | 0, m, c, h => by rw [sumW_zero]; exact Nat.le_refl _
  | b + 1, m, c, h => by
    refine Nat.le_trans (sumW_mono m b s c h) ?_
    have := sumW_le s b (m + 1) c h
    rwa [show m + 1 + b = m + (b + 1) by omega] at this
theorem sumW_all (s : Nat) : ∀ (b m : Nat), sumW m b s (s + 1) = bc (m + b) s
  | 0, m => sumW_zero m s s
  | b + 1, m => by
    have h := sumW_step m b s s (Nat.le_refl _)
    rw [if_neg (Nat.lt_irrefl _)] at h
    rw [← Nat.add_zero (sumW m (b + 1) s (s + 1)), ← h, sumW_all s b (m + 1), show m + 1 + b = m + (b + 1) by omega]
theorem sumW_up (m b s : Nat) : ∀ {c d : Nat}, c ≤ d → sumW m b s c ≤ sumW m b s d
  | c, 0, h => by obtain rfl : c = 0 := by omega
                  exact Nat.le_refl _
  | c, d + 1, h => by
    rcases Nat.eq_or_lt_of_le h with rfl | h
    · exact Nat.le_refl _
    · exact Nat.le_trans (sumW_up m b s (Nat.le_of_lt_succ h)) (by rw [sumW]; omega)
theorem sumW_few (m b s : Nat) : ∀ {c d : Nat}, b < c → c ≤ d → sumW m b s d = sumW m b s c
  | c, 0, h1, h2 => by omega
  | c, d + 1, h1, h2 => by
    rcases Nat.eq_or_lt_of_le h2 with rfl | h
    · rfl
    · rw [sumW, sumW_few m b s h1 (Nat.le_of_lt_succ h), bc_over (show b < d by omega)]; simp
end Go.Proofs.YtldnolgijfkfpaaGreatDoor

/-! Cl -/
namespace Go.Proofs.YtldnolgijfkfpaaGreatDoor
open Go.Abs
set_option linter.unusedVariables false
set_option linter.unusedSimpArgs false
set_option maxRecDepth 100000
set_option maxHeartbeats 1000000
theorem tn_pred (j : Nat) : ((j : Int) - 1).toNat = j - 1 := by omega
theorem digitize_choose_cs (σ : List Blk) (n : Nat) (k : Int) (hn : n ≤ 60) : CSF Tryz.prog 49 [.d (I n), .d (I k)] σ (.d (I (chP n k))) := by
  refine CSF.of_body T.en49 Tryz.func49 rfl (by simp [Tryz.ntmps49]) (by simp [go_sem]) fun hwf => ?_
  refine awp_reg_seq fun K hK => ?_
  simp [go_sem, Tryz.ntmps49]
  repeat refine ⟨by omega, ?_⟩
  refine hK _ ?_; clear hK K
  refine awp_seq ?_
  refine awp_reg_seq fun K hK => ?_
  simp [go_sem]
  repeat refine ⟨by omega, ?_⟩
  refine hK _ ?_; clear hK K
  refine awp_forget [0, 1, 14] (by simp only [restr, List.contains_cons, List.contains_nil, Nat.reduceBEq, Bool.or_false, Bool.or_true, Bool.true_or, Bool.false_or, if_true, if_false, Bool.false_eq_true]; rfl) ?_
  refine awp_cond rfl (fun c0 => ?_) (fun c0 => ?_)
  · have d0 := c0; try simp at d0
    have hz : chP n k = 0 := by unfold chP; rw [if_pos (by simpa using d0)]
    refine awp_reg_seq fun K hK => ?_
    simp [go_sem, c0, d0]
    repeat refine ⟨by omega, ?_⟩
    refine hK _ ?_; clear hK K
    refine awp_ret ?_
    rw [hz]; simp [go_sem, Tryz.results49]
  · have d0 := c0; try simp at d0
    have hk0 : 0 ≤ k ∧ k ≤ n := by omega
    obtain ⟨kk, rfl⟩ : ∃ kk : Nat, k = kk := ⟨k.toNat, by omega⟩
    refine awp_skip ?_
    refine awp_reg_seq fun K hK => ?_
    simp [go_sem, c0, d0]
    repeat refine ⟨by omega, ?_⟩
    refine hK _ ?_; clear hK K
    refine awp_reg_seq fun K hK => ?_
    simp [go_sem, c0, d0]
    repeat refine ⟨by omega, ?_⟩
    refine hK _ ?_; clear hK K
    refine awp_seq ?_
    refine awp_reg_seq fun K hK => ?_
    simp [go_sem, c0, d0]
    repeat refine ⟨by omega, ?_⟩
    refine hK _ ?_; clear hK K
    refine awp_block ?_
    refine awp_forget [1, 5, 16, 17] (by simp [go_sem, restr]; rfl) ?_
    refine awp_loopU (α := Nat) (fun i => [(17, .d (I i))]) (fun i => σ ++ [.var (arrV .i64 61 (bcF i))]) (fun i => i ≤ n) (fun i => n - i) 0 (by simp [go_sem]) (rfl) (by simp) ?_
    rintro i hi
    refine awp_reg_seq fun K hK => ?_
    simp [go_sem, c0, d0]
    repeat refine ⟨by omega, ?_⟩
    refine hK _ ?_; clear hK K
    refine awp_seq ?_
    refine awp_forget [1, 5, 16, 17, 18] (by simp only [restr, List.contains_cons, List.contains_nil, Nat.reduceBEq, Bool.or_false, Bool.or_true, Bool.true_or, Bool.false_or, if_true, if_false, Bool.false_eq_true]; rfl) ?_
    refine awp_cond rfl (fun c1 => ?_) (fun c1 => ?_)
    · have d1 := c1; try simp at d1
      have hi5 : i < n := by omega
      have hw1 : IntKind.i64.wrap ((i : Int) + 1) = ((i + 1 : Nat) : Int) := wrap_succ (by omega)
      refine awp_skip ?_
      refine awp_seq ?_
      refine awp_block ?_
      refine awp_reg_seq fun K hK => ?_
      simp [go_sem, c0, d0, c1, d1, hi5, hw1]
      repeat refine ⟨by omega, ?_⟩
      refine hK _ ?_; clear hK K
      refine awp_reg_seq fun K hK => ?_
      simp [go_sem, c0, d0, c1, d1, hi5, hw1]
      try simp (disch := omega) only [wrapI]
      repeat refine ⟨by omega, ?_⟩
      refine hK _ ?_; clear hK K
      refine awp_block ?_
      refine awp_forget [1, 5, 7, 16, 17] (by simp [go_sem, restr]; rfl) ?_
      refine awp_loopU (α := Nat) (fun j => [(7, .d (I j))]) (fun j => σ ++ [.var (arrV .i64 61 (mixF i j))]) (fun j => j ≤ i + 1) (fun j => j) (i + 1) (by simp [go_sem]) (by rw [mix_start]) (by simp) ?_
      rintro j hj
      refine awp_seq ?_
      refine awp_reg_seq fun K hK => ?_
      simp [go_sem, c0, d0, c1, d1, hi5, hw1]
      repeat refine ⟨by omega, ?_⟩
      refine hK _ ?_; clear hK K
      refine awp_forget [1, 5, 7, 16, 17, 23] (by simp only [restr, List.contains_cons, List.contains_nil, Nat.reduceBEq, Bool.or_false, Bool.or_true, Bool.true_or, Bool.false_or, if_true, if_false, Bool.false_eq_true]; rfl) ?_
      refine awp_cond rfl (fun c2 => ?_) (fun c2 => ?_)
      · have d2 := c2; try simp at d2
        have hj0 : 0 < j := by omega
        have hj1 : j < 61 := by omega
        have hj2 : j ≤ 60 := by omega
        have hj3 : j - 1 < 61 := by omega
        have hj4 : j - 1 ≤ 60 := by omega
        have hb := bc_60 (n := i + 1) (by omega) j
        have hsum : IntKind.i64.wrap (mixF i j j + mixF i j (j - 1)) = ((bc (i + 1) j : Nat) : Int) := by rw [mix_sum hj0]; exact wrapI (by omega) (by omega)
        have hst := mix_step (i := i) hj0
        have hw2 : IntKind.i64.wrap ((j : Int) - 1) = (j : Int) - 1 := wrapI (by omega) (by omega)
        have hcj : ((j - 1 : Nat) : Int) = (j : Int) - 1 := by omega
        refine awp_skip ?_
        refine awp_seq ?_
        refine awp_block ?_
        refine awp_draw_end 8 T.mixed (by kernel_rfl) fun K hK => ?_
        simp [go_sem, c0, d0, c1, d1, hi5, hw1, c2, d2, hj0, hj1, hj2, hj3, hj4, hsum, hst, hw2, tn_pred, hcj]
        try simp (disch := omega) only [wrapI]
        repeat refine ⟨by omega, ?_⟩
        refine hK _ ?_; clear hK K
        refine awp_reg_end fun K hK => ?_
        simp [go_sem, c0, d0, c1, d1, hi5, hw1, c2, d2, hj0, hj1, hj2, hj3, hj4, hsum, hst, hw2, tn_pred, hcj]
        try simp (disch := omega) only [wrapI]
        repeat refine ⟨by omega, ?_⟩
        refine hK _ ?_; clear hK K
        refine ⟨j - 1, back_of' (by simp [go_sem, c0, d0, c1, d1, hi5, hw1, c2, d2, hj0, hj1, hj2, hj3, hj4, hsum, hst, hw2, tn_pred, hcj]) ((leaves_app (by simp [go_sem]))) (by (simp [go_sem, c0, d0, c1, d1, hi5, hw1, c2, d2, hj0, hj1, hj2, hj3, hj4, hsum, hst, hw2, tn_pred, hcj] <;> omega)), by omega, by first | omega | (dsimp only; omega)⟩
      · have d2 := c2; try simp at d2
        obtain rfl : j = 0 := by omega
        have hme := mix_end i
        refine awp_exit ?_
        refine awp_reg_end fun K hK => ?_
        simp [go_sem, c0, d0, c1, d1, hi5, hw1, c2, d2, hme]
        try simp (disch := omega) only [wrapI]
        repeat refine ⟨by omega, ?_⟩
        refine hK _ ?_; clear hK K
        refine ⟨i + 1, back_of' (by simp [go_sem, wrap_succ (i := i) (by omega), c0, d0, c1, d1, hi5, hw1, c2, d2, hme]) ((leaves_app (by simp [go_sem]))) (by (simp [go_sem, wrap_succ (i := i) (by omega), c0, d0, c1, d1, hi5, hw1, c2, d2, hme] <;> omega)), by omega, by first | omega | (dsimp only; omega)⟩
    · have d1 := c1; try simp at d1
      obtain rfl : i = n := by omega
      have hk1 : kk < 61 := by omega
      have hk2 : kk ≤ 60 := by omega
      refine awp_exit ?_
      refine awp_reg_seq fun K hK => ?_
      simp [go_sem, c0, d0, c1, d1, hk1, hk2]
      repeat refine ⟨by omega, ?_⟩
      refine hK _ ?_; clear hK K
      refine awp_ret ?_
      rw [chP_nat]; simp [go_sem, Tryz.results49, bcF]
def waysP (n bad s a : Int) : (Int × Int) × Int :=
  if (inB n 1 60 && inB bad 0 n && inB s 1 n && inB a 0 s) = false then ((0, 0), 2) else ((((sumW (n - bad).toNat bad.toNat s.toNat (a.toNat + 1) : Nat) : Int), ((bc n.toNat s.toNat : Nat) : Int)), 0)
theorem ways_no : ∀ {a b c d : Bool}, (!a || !b || !c || !d) = true → (a && b && c && d) = false := by decide
theorem ways_yes : ∀ {a b c d : Bool}, (!a || !b || !c || !d) = false → (a && b && c && d) = true := by decide
theorem digitize_Ways_cs (σ : List Blk) (n bad s a : Int) : CSF Tryz.prog 20 [.d (I n), .d (I bad), .d (I s), .d (I a)] σ (.tup [.d (I (waysP n bad s a).1.1), .d (I (waysP n bad s a).1.2), .d (I (waysP n bad s a).2)]) := by
  refine CSF.of_body T.en20 Tryz.func20 rfl (by simp [Tryz.ntmps20]) (by simp [go_sem]) fun hwf => ?_
  refine awp_reg_seq fun K hK => ?_
  simp [go_sem, Tryz.ntmps20]
  repeat refine ⟨by omega, ?_⟩
  refine hK _ ?_; clear hK K
  refine awp_seq ?_
  refine awp_reg_seq fun K hK => ?_
  simp [go_sem]
  repeat refine ⟨by omega, ?_⟩
  refine CSk.mk (digitize_in_cs _ n 1 60) ?_
  simp [go_sem]
  repeat refine ⟨by omega, ?_⟩
  refine CSm.mk (digitize_in_cs _ bad 0 n) ?_
  simp [go_sem]
  repeat refine ⟨by omega, ?_⟩
  refine CSm.mk (digitize_in_cs _ s 1 n) ?_
  simp [go_sem]
  repeat refine ⟨by omega, ?_⟩
  refine CSm.mk (digitize_in_cs _ a 0 s) ?_
  simp [go_sem]
  repeat refine ⟨by omega, ?_⟩
  refine hK _ ?_; clear hK K
  refine awp_forget [0, 1, 2, 3, 33] (by simp only [restr, List.contains_cons, List.contains_nil, Nat.reduceBEq, Bool.or_false, Bool.or_true, Bool.true_or, Bool.false_or, if_true, if_false, Bool.false_eq_true]; rfl) ?_
  refine awp_cond rfl (fun c0 => ?_) (fun c0 => ?_)
  · have d0 := c0; try simp at d0
    have hz : waysP n bad s a = ((0, 0), 2) := by unfold waysP; rw [if_pos (ways_no c0)]
    refine awp_reg_seq fun K hK => ?_
    simp [go_sem, c0, d0]
    repeat refine ⟨by omega, ?_⟩
    refine hK _ ?_; clear hK K
    refine awp_ret ?_
    rw [hz]; simp [go_sem, Tryz.results20]
  · have d0 := c0; try simp at d0
    have hy := ways_yes c0
    have hb : (1 ≤ n ∧ n ≤ 60) ∧ (0 ≤ bad ∧ bad ≤ n) ∧ (1 ≤ s ∧ s ≤ n) ∧ 0 ≤ a ∧ a ≤ s := by
      simp only [inB, Bool.and_eq_true, decide_eq_true_eq] at hy; omega
    have hz0 : waysP n bad s a = ((((sumW (n - bad).toNat bad.toNat s.toNat (a.toNat + 1) : Nat) : Int), ((bc n.toNat s.toNat : Nat) : Int)), 0) := by unfold waysP; rw [if_neg (by rw [hy]; decide)]
    clear c0 d0 hy
    have c0 : True := trivial
    have d0 : True := trivial
    obtain ⟨m, hm⟩ : ∃ m : Nat, n - bad = m := ⟨(n - bad).toNat, by omega⟩
    obtain ⟨b, rfl⟩ : ∃ b : Nat, bad = b := ⟨bad.toNat, by omega⟩
    obtain ⟨t, rfl⟩ : ∃ t : Nat, s = t := ⟨s.toNat, by omega⟩
    obtain ⟨q, rfl⟩ : ∃ q : Nat, a = q := ⟨a.toNat, by omega⟩
    obtain rfl : n = ((m + b : Nat) : Int) := by omega
    have hz : waysP ((m + b : Nat) : Int) b t q = ((((sumW m b t (q + 1) : Nat) : Int), ((bc (m + b) t : Nat) : Int)), 0) := by
      rw [hz0, hm]; simp only [Int.toNat_natCast]
    clear hz0
    have hq1 : IntKind.i64.wrap ((q : Int) + 1) = ((q + 1 : Nat) : Int) := wrap_succ (by omega)
    refine awp_skip ?_
    refine awp_reg_seq fun K hK => ?_
    simp [go_sem, c0, d0, hq1]
    repeat refine ⟨by omega, ?_⟩
    refine hK _ ?_; clear hK K
    refine awp_seq ?_
    refine awp_reg_seq fun K hK => ?_
    simp [go_sem, c0, d0, hq1]
    try simp (disch := omega) only [wrapI]
    repeat refine ⟨by omega, ?_⟩
    refine hK _ ?_; clear hK K
    refine awp_block ?_
    refine awp_forget [0, 1, 2, 11, 35, 36] (by simp [go_sem, restr]; rfl) ?_
    refine awp_loopU (α := Nat) (fun c => [(36, .d (I c)), (11, .d (I ((sumW m b t c : Nat) : Int)))]) (fun c => _) (fun c => c ≤ q + 1) (fun c => q + 1 - c) 0 (by simp [go_sem, sumW]) (rfl) (by simp) ?_
    rintro c hc
    refine awp_reg_seq fun K hK => ?_
    simp [go_sem, c0, d0, hq1]
    repeat refine ⟨by omega, ?_⟩
    refine hK _ ?_; clear hK K
    refine awp_seq ?_
    refine awp_forget [0, 1, 2, 11, 35, 36, 37] (by simp only [restr, List.contains_cons, List.contains_nil, Nat.reduceBEq, Bool.or_false, Bool.or_true, Bool.true_or, Bool.false_or, if_true, if_false, Bool.false_eq_true]; rfl) ?_
    refine awp_cond rfl (fun c1 => ?_) (fun c1 => ?_)
    · have d1 := c1; try simp at d1
      have hc5 : c < q + 1 := by omega
      have hle1 := sumW_le t b m c (by omega)
      have hle2 := bc_60 (n := m + b) (by omega) t
      have hsu : sumW m b t (c + 1) = sumW m b t c + bc b c * bc m (t - c) := rfl
      have hmb : IntKind.i64.wrap ((m : Int) + (b : Int) - (b : Int)) = (m : Int) := by rw [wrapI (by omega) (by omega)]; omega
      have htc : IntKind.i64.wrap ((t : Int) - (c : Int)) = ((t - c : Nat) : Int) := by rw [wrapI (by omega) (by omega)]; omega
      have hp1 : IntKind.i64.wrap (((bc b c : Nat) : Int) * ((bc m (t - c) : Nat) : Int)) = ((bc b c * bc m (t - c) : Nat) : Int) := by
        rw [← Int.natCast_mul]; exact wrapI (by omega) (by omega)
      have hp2 : IntKind.i64.wrap (((sumW m b t c : Nat) : Int) + ((bc b c * bc m (t - c) : Nat) : Int)) = ((sumW m b t (c + 1) : Nat) : Int) := by
        rw [← Int.natCast_add, ← hsu]; exact wrapI (by omega) (by omega)
      have hch1 := chP_nat (n := b) (k := c)
      have hch2 := chP_nat (n := m) (k := t - c)
      refine awp_skip ?_
      refine awp_seq ?_
      refine awp_block ?_
      refine awp_reg_seq fun K hK => ?_
      simp [go_sem, c0, d0, hq1, c1, d1, hc5, hmb, htc, hp1, hp2, hch1, hch2]
      repeat refine ⟨by omega, ?_⟩
      refine hK _ ?_; clear hK K
      refine awp_reg_end fun K hK => ?_
      simp [go_sem, c0, d0, hq1, c1, d1, hc5, hmb, htc, hp1, hp2, hch1, hch2]
      try simp (disch := omega) only [wrapI]
      repeat refine ⟨by omega, ?_⟩
      refine CSk.mk (digitize_choose_cs _ b (c : Int) (by omega)) ?_
      simp [go_sem, c0, d0, hq1, c1, d1, hc5, hmb, htc, hp1, hp2, hch1, hch2]
      try simp (disch := omega) only [wrapI]
      repeat refine ⟨by omega, ?_⟩
      refine CSk.mk (digitize_choose_cs _ m ((t - c : Nat) : Int) (by omega)) ?_
      simp [go_sem, c0, d0, hq1, c1, d1, hc5, hmb, htc, hp1, hp2, hch1, hch2]
      try simp (disch := omega) only [wrapI]
      repeat refine ⟨by omega, ?_⟩
      refine hK _ ?_; clear hK K
      refine awp_reg_end fun K hK => ?_
      simp [go_sem, c0, d0, hq1, c1, d1, hc5, hmb, htc, hp1, hp2, hch1, hch2]
      try simp (disch := omega) only [wrapI]
      repeat refine ⟨by omega, ?_⟩
      refine hK _ ?_; clear hK K
      refine ⟨c + 1, back_of' (by simp) (.refl _) (by (simp [go_sem, wrap_succ (i := c) (by omega), c0, d0, hq1, c1, d1, hc5, hmb, htc, hp1, hp2, hch1, hch2] <;> omega)), by omega, by first | omega | (dsimp only; omega)⟩
    · have d1 := c1; try simp at d1
      obtain rfl : c = q + 1 := by omega
      have hch3 := chP_nat (n := m + b) (k := t)
      refine awp_exit ?_
      refine awp_reg_seq fun K hK => ?_
      simp [go_sem, c0, d0, hq1, c1, d1, hch3]
      repeat refine ⟨by omega, ?_⟩
      refine CSk.mk (digitize_choose_cs _ (m + b) (t : Int) (by omega)) ?_
      simp [go_sem, c0, d0, hq1, c1, d1, hch3]
      repeat refine ⟨by omega, ?_⟩
      refine hK _ ?_; clear hK K
      refine awp_ret ?_
      rw [hz]; simp [go_sem, Tryz.results20]
end Go.Proofs.YtldnolgijfkfpaaGreatDoor

/-! Cm -/
namespace Go.Proofs.YtldnolgijfkfpaaGreatDoor
open Go.Abs
set_option linter.unusedVariables false
set_option linter.unusedSimpArgs false
set_option maxRecDepth 100000
set_option maxHeartbeats 1000000
theorem ascB_lt {g : Nat → Int} {n : Nat} (h : ascB g n = true) : ∀ {i j : Nat}, i < j → j < n → g i < g j := by
  intro i j
  induction j with
  | zero => intro h1; omega
  | succ j ih =>
    intro h1 h2
    have h3 := (ascB_iff g n).1 h (j + 1) (by omega) h2
    rw [Nat.add_sub_cancel] at h3
    by_cases hj : i = j
    · subst hj; exact h3
    · have := ih (by omega) (by omega); omega
theorem chk_iff {x : Bat} : chkB x = 0 ↔ rngB x = true ∧ ascB x.u x.nu = true ∧ ascB x.b x.nb = true ∧ badB x = false ∧ fitsB x = true := by
  constructor
  · intro h
    unfold chkB at h
    split at h
    · cases h
    · rename_i h1
      split at h
      · cases h
      · rename_i h2
        split at h
        · cases h
        · rename_i h3
          split at h
          · cases h
          · rename_i h4
            simp only [Bool.or_eq_true, Bool.not_eq_true', not_or, Bool.not_eq_false] at h2
            exact ⟨by simpa using h1, h2.1, h2.2, by simpa using h3, by simpa using h4⟩
  · rintro ⟨h1, h2, h3, h4, h5⟩
    exact chk_0 h1 (by simp [h2, h3]) h4 h5
theorem asc_zero (g : Nat → Int) : ascB g 0 = true := rfl
theorem drawL_mem {x : Bat} (hx : Rng x) {rd k : Int} (h : k ∈ drawL x rd) : ∃ i, i < x.nu ∧ x.u i = k := by
  unfold drawL at h
  have h1 := (sortI_perm _).mem_iff.1 h
  obtain ⟨n, h2, rfl⟩ := List.mem_map.1 h1
  have h3 := (ordL_spec _ _ _).1.mem_iff.1 (List.mem_of_mem_take h2)
  obtain ⟨i, hi, rfl⟩ := List.mem_map.1 h3
  rw [List.mem_range] at hi
  have h4 := hx.u1 i hi
  exact ⟨i, hi, by unfold unN; omega⟩
theorem nodup_units {x : Bat} (hx : Rng x) (ha : ascB x.u x.nu = true) : (lst x.nu (unN x)).Nodup := by
  unfold lst
  refine List.pairwise_map.2 (List.Pairwise.imp_of_mem ?_ (List.nodup_range (n := x.nu)))
  intro a b h1 h2 hne he
  rw [List.mem_range] at h1 h2
  have ha1 := hx.u1 a h1
  have hb1 := hx.u1 b h2
  unfold unN at he
  rcases Nat.lt_or_gt_of_ne hne with h | h
  · have := ascB_lt ha h h2; omega
  · have := ascB_lt ha h h1; omega
theorem drawL_asc {x : Bat} (hx : Rng x) (ha : ascB x.u x.nu = true) (rd : Int) : (drawL x rd).Pairwise (· < ·) := by
  have h1 : (drawL x rd).Pairwise (· ≤ ·) := by unfold drawL; exact sortI_le _
  have h2 : (drawL x rd).Nodup := by
    unfold drawL
    refine (sortI_perm _).nodup_iff.2 ?_
    refine List.pairwise_map.2 (List.Pairwise.imp (R := (· ≠ ·)) (fun h e => h (Int.ofNat_inj.1 e)) ?_)
    exact List.Pairwise.sublist (List.take_sublist _ _) ((ordL_spec _ _ _).1.nodup_iff.2 (nodup_units hx ha))
  exact List.Pairwise.imp₂ (S := (· ≠ ·)) (fun a b h h' => Int.lt_iff_le_and_ne.2 ⟨h, h'⟩) h1 h2
theorem ascB_nth {L : List Int} : ascB (nth L) L.length = true ↔ L.Pairwise (· < ·) := by
  rw [List.pairwise_iff_getElem]
  constructor
  · intro h i j h1 h2 h3
    have := ascB_lt h h3 h2
    rwa [nth_eq h1, nth_eq h2] at this
  · intro h
    refine asc_yes fun q h1 h2 => ?_
    rw [nth_eq h2, nth_eq (show q - 1 < L.length by omega)]
    exact h _ _ _ _ (by omega)
theorem draw_scan (x : Bat) (rd : Int) : drawL (scanB x) rd = drawL x rd := rfl
theorem draw_insp (x : Bat) (m : Nat) (h : Nat → Int) (rd : Int) : drawL (inspB x m h) rd = drawL x rd := rfl
theorem rng_scan {x : Bat} (hx : Rng x) (h : x.Round < 1024) : Rng (scanB x) :=
  ⟨hx.id1, hx.id2, hx.d1, hx.d2, by have := hx.r1; show (0 : Int) ≤ x.Round + 1; omega, by show x.Round + 1 ≤ (1024 : Int); omega, hx.n1, hx.n2, hx.u1, hx.s1, hx.s2, hx.a1, hx.a2⟩
theorem rng_insp {x : Bat} (hx : Rng x) (m : Nat) (h : Nat → Int) : Rng (inspB x m h) :=
  ⟨hx.id1, hx.id2, hx.d1, hx.d2, hx.r1, hx.r2, hx.n1, hx.n2, hx.u1, hx.s1, hx.s2, hx.a1, hx.a2⟩
theorem chk_scan {x : Bat} (h : chkB x = 0) (hr : x.Round < 1024) : chkB (scanB x) = 0 := by
  have hx := chk_rng h
  obtain ⟨h1, h2, h3, h4, h5⟩ := chk_iff.1 h
  refine chk_iff.2 ⟨(rngB_iff _).2 (rng_scan hx hr), h2, rfl, ?_, ?_⟩
  · simp [badB, scanB]
  · have := hx.r1
    simp [fitsB, scanB, show (1 : Int) ≤ x.Round + 1 by omega]
theorem chk_insp {x : Bat} (h : chkB x = 0) (hs : x.State = 2) {m : Nat} {g : Nat → Int} (ha : ascB g m = true) (hm : subB (drawL x x.Round).length (nth (drawL x x.Round)) m g = true) : chkB (inspB x m g) = 0 := by
  have hx := chk_rng h
  obtain ⟨h1, h2, h3, h4, h5⟩ := chk_iff.1 h
  refine chk_iff.2 ⟨(rngB_iff _).2 (rng_insp hx m g), h2, ha, ?_, ?_⟩
  · unfold badB
    rw [draw_insp]
    have : subB (drawL x (inspB x m g).Round).length (nth (drawL x (inspB x m g).Round)) (inspB x m g).nb (inspB x m g).b = true := hm
    rw [this]; simp
  · have hr : 1 ≤ x.Round := by
      unfold fitsB at h5; rw [if_neg (by omega), if_pos hs] at h5
      simp only [Bool.and_eq_true, decide_eq_true_eq] at h5; exact h5.1
    unfold fitsB inspB
    dsimp only
    by_cases hk : x.Accept < (m : Int)
    · simp [hk, hr]
    · simp [hk, hr]; omega
theorem subB_of {L : List Int} {m : Nat} {g : Nat → Int} (h : ∀ i, i < m → g i ∈ L) : subB L.length (nth L) m g = true := by
  rw [subB_iff]
  intro i hi
  obtain ⟨k, h1, h2⟩ := List.mem_iff_getElem.1 (h i hi)
  exact (memI_iff _ _ _).2 ⟨k, h1, by rw [nth_eq h1]; exact h2⟩
theorem scanP_yes {x : Bat} (h : chkB x = 0) (hs : x.State = 1 ∨ x.State = 4) (hr : x.Round ≠ 1024) : scanP x = (scanB x, 0) := by
  unfold scanP
  rw [if_neg (by simp [h]), if_neg (by rcases hs with h | h <;> simp [h]), if_neg hr]
theorem drawnP_yes {x : Bat} {rd : Int} (h : chkB x = 0) (h1 : 1 ≤ rd) (h2 : rd ≤ 1024) : drawnP x rd = (drawL x rd, 0) := by
  unfold drawnP
  rw [if_neg (by simp [h]), if_neg (by simp [inB, h1, h2])]
theorem inspP_yes {x : Bat} {m : Nat} {g : Nat → Int} (h : chkB x = 0) (hs : x.State = 2) (ha : ascB g m = true) (hm : subB (drawL x x.Round).length (nth (drawL x x.Round)) m g = true) : inspP x m g = (inspB x m g, 0) := by
  unfold inspP
  rw [if_neg (by simp [h]), if_neg (by simp [hs]), if_neg (by simp [ha]), if_neg (by simp [hm])]
def exU : Nat → Int := nth [7, 8, 9]
def exB : Bat := newB 4 9 3 exU 1 0
def exC : Bat := scanB exB
noncomputable def exL : List Int := drawL exC 1
noncomputable def exD : Bat := inspB exC 1 (nth exL)
noncomputable def exE : Bat := scanB exD
theorem exB_chk : chkB exB = 0 := chk_iff.2 ⟨by decide, by decide, by decide, rfl, by decide⟩
theorem exC_chk : chkB exC = 0 := chk_scan exB_chk (by decide)
theorem exL_len : exL.length = 1 := by unfold exL; rw [drawL_len]; rfl
theorem exL_sub : subB exL.length (nth exL) 1 (nth exL) = true := subB_of fun i hi => nth_mem (by rw [exL_len]; exact hi)
theorem exL_asc : ascB (nth exL) 1 = true := rfl
theorem exD_chk : chkB exD = 0 := chk_insp exC_chk rfl exL_asc exL_sub
theorem ex_make : makeP 4 9 3 exU 1 0 = (exB, 0) := by unfold makeP; rw [if_neg (by have := exB_chk; unfold exB at this; simp [this])]; rfl
theorem ex_scan : scanP exB = (exC, 0) := scanP_yes exB_chk (.inl rfl) (by decide)
theorem ex_drawn : drawnP exC 1 = (exL, 0) := drawnP_yes exC_chk (by decide) (by decide)
theorem ex_insp : inspP exC 1 (nth exL) = (exD, 0) := inspP_yes exC_chk rfl exL_asc exL_sub
theorem exD_state : exD.State = 4 := rfl
theorem ex_scan2 : scanP exD = (exE, 0) := scanP_yes exD_chk (.inr rfl) (show exC.Round ≠ 1024 by decide)
theorem exE_round : exE.Round = 2 := rfl
theorem ex_ways0 : waysP 10 2 3 0 = ((56, 120), 0) := by decide
theorem ex_ways1 : waysP 10 2 3 1 = ((112, 120), 0) := by decide
theorem law44_awake_cs (σ : List Blk) (hσ : σ[0]? = some (.tab 0 powV)) : CSF Tryz.prog 11 [] σ (.d (B true)) := by
  refine CSF.of_body T.en11 Tryz.func11 rfl (by simp [Tryz.ntmps11]) (by simp [go_sem]) fun hwf => ?_
  refine awp_reg_seq fun K hK => ?_
  simp [go_sem, Tryz.ntmps11, hwf.one, hwf.zero, ex_ways0, ex_ways1, ex_make, ex_scan, ex_drawn, exL_len, ex_insp, exD_state, ex_scan2, exE_round]
  repeat refine ⟨by omega, ?_⟩
  refine hK _ ?_; clear hK K
  refine awp_reg_seq fun K hK => ?_
  simp [go_sem, hwf.one, hwf.zero, ex_ways0, ex_ways1, ex_make, ex_scan, ex_drawn, exL_len, ex_insp, exD_state, ex_scan2, exE_round]
  repeat refine ⟨by omega, ?_⟩
  refine CSk.mk (digitize_Ways_cs _ 10 2 3 0) ?_
  simp [go_sem, hwf.one, hwf.zero, ex_ways0, ex_ways1, ex_make, ex_scan, ex_drawn, exL_len, ex_insp, exD_state, ex_scan2, exE_round]
  repeat refine ⟨by omega, ?_⟩
  refine hK _ ?_; clear hK K
  refine awp_reg_seq fun K hK => ?_
  simp [go_sem, hwf.one, hwf.zero, ex_ways0, ex_ways1, ex_make, ex_scan, ex_drawn, exL_len, ex_insp, exD_state, ex_scan2, exE_round]
  repeat refine ⟨by omega, ?_⟩
  refine CSk.mk (digitize_Ways_cs _ 10 2 3 1) ?_
  simp [go_sem, hwf.one, hwf.zero, ex_ways0, ex_ways1, ex_make, ex_scan, ex_drawn, exL_len, ex_insp, exD_state, ex_scan2, exE_round]
  repeat refine ⟨by omega, ?_⟩
  refine hK _ ?_; clear hK K
  refine awp_reg_seq fun K hK => ?_
  simp [go_sem, hwf.one, hwf.zero, ex_ways0, ex_ways1, ex_make, ex_scan, ex_drawn, exL_len, ex_insp, exD_state, ex_scan2, exE_round]
  repeat refine ⟨by omega, ?_⟩
  refine CSk.mk (CSF.sub (digitize_Make_cs _ 4 9 (some 3) 3 exU 1 0 (by decide) hσ) ?_) ?_
  · simp [go_sem, sameL, sameE, sameA]; intro i hi; rcases (by omega : i = 0 ∨ i = 1 ∨ i = 2) with rfl | rfl | rfl <;> rfl
  simp [go_sem, hwf.one, hwf.zero, ex_ways0, ex_ways1, ex_make, ex_scan, ex_drawn, exL_len, ex_insp, exD_state, ex_scan2, exE_round]
  repeat refine ⟨by omega, ?_⟩
  refine hK _ ?_; clear hK K
  refine awp_reg_seq fun K hK => ?_
  simp [go_sem, hwf.one, hwf.zero, ex_ways0, ex_ways1, ex_make, ex_scan, ex_drawn, exL_len, ex_insp, exD_state, ex_scan2, exE_round]
  repeat refine ⟨by omega, ?_⟩
  refine CSk.mk (digitize_Scan_cs _ exB (by decide) (by decide) (loc_app hσ)) ?_
  simp [go_sem, hwf.one, hwf.zero, ex_ways0, ex_ways1, ex_make, ex_scan, ex_drawn, exL_len, ex_insp, exD_state, ex_scan2, exE_round]
  repeat refine ⟨by omega, ?_⟩
  refine hK _ ?_; clear hK K
  refine awp_reg_seq fun K hK => ?_
  simp [go_sem, hwf.one, hwf.zero, ex_ways0, ex_ways1, ex_make, ex_scan, ex_drawn, exL_len, ex_insp, exD_state, ex_scan2, exE_round]
  repeat refine ⟨by omega, ?_⟩
  refine CSk.mk (digitize_Drawn_cs _ exC 1 (by decide) (by decide) (loc_app hσ)) ?_
  simp [go_sem, hwf.one, hwf.zero, ex_ways0, ex_ways1, ex_make, ex_scan, ex_drawn, exL_len, ex_insp, exD_state, ex_scan2, exE_round]
  repeat refine ⟨by omega, ?_⟩
  refine hK _ ?_; clear hK K
  refine awp_reg_seq fun K hK => ?_
  simp [go_sem, hwf.one, hwf.zero, ex_ways0, ex_ways1, ex_make, ex_scan, ex_drawn, exL_len, ex_insp, exD_state, ex_scan2, exE_round]
  repeat refine ⟨by omega, ?_⟩
  refine CSk.mk (digitize_Inspect_cs _ exC none 1 (nth exL) (by decide) (by decide) (by decide) (loc_app hσ)) ?_
  simp [go_sem, hwf.one, hwf.zero, ex_ways0, ex_ways1, ex_make, ex_scan, ex_drawn, exL_len, ex_insp, exD_state, ex_scan2, exE_round]
  repeat refine ⟨by omega, ?_⟩
  refine hK _ ?_; clear hK K
  refine awp_reg_seq fun K hK => ?_
  simp [go_sem, hwf.one, hwf.zero, ex_ways0, ex_ways1, ex_make, ex_scan, ex_drawn, exL_len, ex_insp, exD_state, ex_scan2, exE_round]
  repeat refine ⟨by omega, ?_⟩
  refine CSk.mk (digitize_Scan_cs _ exD (show (3 : Nat) < 1000000000 by decide) (show (1 : Nat) < 1000000000 by decide) (loc_app hσ)) ?_
  simp [go_sem, hwf.one, hwf.zero, ex_ways0, ex_ways1, ex_make, ex_scan, ex_drawn, exL_len, ex_insp, exD_state, ex_scan2, exE_round]
  repeat refine ⟨by omega, ?_⟩
  refine hK _ ?_; clear hK K
  refine awp_reg_seq fun K hK => ?_
  simp [go_sem, hwf.one, hwf.zero, ex_ways0, ex_ways1, ex_make, ex_scan, ex_drawn, exL_len, ex_insp, exD_state, ex_scan2, exE_round]
  try simp (disch := omega) only [wrapI]
  repeat refine ⟨by omega, ?_⟩
  refine hK _ ?_; clear hK K
  refine awp_ret ?_
  simp [go_sem, Tryz.results11, hwf.one, hwf.zero, ex_ways0, ex_ways1, ex_make, ex_scan, ex_drawn, exL_len, ex_insp, exD_state, ex_scan2, exE_round] <;> omega
end Go.Proofs.YtldnolgijfkfpaaGreatDoor

/-! Cn -/
namespace Go.Abs
theorem awp_loopF {P : Program} {Q : Exit → St → Prop} {s : St} {c : Code} {α : Type} (st : α → St) (ok : α → Prop) (μ : α → Nat)
    (first : AWP P c (thenA (fun s' => ∃ x', Sub s' (st x') ∧ ok x') Q) s)
    (round : ∀ x, ok x → AWP P c (thenA (fun s' => ∃ x', Back (st x) s' (st x') ∧ ok x' ∧ μ x' < μ x) Q) (st x)) : AWP P (.loop c) Q s := by
  intro j0 j a w hr b k cs hro hb hfr
  have key : ∀ n x j₁ a w₁, μ x = n → ok x → Rel j0 (st x) j₁ a w₁ → Ev j w j₁ w₁ →
      ∃ e a' w', APost j0 j w Q e a' w' ∧ ArrivesIn (Machine.fenced P (FW j0.rd)) P (lone (b.atR a (.code c :: .inLoop c :: k)) cs w₁) b k cs e a' w' := by
    intro n
    induction n using Nat.strongRecOn with
    | _ n ih =>
      intro x j₁ a w₁ hn hx hr he
      obtain ⟨e, a₁, w₂, ⟨s', j₂, hr₂, he₂, hq⟩, harr⟩ := round x hx j0 j₁ a w₁ hr b (.inLoop c :: k) cs hro hb hfr
      cases e with
      | normal =>
        obtain ⟨x', hback, hx', hlt⟩ := hq
        obtain ⟨j₃, hr₃, he₃, _⟩ := hback.rel hr hr₂ (hback.len hr hr₂)
        obtain ⟨e₂, a₂, w₃, hq₂, harr₂⟩ := ih (μ x') (hn ▸ hlt) x' j₃ a₁ w₂ rfl hx' hr₃ ((he.trans he₂).trans he₃)
        exact ⟨e₂, a₂, w₃, hq₂, .of_steps (StepsIn.trans harr (.one (fenced_calm hb hfr rfl) stepR_inLoop)) harr₂⟩
      | exit id => exact ⟨_, a₁, w₂, ⟨s', j₂, hr₂, he.trans he₂, hq⟩, .pass (x := .inLoop c) rfl (fun _ _ => .inl (by simp)) harr⟩
      | goto l => exact ⟨_, a₁, w₂, ⟨s', j₂, hr₂, he.trans he₂, hq⟩, .pass (x := .inLoop c) rfl (fun _ _ => .inl (by simp)) harr⟩
      | ret => exact ⟨_, a₁, w₂, ⟨s', j₂, hr₂, he.trans he₂, hq⟩, .pass (x := .inLoop c) rfl (fun _ _ => .inl (by simp)) harr⟩
      | panic ch => exact ⟨_, a₁, w₂, ⟨s', j₂, hr₂, he.trans he₂, hq⟩, .pass (x := .inLoop c) rfl (fun _ _ => .inl (by simp)) harr⟩
      | outgrown => exact ⟨_, a₁, w₂, ⟨s', j₂, hr₂, he.trans he₂, hq⟩, .pass (x := .inLoop c) rfl (fun _ _ => .inl (by simp)) harr⟩
  obtain ⟨e, a₁, w₂, ⟨s', j₂, hr₂, he₂, hq⟩, harr⟩ := first j0 j a w hr b (.inLoop c :: k) cs hro hb hfr
  have hst : StepsIn (Machine.fenced P (FW j0.rd)) P (lone (b.atR a (.code (.loop c) :: k)) cs w) (lone (b.atR a (.code c :: .inLoop c :: k)) cs w) := .one (fenced_calm hb hfr rfl) stepR_loop
  cases e with
  | normal =>
    obtain ⟨x', hsub, hx'⟩ := hq
    obtain ⟨j₃, hr₃, he₃⟩ := hsub j0 j₂ a₁ w₂ hr₂
    obtain ⟨e₂, a₂, w₃, hq₂, harr₂⟩ := key _ x' j₃ a₁ w₂ rfl hx' hr₃ (he₂.trans he₃)
    exact ⟨e₂, a₂, w₃, hq₂, .of_steps (hst.trans (StepsIn.trans harr (.one (fenced_calm hb hfr rfl) stepR_inLoop))) harr₂⟩
  | exit id => exact ⟨_, a₁, w₂, ⟨s', j₂, hr₂, he₂, hq⟩, .of_steps hst (.pass (x := .inLoop c) rfl (fun _ _ => .inl (by simp)) harr)⟩
  | goto l => exact ⟨_, a₁, w₂, ⟨s', j₂, hr₂, he₂, hq⟩, .of_steps hst (.pass (x := .inLoop c) rfl (fun _ _ => .inl (by simp)) harr)⟩
  | ret => exact ⟨_, a₁, w₂, ⟨s', j₂, hr₂, he₂, hq⟩, .of_steps hst (.pass (x := .inLoop c) rfl (fun _ _ => .inl (by simp)) harr)⟩
  | panic ch => exact ⟨_, a₁, w₂, ⟨s', j₂, hr₂, he₂, hq⟩, .of_steps hst (.pass (x := .inLoop c) rfl (fun _ _ => .inl (by simp)) harr)⟩
  | outgrown => exact ⟨_, a₁, w₂, ⟨s', j₂, hr₂, he₂, hq⟩, .of_steps hst (.pass (x := .inLoop c) rfl (fun _ _ => .inl (by simp)) harr)⟩
theorem less_of' {N : Nat} {t t' : List (Nat × AV)} {σ : List Blk} {mv mv' : List Nat} (h : subT t' t) (hm : ∀ x ∈ mv, x ∈ mv') : Sub ⟨N, t, σ, mv⟩ ⟨N, t', σ, mv'⟩ :=
  Less.sub ⟨rfl, hm, rfl, fun _ _ hk => subT_get h hk⟩
theorem awp_loopP {P : Program} {c : Code} {Q : Exit → St → Prop} {α : Type} {N : Nat} {t : List (Nat × AV)} {σ : List Blk} {mv : List Nat} (upd : α → List (Nat × AV)) (σf : α → List Blk) (ok : α → Prop) (μ : α → Nat)
    (first : AWP P c (thenA (fun s' => ∃ x', Sub s' ⟨N, puts t (upd x'), σf x', mv⟩ ∧ ok x') Q) ⟨N, t, σ, mv⟩)
    (round : ∀ x, ok x → AWP P c (thenA (fun s' => ∃ x', Back ⟨N, puts t (upd x), σf x, mv⟩ s' ⟨N, puts t (upd x'), σf x', mv⟩ ∧ ok x' ∧ μ x' < μ x) Q) ⟨N, puts t (upd x), σf x, mv⟩) : AWP P (.loop c) Q ⟨N, t, σ, mv⟩ :=
  awp_loopF (fun x => ⟨N, puts t (upd x), σf x, mv⟩) ok μ first round
end Go.Abs
namespace Go.Proofs.YtldnolgijfkfpaaGreatDoor
open Go.Abs
set_option linter.unusedVariables false
set_option linter.unusedSimpArgs false
set_option maxRecDepth 100000
set_option maxHeartbeats 1000000
theorem awp_told {P : Program} {c : Code} {Q : Exit → St → Prop} {N : Nat} {t : List (Nat × AV)} {σ : List Blk} {mv : List Nat} (k : Nat) {x : AV} (y : AV) (hk : Abs.get t k = some x) (hs : Same x y) (h : AWP P c Q ⟨N, Abs.put t k y, σ, mv⟩) : AWP P c Q ⟨N, t, σ, mv⟩ := by
  intro j0 j a w hr
  refine h j0 j a w ⟨hr.defers, hr.rdok, hr.size, fun k' av hk' => ?_, hr.sto, hr.len0, hr.ag⟩
  simp only at hk'
  rw [get_put] at hk'
  split at hk'
  · rename_i e
    subst e
    simp only [Option.some.injEq] at hk'
    subst hk'
    obtain ⟨h1, h2⟩ := hr.tmp k _ hk
    exact ⟨h1, hs _ _ _ h2⟩
  · exact hr.tmp k' av hk'
theorem bcF_zero (i : Nat) : bcF i 0 = 1 := by unfold bcF; rw [bc_zero]; rfl
theorem bcF_succ {i j : Nat} (h : 0 < j) : bcF i (j - 1) + bcF i j = bcF (i + 1) j := by
  obtain ⟨k, rfl⟩ : ∃ k, j = k + 1 := ⟨j - 1, by omega⟩
  unfold bcF; simp only [bc, Nat.add_sub_cancel]; omega
theorem bcF_self (i : Nat) : bcF i i = 1 := by
  induction i with
  | zero => rfl
  | succ i ih => rw [← bcF_succ (by omega), Nat.add_sub_cancel, ih]; unfold bcF; rw [bc_over (by omega)]; rfl
theorem cat_bc {i j q : Nat} (hq : q < j + 1) : catRows j (fun q => encI (bcF i q)) (rowsOf 1 [I (bcF i j)]) q = encI (bcF i q) := by
  unfold catRows
  split
  · rfl
  · rw [show q = j by omega]; simp [rowsOf, encI]
theorem cat_bc1 {i q : Nat} {x y : Int} (h0 : x = bcF i 0) (h1 : y = bcF i 1) (hq : q < 2) : catRows 1 (rowsOf 1 [I x]) (rowsOf 1 [I y]) q = encI (bcF i q) := by
  subst h0 h1
  unfold catRows
  split
  · rw [show q = 0 by omega]; simp [rowsOf, encI]
  · rw [show q = 1 by omega]; simp [rowsOf, encI]
theorem bcF_wrap {i j : Nat} (hi : 0 < i) (h : i ≤ 60) (hj : 0 < j) : IntKind.i64.wrap (bcF (i - 1) (j - 1) + bcF (i - 1) j) = bcF i j := by
  obtain ⟨k, rfl⟩ : ∃ k, i = k + 1 := ⟨i - 1, by omega⟩
  rw [Nat.add_sub_cancel, bcF_succ hj]
  have := bc_60 h j
  unfold bcF
  exact wrapI (by omega) (by omega)
theorem ref44_choose_cs (σ : List Blk) (n : Nat) (k : Int) (hn : n ≤ 60) : CSF Tryz.prog 50 [.d (I n), .d (I k)] σ (.d (I (chP n k))) := by
  refine CSF.of_body T.en50 Tryz.func50 rfl (by simp [Tryz.ntmps50]) (by simp [go_sem]) fun hwf => ?_
  refine awp_reg_seq fun K hK => ?_
  simp [go_sem, Tryz.ntmps50]
  repeat refine ⟨by omega, ?_⟩
  refine hK _ ?_; clear hK K
  refine awp_seq ?_
  refine awp_reg_seq fun K hK => ?_
  simp [go_sem]
  repeat refine ⟨by omega, ?_⟩
  refine hK _ ?_; clear hK K
  refine awp_forget [0, 1, 15] (by simp only [restr, List.contains_cons, List.contains_nil, Nat.reduceBEq, Bool.or_false, Bool.or_true, Bool.true_or, Bool.false_or, if_true, if_false, Bool.false_eq_true]; rfl) ?_
  refine awp_cond rfl (fun c0 => ?_) (fun c0 => ?_)
  · have d0 := c0; try simp at d0
    have hz : chP n k = 0 := by unfold chP; rw [if_pos (by simpa using d0)]
    refine awp_reg_seq fun K hK => ?_
    simp [go_sem, c0, d0]
    repeat refine ⟨by omega, ?_⟩
    refine hK _ ?_; clear hK K
    refine awp_ret ?_
    rw [hz]; simp [go_sem, Tryz.results50]
  · have d0 := c0; try simp at d0
    have hk0 : 0 ≤ k ∧ k ≤ n := by omega
    obtain ⟨kk, rfl⟩ : ∃ kk : Nat, k = kk := ⟨k.toNat, by omega⟩
    refine awp_skip ?_
    refine awp_reg_seq fun K hK => ?_
    simp [go_sem, c0, d0]
    repeat refine ⟨by omega, ?_⟩
    refine hK _ ?_; clear hK K
    refine awp_seq ?_
    refine awp_told 5 (.d (SL none 1 encI 1 (bcF 0))) (by simp [go_sem]; rfl) (by refine sameA.same ⟨.inl rfl, rfl, rfl, fun i hi => ?_⟩; rw [show i = 0 by omega]; rfl) ?_
    refine awp_reg_seq fun K hK => ?_
    simp [go_sem, c0, d0]
    repeat refine ⟨by omega, ?_⟩
    refine hK _ ?_; clear hK K
    refine awp_block ?_
    refine awp_forget [0, 1, 5, 6] (by simp [go_sem, restr]; rfl) ?_
    refine awp_mv [σ.length] (by simp) ?_
    refine awp_loopU (α := Nat) (fun i => [(5, .d (SL none 1 encI i (bcF (i - 1)))), (6, .d (I i))]) (fun i => σ) (fun i => 1 ≤ i ∧ i ≤ n + 1) (fun i => n + 1 - i) 1 (by simp [go_sem]) (rfl) (by simp) ?_
    rintro i hi
    refine awp_seq ?_
    refine awp_reg_seq fun K hK => ?_
    simp [go_sem, c0, d0]
    repeat refine ⟨by omega, ?_⟩
    refine hK _ ?_; clear hK K
    refine awp_forget [0, 1, 5, 6, 19] (by simp only [restr, List.contains_cons, List.contains_nil, Nat.reduceBEq, Bool.or_false, Bool.or_true, Bool.true_or, Bool.false_or, if_true, if_false, Bool.false_eq_true]; rfl) ?_
    refine awp_cond rfl (fun c1 => ?_) (fun c1 => ?_)
    · have d1 := c1; try simp at d1
      have hi5 : i < n + 1 := by omega
      refine awp_skip ?_
      refine awp_seq ?_
      refine awp_block ?_
      refine awp_reg_seq fun K hK => ?_
      simp [go_sem, c0, d0, c1, d1]
      repeat refine ⟨by omega, ?_⟩
      refine hK _ ?_; clear hK K
      refine awp_seq ?_
      refine awp_reg_seq fun K hK => ?_
      simp [go_sem, c0, d0, c1, d1]
      repeat refine ⟨by omega, ?_⟩
      refine hK _ ?_; clear hK K
      refine awp_block ?_
      refine awp_forget [0, 1, 5, 6, 7, 8] (by simp [go_sem, restr]; rfl) ?_
      refine awp_loopP (α := Nat) (fun j => [(7, .ms σ.length 1 0 j), (8, .d (I j))]) (fun j => σ ++ [.arr 1 j (fun q => encI (bcF i q))]) (fun j => 2 ≤ j ∧ j ≤ i) (fun j => i - j) ?_ ?_
      · refine awp_seq ?_
        refine awp_reg_seq fun K hK => ?_
        simp [go_sem, c0, d0, c1, d1]
        repeat refine ⟨by omega, ?_⟩
        refine hK _ ?_; clear hK K
        refine awp_forget [0, 1, 5, 6, 7, 8, 25] (by simp only [restr, List.contains_cons, List.contains_nil, Nat.reduceBEq, Bool.or_false, Bool.or_true, Bool.true_or, Bool.false_or, if_true, if_false, Bool.false_eq_true]; rfl) ?_
        refine awp_cond rfl (fun c2 => ?_) (fun c2 => ?_)
        · have d2 := c2; try simp at d2
          have hj2 : 1 < i := by omega
          have hi4 : i ≤ 60 := by omega
          have hsu1 : IntKind.i64.wrap (bcF (i - 1) 0 + bcF (i - 1) 1) = bcF i 1 := bcF_wrap (j := 1) (by omega) (by omega) (by omega)
          have hj7 : 0 < i := by omega
          refine awp_skip ?_
          refine awp_seq ?_
          refine awp_block ?_
          refine awp_draw_end 12 T.mixed (by kernel_rfl) fun K hK => ?_
          simp [go_sem, c0, d0, c1, d1, c2, d2, hsu1, hj2, hj7, hwf.one, hwf.zero]
          try simp (disch := omega) only [wrapI]
          repeat refine ⟨by omega, ?_⟩
          refine hK _ ?_; clear hK K
          refine awp_rows σ.length (fun q => encI (bcF i q)) (by simp [go_sem]; first | exact ⟨rfl, rfl, rfl⟩ | exact ⟨rfl, rfl⟩ | rfl) (by intro q hq; exact cat_bc1 (bcF_zero i).symm hsu1 (by omega)) (by simp [go_sem]; rfl) ?_
          refine awp_reg_end fun K hK => ?_
          simp [go_sem, c0, d0, c1, d1, c2, d2, hsu1, hj2, hj7]
          try simp (disch := omega) only [wrapI]
          repeat refine ⟨by omega, ?_⟩
          refine hK _ ?_; clear hK K
          refine ⟨2, less_of' (by simp [go_sem, c0, d0, c1, d1, c2, d2]) (by simp), by omega⟩
        · have d2 := c2; try simp at d2
          obtain rfl : i = 1 := by omega
          refine awp_exit ?_
          refine awp_reg_end fun K hK => ?_
          simp [go_sem, c0, d0, c1, d1, c2, d2, hwf.one, hwf.zero]
          repeat refine ⟨by omega, ?_⟩
          refine hK _ ?_; clear hK K
          refine awp_rows σ.length (fun q => encI (bcF 1 q)) (by simp [go_sem]; first | exact ⟨rfl, rfl, rfl⟩ | exact ⟨rfl, rfl⟩ | rfl) (by intro q hq; exact cat_bc1 (bcF_zero 1).symm (bcF_self 1).symm (by omega)) (by simp [go_sem]; rfl) ?_
          refine awp_freeze σ.length (by simp [go_sem]; first | exact ⟨rfl, rfl, rfl⟩ | exact ⟨rfl, rfl⟩ | rfl) (by simp [go_sem]; rfl) (by simp [go_sem, hwf.frz, hwf.frz0]; rfl) ?_
          refine awp_reg_end fun K hK => ?_
          simp [go_sem, c0, d0, c1, d1, c2, d2]
          try simp (disch := omega) only [wrapI]
          repeat refine ⟨by omega, ?_⟩
          refine hK _ ?_; clear hK K
          refine ⟨1 + 1, back_of' (by simp [go_sem, c0, d0, c1, d1, c2, d2]) (.refl _) (by (simp [go_sem, c0, d0, c1, d1, c2, d2] <;> omega)), by omega, by first | omega | (dsimp only; omega)⟩
      · rintro j hj
        refine awp_seq ?_
        refine awp_reg_seq fun K hK => ?_
        simp [go_sem, c0, d0, c1, d1]
        repeat refine ⟨by omega, ?_⟩
        refine hK _ ?_; clear hK K
        refine awp_forget [0, 1, 5, 6, 7, 8, 25] (by simp only [restr, List.contains_cons, List.contains_nil, Nat.reduceBEq, Bool.or_false, Bool.or_true, Bool.true_or, Bool.false_or, if_true, if_false, Bool.false_eq_true]; rfl) ?_
        refine awp_cond rfl (fun c2 => ?_) (fun c2 => ?_)
        · have d2 := c2; try simp at d2
          have hj0 : 0 < j := by omega
          have hj3 : j - 1 < i := by omega
          have hj4 : j - 1 ≤ i := by omega
          have hj5 : j < i := by omega
          have hj6 : j ≤ i := by omega
          have hw2 : IntKind.i64.wrap ((j : Int) - 1) = (j : Int) - 1 := wrapI (by omega) (by omega)
          have hcj : ((j - 1 : Nat) : Int) = (j : Int) - 1 := by omega
          have hsum : IntKind.i64.wrap (bcF (i - 1) (j - 1) + bcF (i - 1) j) = bcF i j := bcF_wrap (by omega) (by omega) (by omega)
          refine awp_skip ?_
          refine awp_seq ?_
          refine awp_block ?_
          refine awp_draw_end 12 T.mixed (by kernel_rfl) fun K hK => ?_
          simp [go_sem, c0, d0, c1, d1, c2, d2, hj0, hsum, hw2, hcj, tn_pred, hj3, hj4, hj5, hj6, hwf.one, hwf.zero]
          try simp (disch := omega) only [wrapI]
          repeat refine ⟨by omega, ?_⟩
          refine hK _ ?_; clear hK K
          refine awp_rows σ.length (fun q => encI (bcF i q)) (by simp [go_sem]; first | exact ⟨rfl, rfl, rfl⟩ | exact ⟨rfl, rfl⟩ | rfl) (by intro q hq; exact cat_bc (by omega)) (by simp [go_sem]; rfl) ?_
          refine awp_reg_end fun K hK => ?_
          simp [go_sem, c0, d0, c1, d1, c2, d2, hj0, hsum, hw2, hcj, tn_pred, hj3, hj4, hj5, hj6]
          try simp (disch := omega) only [wrapI]
          repeat refine ⟨by omega, ?_⟩
          refine hK _ ?_; clear hK K
          refine ⟨j + 1, back_of' (by simp [go_sem, wrap_succ (i := j) (by omega), c0, d0, c1, d1, c2, d2]) ((leaves_app (by simp [go_sem]))) (by (simp [go_sem, wrap_succ (i := j) (by omega), c0, d0, c1, d1, c2, d2] <;> omega)), by omega, by first | omega | (dsimp only; omega)⟩
        · have d2 := c2; try simp at d2
          obtain rfl : j = i := by omega
          refine awp_exit ?_
          refine awp_reg_end fun K hK => ?_
          simp [go_sem, c0, d0, c1, d1, c2, d2, hwf.one, hwf.zero]
          repeat refine ⟨by omega, ?_⟩
          refine hK _ ?_; clear hK K
          refine awp_rows σ.length (fun q => encI (bcF j q)) (by simp [go_sem]; first | exact ⟨rfl, rfl, rfl⟩ | exact ⟨rfl, rfl⟩ | rfl) (by intro q hq; have h9 := cat_bc (i := j) (j := j) hq; rw [bcF_self] at h9; exact h9) (by simp [go_sem]; rfl) ?_
          refine awp_freeze σ.length (by simp [go_sem]; first | exact ⟨rfl, rfl, rfl⟩ | exact ⟨rfl, rfl⟩ | rfl) (by simp [go_sem]; rfl) (by simp [go_sem, hwf.frz, hwf.frz0]; rfl) ?_
          refine awp_reg_end fun K hK => ?_
          simp [go_sem, c0, d0, c1, d1, c2, d2]
          try simp (disch := omega) only [wrapI]
          repeat refine ⟨by omega, ?_⟩
          refine hK _ ?_; clear hK K
          refine ⟨j + 1, back_of' (by simp [go_sem, wrap_succ (i := j) (by omega), c0, d0, c1, d1, c2, d2]) (.refl _) (by (simp [go_sem, wrap_succ (i := j) (by omega), c0, d0, c1, d1, c2, d2] <;> omega)), by omega, by first | omega | (dsimp only; omega)⟩
    · have d1 := c1; try simp at d1
      obtain rfl : i = n + 1 := by omega
      have hk1 : kk < n + 1 := by omega
      refine awp_exit ?_
      refine awp_reg_seq fun K hK => ?_
      simp [go_sem, c0, d0, c1, d1, hk1]
      repeat refine ⟨by omega, ?_⟩
      refine hK _ ?_; clear hK K
      refine awp_ret ?_
      rw [chP_nat]; simp [go_sem, Tryz.results50, bcF]
end Go.Proofs.YtldnolgijfkfpaaGreatDoor
