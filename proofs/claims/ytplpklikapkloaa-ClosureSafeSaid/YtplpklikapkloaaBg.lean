/- Contracts of the reference's spans, written by a program along ref31b.spec. -/
import Derived.Test.YtplpklikapkloaaBf
namespace Go.Proofs.Ytplpklikapkloaa
open Go.Abs Go.Arch
set_option linter.unusedVariables false
set_option linter.unusedSimpArgs false
set_option maxRecDepth 100000
set_option maxHeartbeats 400000

instance : Inhabited Span := ⟨⟨0, 0⟩⟩
def clSpan (m : Dating) (r : Rule) : Span := ⟨r.In.From, min r.In.Until (lastF r m + 1)⟩
def joins (S : List Span) (s : Span) : Prop := 0 < S.length ∧ (nth S (S.length - 1)).Until = s.From
instance (S : List Span) (s : Span) : Decidable (joins S s) := inferInstanceAs (Decidable (_ ∧ _))
def addSpan (S : List Span) (s : Span) : List Span :=
  if s.From < s.Until then (if joins S s then S.set (S.length - 1) ⟨(nth S (S.length - 1)).From, s.Until⟩ else S ++ [s]) else S
theorem addSpan_len (S : List Span) (s : Span) : (addSpan S s).length ≤ S.length + 1 := by
  unfold addSpan; split
  · split <;> simp
  · omega
def refLoop (n : Nat) (g : Nat → Rule) (k : Int) (m : Dating) : Nat → Rule × Bool → List Span → List Span
  | 0, _, S => S
  | q + 1, p, S => if p.2 = true then refLoop n g k m q (nextF g k p.1.In.Until n) (addSpan S (clSpan m p.1)) else S
def refSpans (n : Nat) (g : Nat → Rule) (k : Int) (m : Dating) : List Span := refLoop n g k m 1048577 (nextF g k 0 n) []
def refSpansR (n : Nat) (g : Nat → Rule) (k : Int) (m : Dating) : List Span × Int := if check n g ≠ 0 ∨ datChk m ≠ 0 then ([], 1) else if k < 1 ∨ 999 < k then ([], 2) else (refSpans n g k m, 0)
theorem nextF_spec (g : Nat → Rule) (k f : Int) : ∀ n, (nextF g k f n).2 = true → ∃ i, i < n ∧ (nextF g k f n).1 = g i ∧ (g i).Class = k ∧ f ≤ (g i).In.From
  | 0, h => by simp [nextF] at h
  | n + 1, h => by
    rw [nextF] at h ⊢
    split
    · rename_i hc
      refine ⟨n, by omega, rfl, ?_⟩
      unfold nextC at hc; simp at hc; exact ⟨hc.1.1, hc.1.2⟩
    · rename_i hc
      rw [if_neg hc] at h
      obtain ⟨i, h1, h2⟩ := nextF_spec g k f n h
      exact ⟨i, by omega, h2⟩
theorem formed_in {r : Rule} (h : formed r = true) : 0 ≤ r.In.From ∧ r.In.From < r.In.Until ∧ r.In.Until ≤ 1048576 := by
  unfold formed spanOk at h; simp at h; omega
theorem next_ok {n : Nat} {g : Nat → Rule} (h0 : check n g = 0) {k f : Int} (h : (nextF g k f n).2 = true) : formed (nextF g k f n).1 = true ∧ f ≤ (nextF g k f n).1.In.From := by
  obtain ⟨i, h1, h2, h3, h4⟩ := nextF_spec g k f n h
  rw [h2]; exact ⟨((check_zero h0).2 i h1).1, h4⟩


theorem ref31_Spans_cs (σ : List Blk) (c : Option Nat) (n : Nat) (g : Nat → Rule) (k : Int) (m : Dating) (hn : n < 1000000000) : CSF Try.prog 26 [.d (SL c 6 Rule.enc n g), .d (I k), .agg (m.enc.map .d)] σ (.tup [.d (SL none 2 Span.enc (refSpansR n g k m).1.length (nth (refSpansR n g k m).1)), .d (I (refSpansR n g k m).2)]) := by
  refine CSF.of_body T.en26 Try.func26 rfl (by simp [Try.ntmps26]) (by simp [go_sem]) fun hwf => ?_
  refine awp_reg_seq fun K hK => ?_
  simp [go_sem, Try.ntmps26]
  repeat refine ⟨by omega, ?_⟩
  refine hK _ ?_; clear hK K
  refine awp_seq ?_
  refine awp_reg_seq fun K hK => ?_
  simp [go_sem]
  repeat refine ⟨by omega, ?_⟩
  refine CSk.mk (ref31_Check_cs _ c n g hn) ?_
  simp [go_sem]
  repeat refine ⟨by omega, ?_⟩
  refine CSm.mk (ref03_Check_cs _ m) ?_
  simp [go_sem]
  repeat refine ⟨by omega, ?_⟩
  refine hK _ ?_; clear hK K
  refine awp_forget [0, 1, 5, 21] (by simp only [restr, List.contains_cons, List.contains_nil, Nat.reduceBEq, Bool.or_false, Bool.or_true, Bool.true_or, Bool.false_or, if_true, if_false, Bool.false_eq_true]; rfl) ?_
  refine awp_cond rfl (fun c0 => ?_) (fun c0 => ?_)
  · have d0 := c0; try simp at d0
    have hz : refSpansR n g k m = ([], 1) := by unfold refSpansR; rw [if_pos d0]
    refine awp_reg_seq fun K hK => ?_
    simp [go_sem, c0, d0]
    repeat refine ⟨by omega, ?_⟩
    refine hK _ ?_; clear hK K
    refine awp_ret ?_
    rw [hz]; simp [go_sem, Try.results26]
  · have d0 := c0; try simp at d0
    refine awp_skip ?_
    refine awp_seq ?_
    refine awp_reg_seq fun K hK => ?_
    simp [go_sem, c0, d0]
    repeat refine ⟨by omega, ?_⟩
    refine hK _ ?_; clear hK K
    refine awp_forget [0, 1, 5, 27] (by simp only [restr, List.contains_cons, List.contains_nil, Nat.reduceBEq, Bool.or_false, Bool.or_true, Bool.true_or, Bool.false_or, if_true, if_false, Bool.false_eq_true]; rfl) ?_
    refine awp_cond rfl (fun c1 => ?_) (fun c1 => ?_)
    · have d1 := c1; try simp at d1
      have hz : refSpansR n g k m = ([], 2) := by unfold refSpansR; rw [if_neg (by simp [d0]), if_pos d1]
      refine awp_reg_seq fun K hK => ?_
      simp [go_sem, c0, d0, c1, d1]
      repeat refine ⟨by omega, ?_⟩
      refine hK _ ?_; clear hK K
      refine awp_ret ?_
      rw [hz]; simp [go_sem, Try.results26]
    · have d1 := c1; try simp at d1
      have hz : refSpansR n g k m = (refSpans n g k m, 0) := by unfold refSpansR; rw [if_neg (by simp [d0]), if_neg (by omega)]
      refine awp_skip ?_
      refine awp_reg_seq fun K hK => ?_
      simp [go_sem, c0, d0, c1, d1]
      repeat refine ⟨by omega, ?_⟩
      refine hK _ ?_; clear hK K
      refine awp_thawT 8 2 (fun i => Span.enc (nth ([] : List Span) i)) (by simp [go_sem]) (by simp [go_sem]; rfl) ?_
      refine awp_reg_seq fun K hK => ?_
      simp [go_sem, c0, d0, c1, d1]
      repeat refine ⟨by omega, ?_⟩
      refine CSk.mk (ref31_next_cs _ c n g k 0 hn) ?_
      simp [go_sem, c0, d0, c1, d1]
      repeat refine ⟨by omega, ?_⟩
      refine hK _ ?_; clear hK K
      refine awp_seq ?_
      refine awp_block ?_
      refine awp_forget [0, 1, 5, 8, 9, 10] (by simp [go_sem, restr]; rfl) ?_
      refine awp_mv [σ.length + 1] (by simp) ?_
      refine awp_loopU (α := (Rule × Bool) × List Span × Nat) (fun x => [(8, .ms (σ.length + 1) 2 0 x.2.1.length), (10, .d (B x.1.2))]) (fun x => σ ++ [.var (m.enc.map .d), .arr 2 x.2.1.length (fun i => Span.enc (nth x.2.1 i)), .var (x.1.1.enc.map .d)]) (fun x => refSpans n g k m = refLoop n g k m x.2.2 x.1 x.2.1 ∧ x.2.1.length + x.2.2 ≤ 1048577 ∧ (x.1.2 = true → formed x.1.1 = true ∧ 1048577 ≤ x.2.2 + x.1.1.In.From)) (fun x => x.2.2) (nextF g k 0 n, [], 1048577) (by simp [go_sem]) rfl (⟨rfl, by simp, fun h => ⟨(next_ok d0.1 h).1, by have := (next_ok d0.1 h).2; simp only; omega⟩⟩) ?_
      rintro ⟨p, S, q⟩ ⟨hx, hS, hp⟩
      dsimp only at hx hS hp
      refine awp_seq ?_
      refine awp_reg_seq fun K hK => ?_
      simp [go_sem, c0, d0, c1, d1]
      repeat refine ⟨by omega, ?_⟩
      refine hK _ ?_; clear hK K
      refine awp_forget [0, 1, 5, 8, 9, 34] (by simp only [restr, List.contains_cons, List.contains_nil, Nat.reduceBEq, Bool.or_false, Bool.or_true, Bool.true_or, Bool.false_or, if_true, if_false, Bool.false_eq_true]; rfl) ?_
      refine awp_cond rfl (fun c2 => ?_) (fun c2 => ?_)
      · have d2 := c2; try simp at d2
        obtain ⟨hf, hq⟩ := hp c2
        have hfi := formed_in hf
        obtain ⟨q, rfl⟩ : ∃ q', q = q' + 1 := ⟨q - 1, by omega⟩
        rw [refLoop, if_pos c2] at hx
        have hu : untilR p.1 m = (lastF p.1 m + 1, 0) := by unfold untilR; rw [if_neg (by simp [hf]), if_neg (by simp [d0])]
        have hnx : (nextF g k p.1.In.Until n).2 = true → _ := fun h => next_ok d0.1 h
        refine awp_skip ?_
        refine awp_block ?_
        refine awp_reg_seq fun K hK => ?_
        simp [go_sem, c0, d0, c1, d1, c2, d2, hu]
        repeat refine ⟨by omega, ?_⟩
        refine CSk.mk (ref31_Until_cs _ p.1 m) ?_
        simp [go_sem, c0, d0, c1, d1, c2, d2, hu]
        repeat refine ⟨by omega, ?_⟩
        refine hK _ ?_; clear hK K
        refine awp_reg_seq fun K hK => ?_
        simp [go_sem, c0, d0, c1, d1, c2, d2, hu]
        repeat refine ⟨by omega, ?_⟩
        refine hK _ ?_; clear hK K
        refine awp_seq ?_
        refine awp_reg_seq fun K hK => ?_
        simp [go_sem, c0, d0, c1, d1, c2, d2, hu]
        repeat refine ⟨by omega, ?_⟩
        refine hK _ ?_; clear hK K
        refine awp_forget [0, 1, 5, 8, 9, 13, 54] (by simp only [restr, List.contains_cons, List.contains_nil, Nat.reduceBEq, Bool.or_false, Bool.or_true, Bool.true_or, Bool.false_or, if_true, if_false, Bool.false_eq_true]; rfl) ?_
        refine awp_cond rfl (fun c3 => ?_) (fun c3 => ?_)
        · have d3 := c3; try simp at d3
          refine awp_draw_seq 15 T.mixed (by kernel_rfl) fun K hK => ?_
          simp [go_sem, c0, d0, c1, d1, c2, d2, hu, c3, d3]
          try simp (disch := omega) only [wrapI]
          repeat refine ⟨by omega, ?_⟩
          refine hK _ ?_; clear hK K
          refine awp_forget [0, 1, 5, 8, 9, 13, 69] (by simp only [restr, List.contains_cons, List.contains_nil, Nat.reduceBEq, Bool.or_false, Bool.or_true, Bool.true_or, Bool.false_or, if_true, if_false, Bool.false_eq_true]; rfl) ?_
          refine awp_cond rfl (fun c4 => ?_) (fun c4 => ?_)
          · have d4 := c4; try simp at d4
            have ha : addSpan S (clSpan m p.1) = S.set (S.length - 1) ⟨(nth S (S.length - 1)).From, min p.1.In.Until (lastF p.1 m + 1)⟩ := by
              unfold addSpan; rw [if_pos (show (clSpan m p.1).From < (clSpan m p.1).Until from d3), if_pos (show joins S (clSpan m p.1) from d4)]; rfl
            refine awp_reg_end fun K hK => ?_
            simp [go_sem, c0, d0, c1, d1, c2, d2, hu, c3, d3, c4, d4, ha]
            try simp (disch := omega) only [wrapI]
            repeat refine ⟨by omega, ?_⟩
            refine hK _ ?_; clear hK K
            refine awp_rows (σ.length + 1) (fun i => Span.enc (nth (S.set (S.length - 1) ⟨(nth S (S.length - 1)).From, min p.1.In.Until (lastF p.1 m + 1)⟩) i)) (by simp [go_sem]; first | exact ⟨rfl, rfl, rfl⟩ | exact ⟨rfl, rfl⟩ | rfl) (by exact fun i hi => set_nth (enc := Span.enc) (x := ⟨(nth S (S.length - 1)).From, min p.1.In.Until (lastF p.1 m + 1)⟩) rfl hi) (by simp [go_sem]; rfl) ?_
            refine awp_reg_end fun K hK => ?_
            simp [go_sem, c0, d0, c1, d1, c2, d2, hu, c3, d3, c4, d4, ha]
            repeat refine ⟨by omega, ?_⟩
            refine CSk.mk (ref31_next_cs _ c n g k p.1.In.Until hn) ?_
            simp [go_sem, c0, d0, c1, d1, c2, d2, hu, c3, d3, c4, d4, ha]
            repeat refine ⟨by omega, ?_⟩
            refine hK _ ?_; clear hK K
            refine ⟨(nextF g k p.1.In.Until n, addSpan S (clSpan m p.1), q), back_of' (by simp [go_sem, c0, d0, c1, d1, c2, d2, hu, c3, d3, c4, d4, ha]) ((leaves_app (by simp [go_sem]))) (by (simp [go_sem, c0, d0, c1, d1, c2, d2, hu, c3, d3, c4, d4, ha] <;> omega)), ⟨hx, by have := addSpan_len S (clSpan m p.1); simp only; omega, fun h => ⟨(hnx h).1, by have := (hnx h).2; simp only; omega⟩⟩, by first | omega | (dsimp only; omega)⟩
          · have d4 := c4; try simp at d4
            have ha : addSpan S (clSpan m p.1) = S ++ [⟨p.1.In.From, min p.1.In.Until (lastF p.1 m + 1)⟩] := by
              unfold addSpan; rw [if_pos (show (clSpan m p.1).From < (clSpan m p.1).Until from d3), if_neg (by
                unfold joins; rintro ⟨h1, h2⟩; exact d4 h1 h2)]; rfl
            refine awp_reg_end fun K hK => ?_
            simp [go_sem, c0, d0, c1, d1, c2, d2, hu, c3, d3, c4, d4, ha, hwf.one, hwf.zero]
            repeat refine ⟨by omega, ?_⟩
            refine hK _ ?_; clear hK K
            refine awp_rows (σ.length + 1) (fun i => Span.enc (nth (S ++ [⟨p.1.In.From, min p.1.In.Until (lastF p.1 m + 1)⟩]) i)) (by simp [go_sem]; first | exact ⟨rfl, rfl, rfl⟩ | exact ⟨rfl, rfl⟩ | rfl) (by exact fun i hi => cat_nth (enc := Span.enc) (x := ⟨p.1.In.From, min p.1.In.Until (lastF p.1 m + 1)⟩) rfl hi) (by simp [go_sem]; rfl) ?_
            refine awp_reg_end fun K hK => ?_
            simp [go_sem, c0, d0, c1, d1, c2, d2, hu, c3, d3, c4, d4, ha]
            repeat refine ⟨by omega, ?_⟩
            refine CSk.mk (ref31_next_cs _ c n g k p.1.In.Until hn) ?_
            simp [go_sem, c0, d0, c1, d1, c2, d2, hu, c3, d3, c4, d4, ha]
            repeat refine ⟨by omega, ?_⟩
            refine hK _ ?_; clear hK K
            refine ⟨(nextF g k p.1.In.Until n, addSpan S (clSpan m p.1), q), back_of' (by simp [go_sem, c0, d0, c1, d1, c2, d2, hu, c3, d3, c4, d4, ha]) ((leaves_app (by simp [go_sem]))) (by (simp [go_sem, c0, d0, c1, d1, c2, d2, hu, c3, d3, c4, d4, ha] <;> omega)), ⟨hx, by have := addSpan_len S (clSpan m p.1); simp only; omega, fun h => ⟨(hnx h).1, by have := (hnx h).2; simp only; omega⟩⟩, by first | omega | (dsimp only; omega)⟩
        · have d3 := c3; try simp at d3
          have ha : addSpan S (clSpan m p.1) = S := by
            unfold addSpan; rw [if_neg (show ¬ (clSpan m p.1).From < (clSpan m p.1).Until from by unfold clSpan; simp only; omega)]
          refine awp_skip ?_
          refine awp_reg_end fun K hK => ?_
          simp [go_sem, c0, d0, c1, d1, c2, d2, hu, c3, d3, ha]
          repeat refine ⟨by omega, ?_⟩
          refine CSk.mk (ref31_next_cs _ c n g k p.1.In.Until hn) ?_
          simp [go_sem, c0, d0, c1, d1, c2, d2, hu, c3, d3, ha]
          repeat refine ⟨by omega, ?_⟩
          refine hK _ ?_; clear hK K
          refine ⟨(nextF g k p.1.In.Until n, addSpan S (clSpan m p.1), q), back_of' (by simp [go_sem, c0, d0, c1, d1, c2, d2, hu, c3, d3, ha]) ((leaves_app (by simp [go_sem]))) (by (simp [go_sem, c0, d0, c1, d1, c2, d2, hu, c3, d3, ha] <;> omega)), ⟨hx, by have := addSpan_len S (clSpan m p.1); simp only; omega, fun h => ⟨(hnx h).1, by have := (hnx h).2; simp only; omega⟩⟩, by first | omega | (dsimp only; omega)⟩
      · have d2 := c2; try simp at d2
        have hr : refLoop n g k m q p S = S := by cases q <;> simp [refLoop, c2]
        rw [hr] at hx
        refine awp_exit ?_
        refine awp_reg_seq fun K hK => ?_
        simp [go_sem, c0, d0, c1, d1, c2, d2]
        repeat refine ⟨by omega, ?_⟩
        refine hK _ ?_; clear hK K
        refine awp_freeze (σ.length + 1) (by simp [go_sem]; first | exact ⟨rfl, rfl, rfl⟩ | exact ⟨rfl, rfl⟩ | rfl) (by simp [go_sem]; rfl) (by simp [go_sem, hwf.frz, hwf.frz0]; rfl) ?_
        refine awp_ret ?_
        rw [hz, hx]; simp [go_sem, Try.results26]

def opensF : List Span → Int → Int
  | [], f => f
  | s :: S, f => opensF S (if s.From ≤ f ∧ f < s.Until then s.Until else f)
def refOpensR (n : Nat) (g : Nat → Rule) (k : Int) (m : Dating) (f : Int) : Int × Int :=
  if (refSpansR n g k m).2 ≠ 0 then (0, (refSpansR n g k m).2) else if f < 0 ∨ 1048575 < f then (0, 2) else if 1048575 < opensF (refSpansR n g k m).1 f then (0, 23) else (opensF (refSpansR n g k m).1 f, 0)
theorem refLoop_len (n : Nat) (g : Nat → Rule) (k : Int) (m : Dating) : ∀ (q : Nat) (p : Rule × Bool) (S : List Span), (refLoop n g k m q p S).length ≤ S.length + q
  | 0, p, S => by simp [refLoop]
  | q + 1, p, S => by
    rw [refLoop]
    split
    · have := refLoop_len n g k m q (nextF g k p.1.In.Until n) (addSpan S (clSpan m p.1))
      have := addSpan_len S (clSpan m p.1)
      omega
    · omega
theorem refSpansR_len (n : Nat) (g : Nat → Rule) (k : Int) (m : Dating) : (refSpansR n g k m).1.length < 2000000 := by
  unfold refSpansR
  split
  · simp
  · split
    · simp
    · have := refLoop_len n g k m 1048577 (nextF g k 0 n) []
      simp only [List.length_nil] at this; simp only [refSpans]; omega
theorem drop_nth {α : Type} [Inhabited α] {l : List α} {i : Nat} (h : i < l.length) : l.drop i = nth l i :: l.drop (i + 1) := by
  rw [List.drop_eq_getElem_cons h, nth_eq h]
theorem ref31_Opens_cs (σ : List Blk) (c : Option Nat) (n : Nat) (g : Nat → Rule) (k : Int) (m : Dating) (f : Int) (hn : n < 1000000000) : CSF Try.prog 28 [.d (SL c 6 Rule.enc n g), .d (I k), .agg (m.enc.map .d), .d (I f)] σ (.tup [.d (I (refOpensR n g k m f).1), .d (I (refOpensR n g k m f).2)]) := by
  have hlen := refSpansR_len n g k m
  refine CSF.of_body T.en28 Try.func28 rfl (by simp [Try.ntmps28]) (by simp [go_sem]) fun hwf => ?_
  refine awp_reg_seq fun K hK => ?_
  simp [go_sem, Try.ntmps28]
  repeat refine ⟨by omega, ?_⟩
  refine hK _ ?_; clear hK K
  refine awp_reg_seq fun K hK => ?_
  simp [go_sem]
  repeat refine ⟨by omega, ?_⟩
  refine CSk.mk (ref31_Spans_cs _ c n g k m hn) ?_
  simp [go_sem]
  repeat refine ⟨by omega, ?_⟩
  refine hK _ ?_; clear hK K
  refine awp_seq ?_
  refine awp_reg_seq fun K hK => ?_
  simp [go_sem]
  repeat refine ⟨by omega, ?_⟩
  refine hK _ ?_; clear hK K
  refine awp_forget [3, 10, 11, 22] (by simp only [restr, List.contains_cons, List.contains_nil, Nat.reduceBEq, Bool.or_false, Bool.or_true, Bool.true_or, Bool.false_or, if_true, if_false, Bool.false_eq_true]; rfl) ?_
  refine awp_cond rfl (fun c0 => ?_) (fun c0 => ?_)
  · have d0 := c0; try simp at d0
    have hz : refOpensR n g k m f = (0, (refSpansR n g k m).2) := by unfold refOpensR; rw [if_pos d0]
    refine awp_reg_seq fun K hK => ?_
    simp [go_sem, c0, d0]
    repeat refine ⟨by omega, ?_⟩
    refine hK _ ?_; clear hK K
    refine awp_ret ?_
    rw [hz]; simp [go_sem, Try.results28]
  · have d0 := c0; try simp at d0
    refine awp_skip ?_
    refine awp_seq ?_
    refine awp_reg_seq fun K hK => ?_
    simp [go_sem, c0, d0]
    repeat refine ⟨by omega, ?_⟩
    refine hK _ ?_; clear hK K
    refine awp_forget [3, 10, 29] (by simp only [restr, List.contains_cons, List.contains_nil, Nat.reduceBEq, Bool.or_false, Bool.or_true, Bool.true_or, Bool.false_or, if_true, if_false, Bool.false_eq_true]; rfl) ?_
    refine awp_cond rfl (fun c1 => ?_) (fun c1 => ?_)
    · have d1 := c1; try simp at d1
      have hz : refOpensR n g k m f = (0, 2) := by unfold refOpensR; rw [if_neg (by simp [d0]), if_pos d1]
      refine awp_reg_seq fun K hK => ?_
      simp [go_sem, c0, d0, c1, d1]
      repeat refine ⟨by omega, ?_⟩
      refine hK _ ?_; clear hK K
      refine awp_ret ?_
      rw [hz]; simp [go_sem, Try.results28]
    · have d1 := c1; try simp at d1
      have hz : refOpensR n g k m f = if 1048575 < opensF (refSpansR n g k m).1 f then (0, 23) else (opensF (refSpansR n g k m).1 f, 0) := by unfold refOpensR; rw [if_neg (by simp [d0]), if_neg (by omega)]
      generalize (refSpansR n g k m).1 = L at *
      refine awp_skip ?_
      refine awp_seq ?_
      refine awp_reg_seq fun K hK => ?_
      simp [go_sem, c0, d0, c1, d1]
      repeat refine ⟨by omega, ?_⟩
      refine hK _ ?_; clear hK K
      refine awp_block ?_
      refine awp_forget [3, 30, 31, 32] (by simp [go_sem, restr]; rfl) ?_
      refine awp_loopU (α := Nat × Int) (fun x => [(3, .d (I x.2)), (32, .d (I x.1))]) (fun x => _) (fun x => x.1 ≤ L.length ∧ opensF L f = opensF (L.drop x.1) x.2) (fun x => L.length - x.1) (0, f) (by simp [go_sem]) rfl (⟨by simp, rfl⟩) ?_
      rintro ⟨i, e⟩ ⟨hi, hx⟩
      dsimp only at hi hx
      refine awp_reg_seq fun K hK => ?_
      simp [go_sem, c0, d0, c1, d1]
      repeat refine ⟨by omega, ?_⟩
      refine hK _ ?_; clear hK K
      refine awp_seq ?_
      refine awp_forget [3, 30, 31, 32, 33] (by simp only [restr, List.contains_cons, List.contains_nil, Nat.reduceBEq, Bool.or_false, Bool.or_true, Bool.true_or, Bool.false_or, if_true, if_false, Bool.false_eq_true]; rfl) ?_
      refine awp_cond rfl (fun c2 => ?_) (fun c2 => ?_)
      · have d2 := c2; try simp at d2
        rw [drop_nth (by omega), opensF] at hx
        refine awp_skip ?_
        refine awp_seq ?_
        refine awp_block ?_
        refine awp_reg_seq fun K hK => ?_
        simp [go_sem, c0, d0, c1, d1, c2, d2]
        repeat refine ⟨by omega, ?_⟩
        refine hK _ ?_; clear hK K
        refine awp_reg_seq fun K hK => ?_
        simp [go_sem, c0, d0, c1, d1, c2, d2]
        repeat refine ⟨by omega, ?_⟩
        refine hK _ ?_; clear hK K
        refine awp_forget [3, 13, 30, 31, 32, 45] (by simp only [restr, List.contains_cons, List.contains_nil, Nat.reduceBEq, Bool.or_false, Bool.or_true, Bool.true_or, Bool.false_or, if_true, if_false, Bool.false_eq_true]; rfl) ?_
        refine awp_cond rfl (fun c3 => ?_) (fun c3 => ?_)
        · have d3 := c3; try simp at d3
          refine awp_reg_end fun K hK => ?_
          simp [go_sem, c0, d0, c1, d1, c2, d2, c3, d3]
          repeat refine ⟨by omega, ?_⟩
          refine hK _ ?_; clear hK K
          refine awp_reg_end fun K hK => ?_
          simp [go_sem, c0, d0, c1, d1, c2, d2, c3, d3]
          try simp (disch := omega) only [wrapI]
          repeat refine ⟨by omega, ?_⟩
          refine hK _ ?_; clear hK K
          refine ⟨(i + 1, (nth L i).Until), back_of' (by simp) (.refl _) (by (simp [go_sem, wrap_succ (i := i) (by omega), c0, d0, c1, d1, c2, d2, c3, d3] <;> omega)), ⟨by dsimp only; omega, by rw [hx, if_pos (by simpa using d3)]⟩, by first | omega | (dsimp only; omega)⟩
        · have d3 := c3; try simp at d3
          refine awp_skip ?_
          refine awp_reg_end fun K hK => ?_
          simp [go_sem, c0, d0, c1, d1, c2, d2, c3, d3]
          try simp (disch := omega) only [wrapI]
          repeat refine ⟨by omega, ?_⟩
          refine hK _ ?_; clear hK K
          refine ⟨(i + 1, e), back_of' (by simp) (.refl _) (by (simp [go_sem, wrap_succ (i := i) (by omega), c0, d0, c1, d1, c2, d2, c3, d3] <;> omega)), ⟨by dsimp only; omega, by rw [hx, if_neg (by simpa using d3)]⟩, by first | omega | (dsimp only; omega)⟩
      · have d2 := c2; try simp at d2
        rw [List.drop_eq_nil_iff.2 (by omega), opensF] at hx
        rw [hx] at hz
        refine awp_exit ?_
        refine awp_seq ?_
        refine awp_reg_seq fun K hK => ?_
        simp [go_sem, c0, d0, c1, d1, c2, d2]
        repeat refine ⟨by omega, ?_⟩
        refine hK _ ?_; clear hK K
        refine awp_forget [3, 50] (by simp only [restr, List.contains_cons, List.contains_nil, Nat.reduceBEq, Bool.or_false, Bool.or_true, Bool.true_or, Bool.false_or, if_true, if_false, Bool.false_eq_true]; rfl) ?_
        refine awp_cond rfl (fun c4 => ?_) (fun c4 => ?_)
        · have d4 := c4; try simp at d4
          rw [if_pos d4] at hz
          refine awp_reg_seq fun K hK => ?_
          simp [go_sem, c0, d0, c1, d1, c2, d2, c4, d4]
          repeat refine ⟨by omega, ?_⟩
          refine hK _ ?_; clear hK K
          refine awp_ret ?_
          rw [hz]; simp [go_sem, Try.results28]
        · have d4 := c4; try simp at d4
          rw [if_neg (by omega)] at hz
          refine awp_skip ?_
          refine awp_reg_seq fun K hK => ?_
          simp [go_sem, c0, d0, c1, d1, c2, d2, c4, d4]
          repeat refine ⟨by omega, ?_⟩
          refine hK _ ?_; clear hK K
          refine awp_ret ?_
          rw [hz]; simp [go_sem, Try.results28]

end Go.Proofs.Ytplpklikapkloaa
