/- Plain laws: the spans of a class are good, and hold the days on which it is closed. -/
import Derived.Test.YtplpklikapkloaaBm
namespace Go.Proofs.Ytplpklikapkloaa
open Go.Abs Go.Arch
set_option linter.unusedVariables false
set_option linter.unusedSimpArgs false

def inS (W : List Span) (d : Int) : Prop := ∃ s ∈ W, s.From ≤ d ∧ d < s.Until
structure GoodSpans (W : List Span) : Prop where
  each : ∀ s ∈ W, 0 ≤ s.From ∧ s.From < s.Until ∧ s.Until ≤ 1048576
  apart : W.Pairwise fun a b => a.Until < b.From

theorem nth_last (W : List Span) (l : Span) : nth (W ++ [l]) ((W ++ [l]).length - 1) = l := by
  rw [nth_eq (by simp)]; simp

theorem addSpan_concat (W : List Span) (l q : Span) : addSpan (W ++ [l]) q = if q.From < q.Until then (if l.Until = q.From then W ++ [⟨l.From, q.Until⟩] else W ++ [l] ++ [q]) else W ++ [l] := by
  have hj : joins (W ++ [l]) q ↔ l.Until = q.From := by unfold joins; rw [nth_last]; simp
  unfold addSpan
  by_cases h1 : q.From < q.Until
  · rw [if_pos h1, if_pos h1]
    by_cases h2 : l.Until = q.From
    · rw [if_pos (hj.2 h2), if_pos h2, nth_last]; simp
    · rw [if_neg (fun h => h2 (hj.1 h)), if_neg h2]
  · rw [if_neg h1, if_neg h1]

theorem addSpan_nil (q : Span) : addSpan [] q = if q.From < q.Until then [q] else [] := by
  have hj : ¬ joins [] q := by unfold joins; simp
  unfold addSpan
  rw [if_neg hj]; rfl

theorem addSpan_good {W : List Span} {q : Span} (h : GoodSpans W) (hb : ∀ s ∈ W, s.Until ≤ q.From) (h0 : 0 ≤ q.From) (h1 : q.Until ≤ 1048576) :
    GoodSpans (addSpan W q) ∧ (∀ d, inS (addSpan W q) d ↔ inS W d ∨ (q.From ≤ d ∧ d < q.Until)) ∧ ∀ s ∈ addSpan W q, s.Until ≤ q.From ∨ s.Until ≤ q.Until := by
  rcases List.eq_nil_or_concat W with rfl | ⟨W, l, rfl⟩
  · rw [addSpan_nil]
    split
    · rename_i hq
      refine ⟨⟨fun s hs => by simp at hs; subst hs; exact ⟨h0, hq, h1⟩, by simp⟩, fun d => by simp [inS], fun s hs => by simp at hs; subst hs; exact .inr (Int.le_refl _)⟩
    · rename_i hq
      refine ⟨h, fun d => ?_, by simp⟩
      simp only [inS, List.not_mem_nil, false_and, exists_false, false_or, false_iff]
      omega
  · have h' := h
    obtain ⟨he, ha⟩ := h
    rw [List.concat_eq_append] at *
    obtain ⟨ha1, ha2, ha3⟩ := List.pairwise_append.1 ha
    have hl := he l (by simp)
    have hlb := hb l (by simp)
    rw [addSpan_concat]
    split
    · rename_i hq
      split
      · rename_i hj
        refine ⟨⟨fun s hs => ?_, ?_⟩, fun d => ?_, fun s hs => ?_⟩
        · rcases List.mem_append.1 hs with hs | hs
          · exact he s (List.mem_append_left _ hs)
          · simp at hs; subst hs; simp only; omega
        · refine List.pairwise_append.2 ⟨ha1, by simp, fun a hma b hmb => ?_⟩
          simp at hmb; subst hmb
          exact ha3 a hma l (by simp)
        · constructor
          · rintro ⟨s, hs, h2⟩
            rcases List.mem_append.1 hs with hs | hs
            · exact .inl ⟨s, List.mem_append_left _ hs, h2⟩
            · simp at hs; subst hs
              simp only at h2
              rcases Int.lt_or_le d l.Until with hd | hd
              · exact .inl ⟨l, by simp, by omega⟩
              · exact .inr (by omega)
          · rintro (⟨s, hs, h2⟩ | h2)
            · rcases List.mem_append.1 hs with hs | hs
              · exact ⟨s, List.mem_append_left _ hs, h2⟩
              · simp at hs; subst hs
                exact ⟨_, List.mem_append_right _ (List.mem_singleton.2 rfl), by simp only; omega⟩
            · exact ⟨_, List.mem_append_right _ (List.mem_singleton.2 rfl), by simp only; omega⟩
        · rcases List.mem_append.1 hs with hs | hs
          · exact .inl (hb s (List.mem_append_left _ hs))
          · simp at hs; subst hs; exact .inr (Int.le_refl _)
      · rename_i hj
        refine ⟨⟨fun s hs => ?_, ?_⟩, fun d => ?_, fun s hs => ?_⟩
        · rcases List.mem_append.1 hs with hs | hs
          · exact he s hs
          · simp at hs; subst hs; exact ⟨h0, hq, h1⟩
        · refine List.pairwise_append.2 ⟨ha, by simp, fun a hma b hmb => ?_⟩
          simp at hmb; subst hmb
          rcases List.mem_append.1 hma with hma | hma
          · have := ha3 a hma l (by simp); omega
          · simp at hma; subst hma; omega
        · simp only [inS, List.mem_append, List.mem_singleton]
          constructor
          · rintro ⟨s, hs | rfl, h2⟩
            · exact .inl ⟨s, hs, h2⟩
            · exact .inr h2
          · rintro (⟨s, hs, h2⟩ | h2)
            · exact ⟨s, .inl hs, h2⟩
            · exact ⟨q, .inr rfl, h2⟩
        · rcases List.mem_append.1 hs with hs | hs
          · exact .inl (hb s hs)
          · simp at hs; subst hs; exact .inr (Int.le_refl _)
    · rename_i hq
      refine ⟨h', fun d => ⟨.inl, fun h => h.elim id fun h => ?_⟩, fun s hs => .inl (hb s hs)⟩
      omega

theorem spansOf_good (m : Dating) : ∀ (L : List Rule) (W : List Span), GoodSpans W → L.Pairwise (fun a b => a.In.Until ≤ b.In.From) → (∀ r ∈ L, formed r = true) → (∀ s ∈ W, ∀ r ∈ L, s.Until ≤ r.In.From) →
    GoodSpans (spansOf m L W) ∧ ∀ d, inS (spansOf m L W) d ↔ inS W d ∨ ∃ r ∈ L, (clSpan m r).From ≤ d ∧ d < (clSpan m r).Until
  | [], W, h, _, _, _ => ⟨h, fun d => by simp [spansOf]⟩
  | r :: L, W, h, hc, hf, hb => by
    have hr := formed_in (hf r (by simp))
    obtain ⟨c1, c2⟩ := List.pairwise_cons.1 hc
    have hu : (clSpan m r).Until ≤ r.In.Until := by unfold clSpan; simp only; omega
    obtain ⟨g1, g2, g3⟩ := addSpan_good (q := clSpan m r) h (fun s hs => hb s hs r (by simp)) hr.1 (by omega)
    obtain ⟨k1, k2⟩ := spansOf_good m L (addSpan W (clSpan m r)) g1 c2 (fun x hx => hf x (by simp [hx])) fun s hs x hx => by
      have hx1 := c1 x hx
      have hfr : (clSpan m r).From = r.In.From := rfl
      rcases g3 s hs with h | h <;> omega
    refine ⟨k1, fun d => ?_⟩
    have e : spansOf m (r :: L) W = spansOf m L (addSpan W (clSpan m r)) := rfl
    rw [e, k2 d, g2 d]
    constructor
    · rintro ((h | h) | ⟨x, hx, h⟩)
      · exact .inl h
      · exact .inr ⟨r, by simp, h⟩
      · exact .inr ⟨x, by simp [hx], h⟩
    · rintro (h | ⟨x, hx, h⟩)
      · exact .inl (.inl h)
      · rcases List.mem_cons.1 hx with rfl | hx
        · exact .inl (.inr h)
        · exact .inr ⟨x, hx, h⟩

theorem refSpans_good {n : Nat} {g : Nat → Rule} (h0 : check n g = 0) (k : Int) (m : Dating) : GoodSpans (refSpans n g k m) ∧ ∀ d, inS (refSpans n g k m) d ↔ ∃ i, i < n ∧ (g i).Class = k ∧ (g i).In.From ≤ d ∧ d < (g i).In.Until ∧ d < lastF (g i) m + 1 := by
  have hp := List.mergeSort_perm (kept (ownP k) g n) fun a b => decide (a.In.From ≤ b.In.From)
  have hs := List.pairwise_mergeSort (le := fun a b : Rule => decide (a.In.From ≤ b.In.From)) (by intro a b c; simp; omega) (by intro a b; simp; omega) (kept (ownP k) g n)
  generalize (kept (ownP k) g n).mergeSort (fun a b => decide (a.In.From ≤ b.In.From)) = L at hp hs
  have hs' : L.Pairwise fun a b => a.In.From ≤ b.In.From := hs.imp fun h => by simpa using h
  rw [← spans_eq h0 m hp hs']
  obtain ⟨k1, k2⟩ := spansOf_good m L [] ⟨by simp, by simp⟩ (sorted_chain h0 hp hs') (fun r hr => kept_all h0 (hp.mem_iff.1 hr)) (by simp)
  refine ⟨k1, fun d => (k2 d).trans ?_⟩
  constructor
  · rintro (⟨s, hs, _⟩ | ⟨r, hr, h1, h2⟩)
    · simp at hs
    · obtain ⟨i, q1, q2, q3⟩ := mem_kept.1 (hp.mem_iff.1 hr)
      refine ⟨i, q1, by rw [q2]; exact q3, ?_⟩
      rw [q2]
      unfold clSpan at h1 h2
      simp only at h1 h2
      omega
  · rintro ⟨i, q1, q2, q3, q4, q5⟩
    refine .inr ⟨g i, hp.mem_iff.2 (mem_kept.2 ⟨i, q1, rfl, q2⟩), ?_⟩
    unfold clSpan
    simp only
    omega

/-! Opens -/
theorem opensF_out : ∀ (W : List Span) (f : Int), ¬ inS W f → opensF W f = f
  | [], f, _ => rfl
  | s :: W, f, h => by
    have h1 : ¬ (s.From ≤ f ∧ f < s.Until) := fun hc => h ⟨s, by simp, hc⟩
    rw [opensF, if_neg h1]
    exact opensF_out W f fun ⟨x, hx, hc⟩ => h ⟨x, by simp [hx], hc⟩

theorem opensF_in : ∀ (W : List Span) (f : Int), GoodSpans W → (opensF W f = f ∧ ¬ inS W f) ∨ ∃ s ∈ W, (s.From ≤ f ∧ f < s.Until) ∧ opensF W f = s.Until
  | [], f, _ => .inl ⟨rfl, fun ⟨s, hs, _⟩ => by simp at hs⟩
  | s :: W, f, h => by
    obtain ⟨a1, a2⟩ := List.pairwise_cons.1 h.apart
    have hW : GoodSpans W := ⟨fun x hx => h.each x (by simp [hx]), a2⟩
    rw [opensF]
    by_cases hc : s.From ≤ f ∧ f < s.Until
    · rw [if_pos hc]
      refine .inr ⟨s, by simp, hc, opensF_out W _ ?_⟩
      rintro ⟨x, hx, h1, h2⟩
      have := a1 x hx
      omega
    · rw [if_neg hc]
      rcases opensF_in W f hW with ⟨h1, h2⟩ | ⟨x, hx, h1, h2⟩
      · refine .inl ⟨h1, ?_⟩
        rintro ⟨x, hx, h3⟩
        rcases List.mem_cons.1 hx with rfl | hx
        · exact hc h3
        · exact h2 ⟨x, hx, h3⟩
      · exact .inr ⟨x, by simp [hx], h1, h2⟩

/-- two spans that hold one day are one -/
theorem good_one {W : List Span} (h : GoodSpans W) {a b : Span} (ha : a ∈ W) (hb : b ∈ W) {d : Int} (h1 : a.From ≤ d ∧ d < a.Until) (h2 : b.From ≤ d ∧ d ≤ b.Until) : a = b := by
  obtain ⟨i, hi, rfl⟩ := List.getElem_of_mem ha
  obtain ⟨j, hj, rfl⟩ := List.getElem_of_mem hb
  have hp := List.pairwise_iff_getElem.1 h.apart
  rcases Nat.lt_trichotomy i j with hij | hij | hij
  · have := hp i j hi hj hij; omega
  · subst hij; rfl
  · have := hp j i hj hi hij; omega

theorem opensF_spec {W : List Span} (h : GoodSpans W) {f : Int} (hf : f ≤ 1048576) : f ≤ opensF W f ∧ opensF W f ≤ 1048576 ∧ ¬ inS W (opensF W f) ∧ ∀ d, f ≤ d → d < opensF W f → inS W d := by
  rcases opensF_in W f h with ⟨h1, h2⟩ | ⟨s, hs, h1, h2⟩
  · rw [h1]; exact ⟨by omega, hf, h2, fun d _ _ => by omega⟩
  · rw [h2]
    have := h.each s hs
    refine ⟨by omega, by omega, ?_, fun d h3 h4 => ⟨s, hs, by omega⟩⟩
    rintro ⟨x, hx, h3⟩
    have := good_one h hx hs h3 ⟨by omega, by omega⟩
    subst this
    omega

end Go.Proofs.Ytplpklikapkloaa
