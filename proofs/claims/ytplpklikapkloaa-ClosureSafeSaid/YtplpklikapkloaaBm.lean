/- Plain law: the spans of the rules of a class in the order of their days are the reference's. -/
import Derived.Test.YtplpklikapkloaaBj
namespace Go.Proofs.Ytplpklikapkloaa
open Go.Abs Go.Arch
set_option linter.unusedVariables false
set_option linter.unusedSimpArgs false

def spansOf (m : Dating) (L : List Rule) (S : List Span) : List Span := L.foldl (fun S r => addSpan S (clSpan m r)) S

theorem mem_kept {n : Nat} {g : Nat → Rule} {k : Int} {r : Rule} : r ∈ kept (ownP k) g n ↔ ∃ i, i < n ∧ g i = r ∧ r.Class = k := by
  unfold kept
  rw [List.mem_filter]
  simp only [lst, List.mem_map, List.mem_range, ownP]
  constructor
  · rintro ⟨⟨i, h1, h2⟩, h3⟩
    exact ⟨i, h1, h2, by simpa using h3⟩
  · rintro ⟨i, h1, h2, h3⟩
    exact ⟨⟨i, h1, h2⟩, by simpa using h3⟩

def apart (a b : Rule) : Prop := a.In.Until ≤ b.In.From ∨ b.In.Until ≤ a.In.From
theorem apart.symm {a b : Rule} (h : apart a b) : apart b a := h.elim .inr .inl

theorem not_clash {n : Nat} {g : Nat → Rule} (h0 : check n g = 0) {i j : Nat} (hij : i < j) (hj : j < n) (hc : (g i).Class = (g j).Class) : apart (g i) (g j) := by
  have h := ((check_zero h0).2 j hj).2.2
  have hm : g i ∈ lst j g := by
    simp only [lst, List.mem_map, List.mem_range]
    exact ⟨i, hij, rfl⟩
  have := List.any_eq_false.1 h _ hm
  unfold clash at this
  unfold apart
  simp [hc] at this
  omega

theorem kept_apart {n : Nat} {g : Nat → Rule} (h0 : check n g = 0) (k : Int) : (kept (ownP k) g n).Pairwise apart := by
  have key : ∀ q, q ≤ n → (kept (ownP k) g q).Pairwise apart := by
    intro q
    induction q with
    | zero => intro _; simp [kept, lst]
    | succ q ih =>
      intro hq
      rw [kept_succ]
      split
      · exact ih (by omega)
      · rename_i hc
        refine List.pairwise_append.2 ⟨ih (by omega), by simp, fun a ha b hb => ?_⟩
        simp at hb
        subst hb
        obtain ⟨i, h1, h2, h3⟩ := mem_kept.1 ha
        have hk : (g q).Class = k := by simpa [ownP] using hc
        rw [← h2]
        exact not_clash h0 h1 (by omega) (by rw [h2, h3, hk])
  exact key n (Nat.le_refl _)

theorem kept_all {n : Nat} {g : Nat → Rule} (h0 : check n g = 0) {k : Int} {r : Rule} (h : r ∈ kept (ownP k) g n) : formed r = true := by
  obtain ⟨i, h1, h2, _⟩ := mem_kept.1 h
  rw [← h2]; exact ((check_zero h0).2 i h1).1

/-- sorted, formed and apart: one behind the other -/
theorem sorted_chain {n : Nat} {g : Nat → Rule} (h0 : check n g = 0) {k : Int} {L : List Rule} (hp : L.Perm (kept (ownP k) g n)) (hs : L.Pairwise fun a b => a.In.From ≤ b.In.From) : L.Pairwise fun a b => a.In.Until ≤ b.In.From := by
  have ha : L.Pairwise apart := (hp.pairwise_iff fun {a b} h => apart.symm h).2 (kept_apart h0 k)
  have hf : ∀ r ∈ L, formed r = true := fun r hr => kept_all h0 (hp.mem_iff.1 hr)
  refine List.Pairwise.imp_of_mem ?_ (hs.and ha)
  rintro a b hma hmb ⟨h1, h2⟩
  have fa := formed_in (hf a hma)
  have fb := formed_in (hf b hmb)
  rcases h2 with h2 | h2 <;> omega

theorem nextF_min (g : Nat → Rule) (k f : Int) : ∀ n, ((nextF g k f n).2 = false → ∀ i, i < n → (g i).Class = k → (g i).In.From < f) ∧ ((nextF g k f n).2 = true → ∀ i, i < n → (g i).Class = k → f ≤ (g i).In.From → (nextF g k f n).1.In.From ≤ (g i).In.From)
  | 0 => ⟨fun _ i hi => by omega, fun _ i hi => by omega⟩
  | n + 1 => by
    obtain ⟨ih1, ih2⟩ := nextF_min g k f n
    rw [nextF]
    split
    · rename_i hc
      unfold nextC at hc
      simp at hc
      refine ⟨by simp, fun _ i hi hk hf => ?_⟩
      by_cases he : i = n
      · subst he; exact Int.le_refl _
      · rcases hc.2 with h | h
        · have := ih1 h i (by omega) hk; omega
        · cases h2 : (nextF g k f n).2 with
          | false => have := ih1 h2 i (by omega) hk; omega
          | true =>
            have := ih2 h2 i (by omega) hk hf
            simp only
            omega
    · rename_i hc
      unfold nextC at hc
      simp at hc
      refine ⟨fun h i hi hk => ?_, fun h i hi hk hf => ?_⟩
      · by_cases he : i = n
        · subst he
          rcases Int.lt_or_le (g i).In.From f with hlt | hle
          · exact hlt
          · have := hc hk hle; rw [h] at this; simp at this
        · exact ih1 h i (by omega) hk
      · by_cases he : i = n
        · subst he; exact (hc hk hf).2
        · exact ih2 h i (by omega) hk hf

theorem refLoop_list {n : Nat} {g : Nat → Rule} (h0 : check n g = 0) {k : Int} (m : Dating) {L : List Rule} (hm : ∀ r, r ∈ L ↔ ∃ i, i < n ∧ g i = r ∧ r.Class = k) (hc : L.Pairwise fun a b => a.In.Until ≤ b.In.From) (hf : ∀ r ∈ L, formed r = true) :
    ∀ (Q pre : List Rule) (f : Int) (S : List Span) (q : Nat), L = pre ++ Q → (∀ a ∈ pre, a.In.From < f) → (∀ b ∈ Q, f ≤ b.In.From) → Q.length ≤ q → refLoop n g k m q (nextF g k f n) S = spansOf m Q S
  | [], pre, f, S, q, hL, hpre, _, _ => by
    have h2 : (nextF g k f n).2 = false := by
      cases h : (nextF g k f n).2 with
      | false => rfl
      | true =>
        obtain ⟨i, h1, h2, h3, h4⟩ := nextF_spec g k f n h
        have : g i ∈ pre := by
          have := (hm (g i)).2 ⟨i, h1, rfl, h3⟩
          rw [hL] at this; simpa using this
        have := hpre _ this
        omega
    cases q <;> simp [refLoop, h2, spansOf]
  | r :: Q, pre, f, S, q, hL, hpre, hQ, hq => by
    obtain ⟨q, rfl⟩ : ∃ q', q = q' + 1 := ⟨q - 1, by simp at hq; omega⟩
    have hr : r ∈ L := by rw [hL]; simp
    obtain ⟨ir, hr1, hr2, hr3⟩ := (hm r).1 hr
    have hfr := hQ r (by simp)
    have hrf := formed_in (hf r hr)
    have hpw := hc
    rw [hL] at hpw
    obtain ⟨hpp, hrq, hpr⟩ := List.pairwise_append.1 hpw
    have hrq' := List.pairwise_cons.1 hrq
    have hN : nextF g k f n = (r, true) := by
      cases h : (nextF g k f n).2 with
      | false =>
        have := (nextF_min g k f n).1 h ir hr1 (by rw [hr2]; exact hr3)
        rw [hr2] at this; omega
      | true =>
        obtain ⟨i, h1, h2, h3, h4⟩ := nextF_spec g k f n h
        have hmin := (nextF_min g k f n).2 h ir hr1 (by rw [hr2]; exact hr3) (by rw [hr2]; exact hfr)
        rw [hr2] at hmin
        have hin : g i ∈ pre ++ r :: Q := by
          rw [← hL]; exact (hm (g i)).2 ⟨i, h1, rfl, h3⟩
        have he : g i = r := by
          rcases List.mem_append.1 hin with hin | hin
          · have := hpre _ hin; omega
          · rcases List.mem_cons.1 hin with hin | hin
            · exact hin
            · have := hrq'.1 _ hin
              rw [h2] at hmin
              omega
        exact Prod.ext (by rw [h2, he]) h
    rw [refLoop, hN]
    simp only [if_true]
    have := refLoop_list h0 m hm hc hf Q (pre ++ [r]) r.In.Until (addSpan S (clSpan m r)) q (by rw [hL]; simp) (fun a ha => ?_) (fun b hb => hrq'.1 b hb) (by simp at hq; omega)
    · rw [this]; rfl
    · rcases List.mem_append.1 ha with ha | ha
      · have h1 := hpr a ha r (by simp)
        have h2 := formed_in (hf a (by rw [hL]; exact List.mem_append_left _ ha))
        omega
      · simp at ha; subst ha; omega

theorem spans_eq {n : Nat} {g : Nat → Rule} (h0 : check n g = 0) {k : Int} (m : Dating) {L : List Rule} (hp : L.Perm (kept (ownP k) g n)) (hs : L.Pairwise fun a b => a.In.From ≤ b.In.From) : spansOf m L [] = refSpans n g k m := by
  have hf : ∀ r ∈ L, formed r = true := fun r hr => kept_all h0 (hp.mem_iff.1 hr)
  have hl : L.length ≤ n := by rw [hp.length_eq]; exact kept_len _ _ _
  have hn := (check_zero h0).1
  unfold refSpans
  exact (refLoop_list h0 m (fun r => hp.mem_iff.trans mem_kept) (sorted_chain h0 hp hs) hf L [] 0 [] 1048577 rfl (by simp) (fun b hb => (formed_in (hf b hb)).1) (by omega)).symm

end Go.Proofs.Ytplpklikapkloaa
