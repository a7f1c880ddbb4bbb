/- Contracts and lemmas (Cw, Oc, Cy, Azv, Da, Db, Dd), joined out of smaller texts by a program; no conditions. -/
import Derived.Test.YtnbokgmimbeihaaGreatDoorKB5
import Derived.Test.YtnbokgmimbeihaaGreatDoorKB3
import Derived.Test.YtnbokgmimbeihaaGreatDoorKB2
/-! Cw -/
namespace Go.Proofs.YtnbokgmimbeihaaGreatDoor
open Go.Abs Go.Arch
set_option linter.unusedVariables false
set_option maxRecDepth 100000
set_option linter.unusedSimpArgs false

theorem count_range (q0 : Nat) : ∀ k, (List.range k).countP (fun q => q == q0) = if q0 < k then 1 else 0
  | 0 => by simp
  | k + 1 => by
    rw [List.range_succ, List.countP_append, count_range q0 k]
    by_cases h : k = q0
    · subst h; simp
    · have h2 : (k == q0) = false := by simpa using h
      simp only [List.countP_cons, List.countP_nil, h2]
      by_cases h3 : q0 < k
      · simp [h3, show q0 < k + 1 by omega]
      · simp [h3, show ¬ q0 < k + 1 by omega]
theorem count_add (p : Nat → Bool) (q0 : Nat) (hp : p q0 = false) : ∀ k, (List.range k).countP (fun q => p q || q == q0) = (List.range k).countP p + if q0 < k then 1 else 0
  | 0 => by simp
  | k + 1 => by
    rw [List.range_succ, List.countP_append, List.countP_append, count_add p q0 hp k]
    simp only [List.countP_cons, List.countP_nil]
    by_cases h : k = q0
    · subst h; simp [hp]
    · have h2 : (k == q0) = false := by simpa using h
      simp only [h2, Bool.or_false]
      by_cases h3 : q0 < k
      · simp [h3, show q0 < k + 1 by omega]; omega
      · simp [h3, show ¬ q0 < k + 1 by omega]

theorem count_listed {f : Nat → Lis} : ∀ {n : Nat}, AscL n f → (∀ i, i < n → 1 ≤ (f i).Number ∧ (f i).Number ≤ 9999) → (List.range 9999).countP (fun q : Nat => (findL n f ((q : Int) + 1)).2) = n
  | 0, _, _ => by simp [findL_zero]
  | n + 1, h, hr => by
    have hn := hr n (by omega)
    have ih := count_listed (n := n) (fun i h1 h2 => h i h1 (by omega)) (fun i hi => hr i (by omega))
    have he : (fun q : Nat => (findL (n + 1) f ((q : Int) + 1)).2) = fun q : Nat => (findL n f ((q : Int) + 1)).2 || q == (f n).Number.toNat - 1 := by
      funext q
      rw [findL_succ]
      by_cases h1 : (findL n f ((q : Int) + 1)).2 = true
      · rw [if_pos h1, h1]; rfl
      · rw [if_neg h1]
        have h2 : (findL n f ((q : Int) + 1)).2 = false := by simpa using h1
        rw [h2, Bool.false_or]
        by_cases h3 : (f n).Number = (q : Int) + 1
        · rw [if_pos h3]; simp; omega
        · rw [if_neg h3]; simp; omega
    rw [he, count_add _ _ (by
      rw [show (((f n).Number.toNat - 1 : Nat) : Int) + 1 = (f n).Number by omega]
      exact findL_at h (by omega)), ih, if_pos (by omega)]
theorem count_got {r : Nat → Rec} : ∀ {n : Nat}, OrdR n r → (List.range 9999).countP (fun q : Nat => (gotR n r ((q : Int) + 1)).2) = n
  | 0, _ => by simp [gotR_zero]
  | n + 1, h => by
    have hn := (recE_zero (r n)).1 (h n (by omega)).1
    have ih := count_got (n := n) (r := r) (fun i hi => h i (by omega))
    have he : (fun q : Nat => (gotR (n + 1) r ((q : Int) + 1)).2) = fun q : Nat => (gotR n r ((q : Int) + 1)).2 || q == (r n).Number.toNat - 1 := by
      funext q
      rw [gotR_succ]
      by_cases h1 : (gotR n r ((q : Int) + 1)).2 = true
      · rw [if_pos h1, h1]; rfl
      · rw [if_neg h1]
        have h2 : (gotR n r ((q : Int) + 1)).2 = false := by simpa using h1
        rw [h2, Bool.false_or]
        by_cases h3 : (r n).Number = (q : Int) + 1
        · rw [if_pos h3]; simp; omega
        · rw [if_neg h3]; simp; omega
    rw [he, count_add _ _ (by
      rw [show (((r n).Number.toNat - 1 : Nat) : Int) + 1 = (r n).Number by omega]
      exact gotR_at h (by omega)), ih, if_pos (by omega)]

theorem count_one (n : Nat) (f : Nat → Lis) (m : Nat) (g : Nat → Rec) (u : Int) : (difU n f m g u).countP (·.Kind == 1) = (if ((findL n f u).2 && !(gotR m g u).2) = true then 1 else 0) ∧ (difU n f m g u).countP (·.Kind == 2) = (if (!(findL n f u).2 && (gotR m g u).2) = true then 1 else 0) := by
  unfold difU
  cases hg : (gotR m g u).2 <;> cases hf : (findL n f u).2
  · simp
  · simp
  · simp
  · have e1 : ∀ (b : Prop) [Decidable b] (x : Dif) (c : Int), x.Kind ≠ c → (if b then [x] else []).countP (·.Kind == c) = 0 := fun b _ x c hx => by
      by_cases hb : b <;> simp [hb, hx]
    simp only [Bool.true_eq_false, if_false, List.countP_append]
    rw [e1 _ _ 1 (by simp), e1 _ _ 1 (by simp), e1 _ _ 2 (by simp), e1 _ _ 2 (by simp)]
    simp
theorem count_dif (n : Nat) (f : Nat → Lis) (m : Nat) (g : Nat → Rec) : ∀ k,
    (gather (fun q => difU n f m g ((q : Int) + 1)) k).countP (·.Kind == 1) + (List.range k).countP (fun q : Nat => (findL n f ((q : Int) + 1)).2 && (gotR m g ((q : Int) + 1)).2) = (List.range k).countP (fun q : Nat => (findL n f ((q : Int) + 1)).2) ∧
    (gather (fun q => difU n f m g ((q : Int) + 1)) k).countP (·.Kind == 2) + (List.range k).countP (fun q : Nat => (findL n f ((q : Int) + 1)).2 && (gotR m g ((q : Int) + 1)).2) = (List.range k).countP (fun q : Nat => (gotR m g ((q : Int) + 1)).2)
  | 0 => by simp [gather]
  | k + 1 => by
    obtain ⟨h1, h2⟩ := count_dif n f m g k
    obtain ⟨h3, h4⟩ := count_one n f m g ((k : Int) + 1)
    rw [gather, List.range_succ]
    simp only [List.countP_append, List.countP_cons, List.countP_nil, h3, h4]
    cases hg : (gotR m g ((k : Int) + 1)).2 <;> cases hf : (findL n f ((k : Int) + 1)).2 <;> simp <;> omega
def cntK (k : Int) (L : List Dif) : Nat := L.countP (·.Kind == k)
/-- missing ones and extra ones, counted -/
theorem counts {t : TL} {m : Nat} {g : Nat → Rec} (ht : (tlChk t).2 = 0) (hg : OrdR m g) : (t.n : Int) - cntK 1 (allD t.n t.g m g) = m - cntK 2 (allD t.n t.g m g) := by
  obtain ⟨h1, h2⟩ := count_dif t.n t.g m g 9999
  rw [count_listed (tl_asc ht) (tl_num ht)] at h1
  rw [count_got hg] at h2
  unfold cntK allD
  omega
theorem cntK_succ (k : Int) (L : List Dif) {i : Nat} : cntK k (lst (i + 1) (nth L)) = cntK k (lst i (nth L)) + if (nth L i).Kind = k then 1 else 0 := by
  unfold cntK; rw [lst_succ, List.countP_append]; simp
theorem cntK_le (k : Int) (i : Nat) (L : List Dif) : cntK k (lst i (nth L)) ≤ i := by
  have : cntK k (lst i (nth L)) ≤ (lst i (nth L)).length := List.countP_le_length
  rwa [lst_length] at this
end Go.Proofs.YtnbokgmimbeihaaGreatDoor

/-! Oc -/
namespace Go.Abs
set_option linter.unusedVariables false
set_option linter.unusedSimpArgs false

/-- a nil slice in a cell of a variable becomes one that may grow -/
theorem awp_thawC {P : Program} {c : Code} {Q : Exit → St → Prop} {N : Nat} {t : List (Nat × AV)} {σ σ' : List Blk} {mv : List Nat} (v k sz : Nat) (row : Nat → List D) {cs cs' : List AV} (hv : σ[v]? = some (.var cs)) (hk : cs[k]? = some (.d (.v (.slice none 0 0)))) (hc : cs.set k (.ms σ.length sz 0 0) = cs') (hσ : σ.set v (.var cs') ++ [.arr sz 0 row] = σ')
    (h : AWP P c Q ⟨N, t, σ', mv⟩) : AWP P c Q ⟨N, t, σ, mv⟩ := by
  refine awp_sub (s' := ⟨N, t, σ', mv⟩) ?_ h
  intro j0 j a w hr
  subst hσ
  subst hc
  obtain ⟨h1, h2, h3⟩ := hr.sto.unmade (sz := sz) (rows := row) (p := none)
  have hvl : v < σ.length := (List.getElem?_eq_some_iff.1 hv).1
  have hkl : k < cs.length := (List.getElem?_eq_some_iff.1 hk).1
  refine ⟨j ++ [none], ⟨hr.defers.mono h3, hr.rdok, hr.size, fun q av hq => ⟨(hr.tmp q av hq).1, (hr.tmp q av hq).2.mono0 h3 hr.sto.lt (ag_append _ _)⟩, ⟨by simp [hr.sto.len], h1.lt, h1.inj, fun b x hx => ?_⟩, by have := hr.len0; simp; omega, fun c hc hn => ?_⟩, h3⟩
  · rw [← List.set_append_left _ _ hvl, List.getElem?_set] at hx
    split at hx
    · rename_i e
      subst e
      split at hx
      · simp only [Option.some.injEq] at hx
        subst hx
        obtain ⟨o, ho, hB⟩ := h1.blk v (.var cs) (by rw [List.getElem?_append_left hvl]; exact hv)
        refine ⟨o, ho, ?_⟩
        cases o with
        | none => exact hB
        | some cb =>
          obtain ⟨C, e, g1, g2, g3⟩ := hB
          refine ⟨C, e, g1, by simpa using g2, fun q hq => ?_⟩
          have hq' : q < cs.length := by simpa using hq
          have h0 := g3 q hq'
          by_cases hqk : q = k
          · subst hqk
            have e1 : cs.getD q .undef = .d (.v (.slice none 0 0)) := by rw [List.getD_eq_getElem?_getD, hk]; rfl
            rw [e1] at h0
            have h0 := R_v h0
            rw [h0]
            have e2 : (cs.set q (.ms σ.length sz 0 0)).getD q .undef = .ms σ.length sz 0 0 := by simp [List.getD_eq_getElem?_getD, hkl]
            rw [e2]; exact h2
          · have e2 : (cs.set k (.ms σ.length sz 0 0)).getD q .undef = cs.getD q .undef := by simp [List.getD_eq_getElem?_getD, List.getElem?_set, Ne.symm hqk]
            rw [e2]; exact h0
      · simp at hx
    · exact h1.blk b x hx
  · have := hr.len0
    rw [List.getElem?_append_left (by omega)]; exact hr.ag c hc hn

end Go.Abs

/-! Cy -/
namespace Go.Proofs.YtnbokgmimbeihaaGreatDoor
open Go.Abs Go.Arch
set_option linter.unusedVariables false
set_option maxRecDepth 100000
set_option linter.unusedSimpArgs false

def recOf (x : Lis) : Rec := ⟨x.Number, x.Pages, x.Digest⟩
def arc (t : TL) (id day : Int) : Acs := ⟨id, t.ID, day, t.n, fun i => recOf (t.g i), 0, fun _ => default⟩
theorem lis_rec {t : TL} (h : (tlChk t).2 = 0) {i : Nat} (hi : i < t.n) : recE (recOf (t.g i)) = 0 := by
  have h1 := (tlChk_ok h).2.2 i hi
  have h2 := (rangeB_iff _).1 (lisE_zero h1).1
  have h3 : (t.g i).Digest.size = 32 := by
    unfold lisE at h1
    split at h1
    · rename_i h0; exact absurd h1 h0
    · rename_i h0
      simp only [ne_eq, Decidable.not_not] at h0
      unfold lisE0 at h0
      split at h0
      · simp at h0
      · split at h0
        · simp at h0
        · split at h0
          · simp at h0
          · rename_i h4; simpa using h4
  have h5 := inB_iff.1 h2.1
  have h6 := inB_iff.1 h2.2.2.1
  exact (recE_zero _).2 ⟨h5.1, h5.2, h6.1, h6.2, h3⟩
theorem arc_ord {t : TL} (h : (tlChk t).2 = 0) : OrdR t.n (fun i => recOf (t.g i)) := fun i hi => ⟨lis_rec h hi, fun hp => tl_asc h i hp hi⟩
theorem arc_ordR {t : TL} (h : (tlChk t).2 = 0) : ordR t.n (fun i => recOf (t.g i)) = true := (ordR_iff _ _).2 ⟨(tlChk_ok h).1, arc_ord h⟩
theorem got_find (g : Nat → Lis) (u : Int) : ∀ n, gotR n (fun i => recOf (g i)) u = if (findL n g u).2 = true then (recOf (findL n g u).1, true) else (Rec.zero, false)
  | 0 => by rw [gotR_zero, findL_zero]; rfl
  | n + 1 => by
    rw [gotR_succ, findL_succ, got_find g u n]
    by_cases h : (findL n g u).2 = true
    · rw [if_pos h, if_pos h, if_pos rfl, if_pos h]
    · rw [if_neg h, if_neg h, if_neg (by simp)]
      by_cases h2 : (g n).Number = u
      · rw [if_pos h2, if_pos (show (recOf (g n)).Number = u from h2), if_pos rfl]
      · rw [if_neg h2, if_neg (show ¬ (recOf (g n)).Number = u from h2), if_neg (by simp)]
theorem arc_dif (n : Nat) (g : Nat → Lis) (u : Int) : difU n g n (fun i => recOf (g i)) u = [] := by
  unfold difU
  rw [got_find]
  by_cases h : (findL n g u).2 = true
  · rw [if_pos h]; simp [h, recOf]
  · rw [if_neg h]
    have h2 : (findL n g u).2 = false := by simpa using h
    simp [h2]
theorem arc_all (n : Nat) (g : Nat → Lis) : allD n g n (fun i => recOf (g i)) = [] := by
  apply List.eq_nil_iff_forall_not_mem.2
  intro d hd
  rw [mem_allD, arc_dif] at hd
  simp at hd
theorem arc_cmp {t : TL} (h : (tlChk t).2 = 0) : cmpP t t.n (fun i => recOf (t.g i)) = ([], 0) := by
  unfold cmpP; rw [if_pos ⟨h, arc_ordR h⟩, arc_all]
theorem arc_opn (t : TL) (id day : Int) : opnL t (arc t id day) = [] := by
  have h : allT t (arc t id day) = [] := arc_all t.n t.g
  unfold opnL; rw [h]; rfl
theorem arc_num {t : TL} {id day : Int} (h : chkA t (arc t id day) = 0) : numP t (arc t id day) = (lst t.n (fun i => (t.g i).Number), 0) := by
  unfold numP; rw [if_pos h]
  unfold numL; rw [arc_opn, if_pos (show ([] : List Dif).length = 0 from rfl)]; rfl
theorem arc_no {t : TL} {id day : Int} (h : ¬ chkA t (arc t id day) = 0) : numP t (arc t id day) = ([], chkA t (arc t id day)) := by
  unfold numP; rw [if_neg h]
theorem arc_chk {t : TL} {id day : Int} (ht : (tlChk t).2 = 0) (h : ¬ chkA t (arc t id day) = 0) : id < 1 ∨ 1073741824 < id ∨ day < t.Day ∨ 1048575 < day := by
  apply Classical.byContradiction
  intro hn
  apply h
  have hd : 0 ≤ t.Day := by
    have := (tlChk_ok ht).2.1
    unfold tlHead at this
    simp only [Bool.and_eq_true, inB_iff] at this
    omega
  refine chkA_zero.2 ⟨?_, rfl⟩
  unfold chkH
  rw [if_neg (by simp [ht]), if_neg (by
    have h1 : inB (arc t id day).ID 1 1073741824 = true := inB_iff.2 ⟨by show 1 ≤ id; omega, by show id ≤ 1073741824; omega⟩
    have h2 : inB (arc t id day).Day 0 1048575 = true := inB_iff.2 ⟨by show 0 ≤ day; omega, by show day ≤ 1048575; omega⟩
    simp [h1, h2]), if_neg (by simp [arc]), if_neg (by show ¬ day < t.Day; omega), if_neg (by
    have := arc_ordR ht
    show ¬ ordR t.n (fun i => recOf (t.g i)) = false
    simp [this]), if_neg (by simp [arc])]
end Go.Proofs.YtnbokgmimbeihaaGreatDoor

/-! Azv -/
namespace Go.Abs
open Go
set_option linter.unusedVariables false
set_option linter.unusedSimpArgs false

/-- the block of a call's own comes to stand alone -/
theorem CS.own_tup {P : Program} {f : FuncId} {args : List AV} {σ : List Blk} {sz n : Nat} {row : Nat → List D} {x : D} (h : CS P f args σ fun r σ' X => ∃ b τ, r = .tup [.ms b sz 0 n, .d x] ∧ σ' = σ ++ τ ∧ (σ ++ τ)[b]? = some (.arr sz n row) ∧ σ.length ≤ b ∧ ∀ y ∈ X, σ.length ≤ y) :
    CS P f args σ fun r σ' X => r = .tup [.ms σ.length sz 0 n, .d x] ∧ σ' = σ ++ [.arr sz n row] ∧ X = [] := by
  refine ⟨h.1, fun j w vs hS hr => (h.2 j w vs hS hr).mono fun e w' => ?_⟩
  rintro ⟨v, r, σ', j', X, he, h1, h2, h3, h4, h5, b, τ, rfl, rfl, hb, hle, hX⟩
  have hlen : j.length = σ.length := hS.len
  have h5' : Ag j j' [] := fun q hq hn => h5 q hq fun hm => by have := hX q hm; omega
  obtain ⟨o, ho, hB⟩ := h1.blk b _ hb
  have hl2 : (j'.take j.length).length = j.length := by simp; omega
  have hs : ∀ p, p ∈ j'.take j.length ++ [o] → p ∈ j' := fun p hp => by
    rcases List.mem_append.1 hp with hp | hp
    · exact List.mem_of_mem_take hp
    · simp only [List.mem_singleton] at hp; subst hp; exact List.mem_of_getElem? ho
  have hlo : ∀ q : Nat, q < j.length → (j'.take j.length ++ [o])[q]? = j'[q]? := fun q hq => by
    rw [List.getElem?_append_left (by omega), List.getElem?_take, if_pos hq]
  have hat : (j'.take j.length ++ [o])[σ.length]? = some o := by
    rw [List.getElem?_append_right (by omega), hl2, hlen, Nat.sub_self]; rfl
  have hcase : ∀ {q : Nat} {p}, (j'.take j.length ++ [o])[q]? = some p → (q < j.length ∧ j'[q]? = some p) ∨ (q = σ.length ∧ p = o) := fun {q p} hq => by
    rcases Nat.lt_or_ge q j.length with h | h
    · rw [hlo q h] at hq; exact .inl ⟨h, hq⟩
    · have hlt : q < (j'.take j.length ++ [o]).length := (List.getElem?_eq_some_iff.1 hq).1
      simp only [List.length_append, hl2, List.length_singleton] at hlt
      obtain rfl : q = σ.length := by omega
      rw [hat] at hq
      exact .inr ⟨rfl, (Option.some.inj hq).symm⟩
  refine ⟨v, _, _, j'.take j.length ++ [o], [], he, ⟨by rw [List.length_append, List.length_append, hl2, hlen]; rfl, fun q cb hq => ?_, fun q q' cb hq hq' => ?_, fun q y hy => ?_⟩, ?_, ⟨h3.size, h3.keep, fun b hb hm => h3.sub b hb (hs _ hm), h3.shp, h3.frz, h3.os, h3.tape, h3.output, h3.lps⟩, by rw [List.length_append, hl2]; omega, fun q hq hn => by rw [hlo q hq]; exact h5' q hq hn, rfl, rfl, rfl⟩
  · rcases hcase hq with ⟨_, h⟩ | ⟨_, h⟩
    · exact h1.lt q cb h
    · exact h1.lt b cb (by rw [ho, ← h])
  · rcases hcase hq with ⟨a1, a2⟩ | ⟨a1, a2⟩ <;> rcases hcase hq' with ⟨b1, b2⟩ | ⟨b1, b2⟩
    · exact h1.inj q q' cb a2 b2
    · have := h1.inj q b cb a2 (by rw [ho, ← b2]); omega
    · have := h1.inj b q' cb (by rw [ho, ← a2]) b2; omega
    · omega
  · rcases Nat.lt_or_ge q σ.length with hq | hq
    · rw [List.getElem?_append_left hq] at hy
      obtain ⟨o0, ho0, hB0⟩ := hS.blk q y hy
      obtain ⟨o1, ho1, hB1⟩ := h1.blk q y (by rw [List.getElem?_append_left hq]; exact hy)
      exact ⟨o1, by rw [hlo q (by omega)]; exact ho1, hB0.shrink hs (fun p hp => (hlo p hp).symm) hB1⟩
    · have hlt : q < (σ ++ [Blk.arr sz n row]).length := (List.getElem?_eq_some_iff.1 hy).1
      simp at hlt
      obtain rfl : q = σ.length := by omega
      rw [List.getElem?_append_right (Nat.le_refl _)] at hy
      simp at hy
      subst hy
      refine ⟨o, hat, ?_⟩
      cases o with
      | none => exact hB
      | some cb =>
        obtain ⟨C, e, g1, g2, g3⟩ := hB
        exact ⟨C, e, g1, g2, fun i hi => ⟨(g3 i hi).1, fun k hk => ((g3 i hi).2 k hk).less hs⟩⟩
  · cases h2 with
    | tup vs hs' hv =>
      refine .tup vs hs' fun k hk => ?_
      have := hv k (by simpa using hk)
      rcases k with _ | _ | k
      · have h0 : R w' j' (.ms b sz 0 n) (vs.getD 0 Go.undef) := by simpa using this
        show R w' _ (.ms σ.length sz 0 n) (vs.getD 0 Go.undef)
        generalize vs.getD 0 Go.undef = u at h0
        cases h0 with
        | ms c e m k1 k2 k3 k4 => exact .ms c e m (by rw [hat, ← ho, k1]) k2 k3 k4
        | ms0 p k1 => exact .ms0 p (by rw [hat, ← ho, k1])
        | msE p e m k1 k2 k3 k4 => omega
      · have h0 : R w' j' (.d x) (vs.getD 1 Go.undef) := by simpa using this
        show R w' _ (.d x) (vs.getD 1 Go.undef)
        cases h0 with
        | d h0 => exact .d (h0.less hs)
      · have : k + 1 + 1 < 2 := hk; omega

/-- data alone -/
def plainA : AV → Bool
  | .d _ => true
  | .agg cs => cs.all fun c => match c with
    | .d _ => true
    | _ => false
  | _ => false
theorem R.plain {w : World} {j : Js} {av : AV} {v : Value} (h : R w j av v) (hp : plainA av = true) : R w [] av v := by
  cases h with
  | d h => exact .d (h.less (by simp))
  | agg vs hs h =>
    refine .agg vs hs fun k hk => ?_
    have h1 := h k hk
    simp only [plainA, List.all_eq_true] at hp
    have h2 := hp _ (List.getElem_mem hk)
    have e : ∀ cs : List AV, ∀ hk : k < cs.length, cs.getD k .undef = cs[k] := fun cs hk => by simp [List.getD_eq_getElem?_getD, hk]
    rw [e _ hk] at h1 ⊢
    split at h2
    · rename_i y hy
      rw [hy] at h1 ⊢
      cases h1 with | d h1 => exact .d (h1.less (by simp))
    · cases h2
  | _ => simp [plainA] at hp

/-- what computes on data, whatever the store, computes beside any store, with slices of own blocks in place of data -/
theorem CSF.view {P : Program} {f : FuncId} {args args' : List AV} {σ : List Blk} {x : Value} (h : CSF P f args [] (.d (.v x))) (ha : ∀ j w vs, RelS w j σ → Rs w j args' vs → Rs w [] args vs) : CSF P f args' σ (.d (.v x)) := by
  refine ⟨h.1, fun j w vs hS hr => (h.2 [] w vs ⟨rfl, by simp, by simp, by simp⟩ (ha j w vs hS hr)).mono fun e w' => ?_⟩
  rintro ⟨v, r, σ', j', X, he, h1, h2, h3, h4, h5, rfl, rfl, rfl⟩
  obtain rfl : j' = [] := List.length_eq_zero_iff.1 h1.len
  have hev : Ev j w j w' := ⟨h3.size, fun b hb _ => h3.keep b hb (by simp), fun _ _ h => h, h3.shp, h3.frz, h3.os, h3.tape, h3.output, h3.lps⟩
  refine ⟨v, _, σ, j, [], he, ⟨hS.len, fun b cb hb => Nat.lt_of_lt_of_le (hS.lt b cb hb) h3.size, hS.inj, fun b y hy => ?_⟩, R_v h2 ▸ .d (.v _), hev, Nat.le_refl _, .refl _ _, rfl, rfl, rfl⟩
  obtain ⟨o, ho, hB⟩ := hS.blk b y hy
  exact ⟨o, ho, hB.mono hev hS.lt (.refl _ _) fun cb hcb => h3.keep cb (hS.lt b cb (by rw [ho, hcb])) (by simp)⟩
theorem view_ms {w : World} {j : Js} {σ : List Blk} (hS : RelS w j σ) {b sz n : Nat} {row : Nat → List D} (hb : σ[b]? = some (.arr sz n row)) {v : Value} (h : R w j (.ms b sz 0 n) v) : R w [] (.d (.sl none sz n row)) v := by
  have hf := h.frzT hS hb
  have : R w (j.set b none) (.d (.sl none sz n row)) v := by simpa [frzT, AV.avoids, frzA] using hf
  exact this.plain rfl
theorem CSF.view1 {P : Program} {f : FuncId} {y : AV} {σ : List Blk} {x : Value} {b sz n : Nat} {row : Nat → List D} (h : CSF P f [.d (.sl none sz n row), y] [] (.d (.v x))) (hy : plainA y = true) (hb : σ[b]? = some (.arr sz n row)) : CSF P f [.ms b sz 0 n, y] σ (.d (.v x)) :=
  h.view fun j w vs hS hr => ⟨hr.1, fun k hk => by
    have := hr.2 k (by simpa using hk)
    rcases k with _ | _ | k
    · exact view_ms hS hb (by simpa using this)
    · exact R.plain (by simpa using this) hy
    · have : k + 1 + 1 < 2 := hk; omega⟩
theorem CSF.view2 {P : Program} {f : FuncId} {σ : List Blk} {x : Value} {b b' sz n n' : Nat} {row row' : Nat → List D} (h : CSF P f [.d (.sl none sz n row), .d (.sl none sz n' row')] [] (.d (.v x))) (hb : σ[b]? = some (.arr sz n row)) (hb' : σ[b']? = some (.arr sz n' row')) : CSF P f [.ms b sz 0 n, .ms b' sz 0 n'] σ (.d (.v x)) :=
  h.view fun j w vs hS hr => ⟨hr.1, fun k hk => by
    have := hr.2 k (by simpa using hk)
    rcases k with _ | _ | k
    · exact view_ms hS hb (by simpa using this)
    · exact view_ms hS hb' (by simpa using this)
    · have : k + 1 + 1 < 2 := hk; omega⟩

theorem CSm.act {P : Program} {f : FuncId} {args : List AV} {s : St} {dst : Option Tmp} {K : St → Prop} (h : CSk P f args s dst K) : CSm P true f args s dst K := .inr ⟨.undef, fun _ => h, fun h => by cases h⟩
end Go.Abs

/-! Da -/
namespace Go.Proofs.YtnbokgmimbeihaaGreatDoor
open Go.Abs Go.Arch
set_option linter.unusedVariables false
set_option linter.unusedSimpArgs false
set_option maxRecDepth 100000
set_option maxHeartbeats 1000000

theorem kept_filter (p : Dif → Bool) (L : List Dif) : kept p (nth L) L.length = L.filter fun d => !p d := by unfold kept; rw [lst_nth]
theorem local_keep {n : Nat} {f : Nat → Lis} {m : Nat} {r : Nat → Rec} (h : OrdR m r) {x : Rec} (hx : recE x = 0) (hno : (gotR m r x.Number).2 = false) :
    kept (fun d => d.Number == x.Number) (nth (allD n f m r)) (allD n f m r).length = kept (fun d => d.Number == x.Number) (nth (allD n f (m + 1) (insG r (posR m r x.Number) x))) (allD n f (m + 1) (insG r (posR m r x.Number) x)).length := by
  rw [kept_filter, kept_filter]
  refine asc_ext ((allD_asc _ _ _ _).filter _) ((allD_asc _ _ _ _).filter _) fun d => ?_
  rw [List.mem_filter, List.mem_filter]
  by_cases hu : d.Number = x.Number
  · simp [hu]
  · rw [mem_ins h hx hno hu]
theorem local_extra {n : Nat} {f : Nat → Lis} {m : Nat} {r : Nat → Rec} (h : OrdR m r) {x : Rec} (hx : recE x = 0) (hno : (gotR m r x.Number).2 = false) :
    (hasD (allD n f (m + 1) (insG r (posR m r x.Number) x)).length (nth (allD n f (m + 1) (insG r (posR m r x.Number) x))) ⟨2, x.Number⟩ != (findL n f x.Number).2) = true := by
  have hr := (recE_zero x).1 hx
  have h1 : hasD (allD n f (m + 1) (insG r (posR m r x.Number) x)).length (nth (allD n f (m + 1) (insG r (posR m r x.Number) x))) ⟨2, x.Number⟩ = !(findL n f x.Number).2 := by
    rw [Bool.eq_iff_iff, hasD_iff, mem_allD]
    have e : difU n f (m + 1) (insG r (posR m r x.Number) x) x.Number = if (findL n f x.Number).2 = false then [⟨2, x.Number⟩] else (if (findL n f x.Number).1.Pages ≠ x.Pages then [⟨3, x.Number⟩] else []) ++ (if (findL n f x.Number).1.Digest ≠ x.Digest then [⟨4, x.Number⟩] else []) := by
      unfold difU; rw [gotR_new h hx hno]; simp
    show (1 ≤ x.Number ∧ x.Number ≤ 9999) ∧ (⟨2, x.Number⟩ : Dif) ∈ difU n f (m + 1) (insG r (posR m r x.Number) x) x.Number ↔ _
    rw [e]
    cases (findL n f x.Number).2 with
    | false => simp; omega
    | true =>
      simp only [Bool.true_eq_false, if_false, Bool.not_true]
      refine ⟨?_, fun h => by cases h⟩
      rintro ⟨_, h⟩
      rw [List.mem_append] at h
      rcases h with h | h <;> (split at h <;> simp at h)
  rw [h1]; cases (findL n f x.Number).2 <;> rfl
theorem rcv_err {t : TL} {a : Acs} {r : Rec} (h : ¬ (rcvP t a r).2 = 0) : (rcvP t a r).1 = acs0 := by
  unfold rcvP at *
  by_cases h1 : chkA t a ≠ 0
  · rw [if_pos h1]
  rw [if_neg h1] at h ⊢
  by_cases h2 : recE r ≠ 0
  · rw [if_pos h2]
  rw [if_neg h2] at h ⊢
  by_cases h3 : (gotR a.nr a.r r.Number).2 = true
  · rw [if_pos h3]
  rw [if_neg h3] at h ⊢
  by_cases h4 : agrB (allT t (putR a r)) a.na a.a = false
  · rw [if_pos h4]
  rw [if_neg h4] at h ⊢
  by_cases h5 : 128 < a.nr + 1
  · rw [if_pos h5]
  rw [if_neg h5] at h
  exact absurd rfl h
theorem rcv_ok {t : TL} {a : Acs} {r : Rec} (h : (rcvP t a r).2 = 0) : rcvP t a r = (putR a r, 0) ∧ chkA t a = 0 ∧ recE r = 0 ∧ (gotR a.nr a.r r.Number).2 = false ∧ a.nr + 1 ≤ 128 := by
  unfold rcvP at *
  by_cases h1 : chkA t a ≠ 0
  · rw [if_pos h1] at h; exact absurd h h1
  rw [if_neg h1] at h ⊢
  by_cases h2 : recE r ≠ 0
  · rw [if_pos h2] at h; exact absurd h h2
  rw [if_neg h2] at h ⊢
  by_cases h3 : (gotR a.nr a.r r.Number).2 = true
  · rw [if_pos h3] at h; cases h
  rw [if_neg h3] at h ⊢
  by_cases h4 : agrB (allT t (putR a r)) a.na a.a = false
  · rw [if_pos h4] at h; cases h
  rw [if_neg h4] at h ⊢
  by_cases h5 : 128 < a.nr + 1
  · rw [if_pos h5] at h; cases h
  rw [if_neg h5]
  exact ⟨rfl, Decidable.not_not.1 h1, Decidable.not_not.1 h2, by simpa using h3, by omega⟩


theorem compareU_cs (σ : List Blk) (t : TL) (c : Option Nat) (m : Nat) (g : Nat → Rec) (hn : t.n < 1000000000) (hN : ∀ i, i < t.n → (t.g i).Title.size < 4294967281) (hσ : σ[0]? = some (.loc 0)) (ht : (tlChk t).2 = 0) (hg : OrdR m g) (hm : m ≤ 128) : CS Tryz.prog 28 [.agg (t.enc.map .d), .d (SL c 3 Rec.enc m g)] σ (fun r σ' X => ∃ b τ, r = .tup [.ms b 2 0 (allD t.n t.g m g).length, .d (I 0)] ∧ σ' = σ ++ τ ∧ (σ ++ τ)[b]? = some (.arr 2 (allD t.n t.g m g).length (fun i => Dif.enc (nth (allD t.n t.g m g) i))) ∧ σ.length ≤ b ∧ ∀ y ∈ X, σ.length ≤ y) := by
  have hor : ordR m g = true := (ordR_iff m g).2 ⟨hm, hg⟩
  refine CS.of_bodyW T.en28 Tryz.func28 rfl (by simp [Tryz.ntmps28]) fun hwf => ?_
  refine awp_reg_seq fun K hK => ?_
  simp [go_sem, Tryz.ntmps28, ht, hor]
  repeat refine ⟨by omega, ?_⟩
  refine hK _ ?_; clear hK K
  refine awp_seq ?_
  refine awp_reg_seq fun K hK => ?_
  simp [go_sem, ht, hor]
  repeat refine ⟨by omega, ?_⟩
  refine CSk.mk (accession_listed_cs _ t hn hN (loc_app hσ)) ?_
  simp [go_sem, ht, hor]
  repeat refine ⟨by omega, ?_⟩
  refine CSm.mk (accession_ordered_cs _ c m g (by omega)) ?_
  simp [go_sem, ht, hor]
  repeat refine ⟨by omega, ?_⟩
  refine hK _ ?_; clear hK K
  refine awp_forget [1, 2, 13] (by simp only [restr, List.contains_cons, List.contains_nil, Nat.reduceBEq, Bool.or_false, Bool.or_true, Bool.true_or, Bool.false_or, if_true, if_false, Bool.false_eq_true]; rfl) ?_
  refine awp_cond rfl (fun c0 => ?_) (fun c0 => ?_)
  · have d0 := c0; try simp at d0
  · have d0 := c0; try simp at d0
    refine awp_skip ?_
    refine awp_reg_seq fun K hK => ?_
    simp [go_sem, ht, hor, c0, d0]
    repeat refine ⟨by omega, ?_⟩
    have hco := compareM_cs (σ ++ [.var (t.enc.map .d)]) t c m g ht hg (by omega); simp only [List.append_assoc, List.cons_append, List.nil_append, List.length_append, List.length_cons, List.length_nil, Nat.zero_add, Nat.add_assoc, Nat.reduceAdd] at hco; refine CSk.gen hco ?_; rintro r σ' X ⟨B, rfl, rfl, rfl⟩
    simp [go_sem, ht, hor, c0, d0]
    repeat refine ⟨by omega, ?_⟩
    refine hK _ ?_; clear hK K
    refine awp_ret ?_
    simp [go_sem, Tryz.results28]

theorem local1_cs (σ : List Blk) (τ : List Blk) (r : Rec) (d : Dif) : CSF Tryz.prog 33 [.agg (d.enc.map .d), .ptr σ.length 0] (σ ++ .var (r.enc.map .d) :: τ) (.d (B (d.Number == r.Number))) := by
  refine CSF.of_body T.en33 Tryz.func33 rfl (by simp [Tryz.ntmps33]) (by simp [go_sem]) fun hwf => ?_
  refine awp_reg_seq fun K hK => ?_
  simp [go_sem, Tryz.ntmps33]
  repeat refine ⟨by omega, ?_⟩
  refine hK _ ?_; clear hK K
  refine awp_reg_seq fun K hK => ?_
  simp [go_sem]
  repeat refine ⟨by omega, ?_⟩
  refine hK _ ?_; clear hK K
  refine awp_ret ?_
  simp [go_sem, Tryz.results33] <;> omega

theorem compareO_cs (σ : List Blk) (t : TL) (c : Option Nat) (m : Nat) (g : Nat → Rec) (hn : t.n < 1000000000) (hN : ∀ i, i < t.n → (t.g i).Title.size < 4294967281) (hσ : σ[0]? = some (.loc 0)) (ht : (tlChk t).2 = 0) (hg : OrdR m g) (hm : m ≤ 128) : CS Tryz.prog 28 [.agg (t.enc.map .d), .d (SL c 3 Rec.enc m g)] σ (fun r σ' X => r = .tup [.ms σ.length 2 0 (allD t.n t.g m g).length, .d (I 0)] ∧ σ' = σ ++ [.arr 2 (allD t.n t.g m g).length (fun i => Dif.enc (nth (allD t.n t.g m g) i))] ∧ X = []) :=
  CS.own_tup (compareU_cs σ t c m g hn hN hσ ht hg hm)
theorem local_del (σ : List Blk) (v0 v1 v3 : Blk) (υ τ : List Blk) (r : Rec) (n : Nat) (g : Nat → Dif) (hn : n < 1000000000) : CS Tryz.prog 36 [.ms (σ.length + (4 + υ.length)) 2 0 n, .clo (.func 33) [] [.ptr (σ.length + 2) 0]] (σ ++ (v0 :: v1 :: .var (r.enc.map .d) :: v3 :: (υ ++ .arr 2 n (fun i => Dif.enc (g i)) :: τ)))
    (fun r' σ' X => X = [] ∧ r' = .ms (σ.length + (4 + υ.length)) 2 0 (kept (fun d => d.Number == r.Number) g n).length ∧ σ' = σ ++ (v0 :: v1 :: .var (r.enc.map .d) :: v3 :: (υ ++ .arr 2 (kept (fun d => d.Number == r.Number) g n).length (fun i => Dif.enc (nth (kept (fun d => d.Number == r.Number) g n) i)) :: τ))) := by
  have h := deleteDif_cs (σ ++ (v0 :: v1 :: .var (r.enc.map .d) :: v3 :: υ)) τ n g 33 [.ptr (σ.length + 2) 0] (fun d => d.Number == r.Number) hn (fun h d υ' => by
    have h1 := local1_cs (σ ++ [v0, v1]) (v3 :: (υ ++ .arr 2 n (fun i => Dif.enc (h i)) :: (τ ++ υ'))) r d
    simpa using h1)
  have e : (σ ++ (v0 :: v1 :: Blk.var (r.enc.map .d) :: v3 :: υ)).length = σ.length + (4 + υ.length) := by simp; omega
  rw [e] at h
  simp only [List.append_assoc, List.cons_append] at h
  refine h.mono ?_
  rintro r' σ' X ⟨rfl, h1⟩
  exact ⟨rfl, h1⟩


end Go.Proofs.YtnbokgmimbeihaaGreatDoor

/-! Db -/
namespace Go.Proofs.YtnbokgmimbeihaaGreatDoor
open Go.Abs Go.Arch
set_option linter.unusedVariables false
set_option maxRecDepth 100000
set_option linter.unusedSimpArgs false

theorem hasD_ex (n : Nat) (g : Nat → Dif) (d : Dif) : hasD n g d = true ↔ ∃ i, i < n ∧ g i = d := by
  unfold hasD
  simp only [lst, List.any_map, List.any_eq_true, List.mem_range, Function.comp, beq_iff_eq]
theorem hasD_mem (n : Nat) (g : Nat → Dif) (d : Dif) : hasD n g d = true ↔ d ∈ lst n g := by
  rw [hasD_ex]; simp [lst]
theorem less_no (x y : Dif) (h1 : lessD x y = false) (h2 : x ≠ y) : lessD y x = true := by
  rw [lessD_iff]
  have h3 : ¬ (lessD x y = true) := by rw [h1]; decide
  rw [lessD_iff] at h3
  have h4 : ¬ (x.Kind = y.Kind ∧ x.Number = y.Number) := by
    rintro ⟨h5, h6⟩; apply h2; cases x; cases y; simp at *; exact ⟨h5, h6⟩
  omega
theorem AgrOk.ins {L : List Dif} {n : Nat} {a : Nat → Dif} (h : AgrOk L n a) {d : Dif} (hd : d ∈ L) (hno : hasD n a d = false) : AgrOk L (n + 1) (insG a (posD n a d) d) := by
  have hne : ∀ i, i < n → a i ≠ d := fun i hi e => by
    have := (hasD_ex n a d).2 ⟨i, hi, e⟩; rw [hno] at this; cases this
  obtain ⟨h1, h2⟩ := posD_cut h d
  have hk := posD_le n a d
  generalize posD n a d = k at *
  intro i hi
  rcases Nat.lt_trichotomy i k with hik | hik | hik
  · rw [ins_lt hik]
    refine ⟨(h i (by omega)).1, fun hp => ?_⟩
    rw [ins_lt (show i - 1 < k by omega)]
    exact (h i (by omega)).2 hp
  · subst hik
    rw [ins_at]
    refine ⟨hd, fun hp => ?_⟩
    rw [ins_lt (show i - 1 < i by omega)]
    exact h1 _ (by omega)
  · rw [ins_gt hik]
    refine ⟨(h (i - 1) (by omega)).1, fun hp => ?_⟩
    rcases Nat.lt_or_ge k (i - 1) with h3 | h3
    · rw [ins_gt h3]
      exact (h (i - 1) (by omega)).2 (by omega)
    · obtain rfl : i - 1 = k := by omega
      rw [ins_at]
      exact less_no _ _ (h2 _ (Nat.le_refl _) (by omega)) (hne _ (by omega))
theorem has_ins {n : Nat} {a : Nat → Dif} {k : Nat} (hk : k ≤ n) (d e : Dif) : hasD (n + 1) (insG a k d) e = true ↔ hasD n a e = true ∨ e = d := by
  rw [hasD_ex, hasD_ex]
  constructor
  · rintro ⟨i, hi, h⟩
    rcases Nat.lt_trichotomy i k with hik | hik | hik
    · rw [ins_lt hik] at h; exact .inl ⟨i, by omega, h⟩
    · subst hik; rw [ins_at] at h; exact .inr h.symm
    · rw [ins_gt hik] at h; exact .inl ⟨i - 1, by omega, h⟩
  · rintro (⟨i, hi, h⟩ | h)
    · rcases Nat.lt_or_ge i k with hik | hik
      · exact ⟨i, by omega, by rw [ins_lt hik]; exact h⟩
      · exact ⟨i + 1, by omega, by rw [ins_gt (by omega), Nat.add_sub_cancel]; exact h⟩
    · exact ⟨k, by omega, by rw [ins_at]; exact h.symm⟩
theorem chkH_na {t : TL} {a b : Acs} (h : chkH t a = 0) (h1 : b.ID = a.ID) (h2 : b.Of = a.Of) (h3 : b.Day = a.Day) (h4 : b.nr = a.nr) (h5 : b.r = a.r) (h6 : b.na ≤ 128) : chkH t b = 0 := by
  obtain ⟨e1, e2, e3, e4, e5, e6, e7⟩ := chkH_zero h
  unfold chkH
  rw [h1, h2, h3, h4, h5, if_neg (by simp [e1]), if_neg (by simp [e2, e3]), if_neg (by simp [e4]), if_neg (by omega), if_neg (by simp [e6]), if_neg (by omega)]
theorem put_chk {t : TL} {a : Acs} {d : Dif} (h : chkA t a = 0) (hd : d ∈ allT t a) (hno : hasD a.na a.a d = false) (hl : a.na < 128) : chkA t (putD a d) = 0 := by
  obtain ⟨h1, h2⟩ := chkA_zero.1 h
  exact chkA_zero.2 ⟨chkH_na h1 rfl rfl rfl rfl rfl (by show a.na + 1 ≤ 128; omega), (agrB_iff _ _ _).2 (((agrB_iff _ _ _).1 h2).ins hd hno)⟩
theorem put_agr {t : TL} {a : Acs} {d : Dif} (h : chkA t a = 0) (hd : d ∈ allT t a) (hno : hasD a.na a.a d = false) (hl : a.na < 128) : agrP t a d = (putD a d, 0) := by
  unfold agrP
  rw [if_neg (not_not_intro h), if_neg (not_not_intro hd), if_neg (by rw [hno]; decide), if_neg (by omega)]
/-- agreeing to one after the other -/
def puts (a : Acs) (q : Nat → Dif) : Nat → Acs
  | 0 => a
  | i + 1 => putD (puts a q i) (q i)
theorem puts_kept (a : Acs) (q : Nat → Dif) : ∀ i, (puts a q i).ID = a.ID ∧ (puts a q i).Of = a.Of ∧ (puts a q i).Day = a.Day ∧ (puts a q i).nr = a.nr ∧ (puts a q i).r = a.r ∧ (puts a q i).na = a.na + i
  | 0 => ⟨rfl, rfl, rfl, rfl, rfl, rfl⟩
  | i + 1 => by
    obtain ⟨h1, h2, h3, h4, h5, h6⟩ := puts_kept a q i
    exact ⟨h1, h2, h3, h4, h5, by show (puts a q i).na + 1 = _; omega⟩
theorem puts_all (t : TL) (a : Acs) (q : Nat → Dif) (i : Nat) : allT t (puts a q i) = allT t a := by
  obtain ⟨_, _, _, h4, h5, _⟩ := puts_kept a q i
  unfold allT; rw [h4, h5]
theorem puts_has (a : Acs) (q : Nat → Dif) (e : Dif) : ∀ i, hasD (puts a q i).na (puts a q i).a e = true ↔ hasD a.na a.a e = true ∨ ∃ j, j < i ∧ q j = e
  | 0 => by simp [puts]
  | i + 1 => by
    have h1 := has_ins (a := (puts a q i).a) (posD_le (puts a q i).na (puts a q i).a (q i)) (q i) e
    have h2 := puts_has a q e i
    show hasD ((puts a q i).na + 1) (insG (puts a q i).a (posD (puts a q i).na (puts a q i).a (q i)) (q i)) e = true ↔ _
    rw [h1, h2]
    constructor
    · rintro ((h | ⟨j, hj, h⟩) | h)
      · exact .inl h
      · exact .inr ⟨j, by omega, h⟩
      · exact .inr ⟨i, by omega, h.symm⟩
    · rintro (h | ⟨j, hj, h⟩)
      · exact .inl (.inl h)
      · rcases Nat.lt_or_ge j i with h3 | h3
        · exact .inl (.inr ⟨j, h3, h⟩)
        · obtain rfl : j = i := by omega
          exact .inr h.symm
/-- q goes through what is open, each once -/
structure Goes (t : TL) (a : Acs) (q : Nat → Dif) : Prop where
  mem : ∀ i, i < (opnL t a).length → q i ∈ opnL t a
  inj : ∀ i j, i < j → j < (opnL t a).length → q i ≠ q j
  all : ∀ d, d ∈ opnL t a → ∃ j, j < (opnL t a).length ∧ q j = d
theorem opn_filter (t : TL) (a : Acs) : opnL t a = (allT t a).filter fun d => !hasD a.na a.a d := by unfold opnL; rw [kept_filter]
theorem mem_opn {t : TL} {a : Acs} {d : Dif} : d ∈ opnL t a ↔ d ∈ allT t a ∧ hasD a.na a.a d = false := by rw [opn_filter, List.mem_filter, Bool.not_eq_true']
theorem opn_asc (t : TL) (a : Acs) : (opnL t a).Pairwise fun a b => lessD a b = true := by
  rw [opn_filter]; exact (allD_asc _ _ _ _).filter _
theorem puts_no {t : TL} {a : Acs} {q : Nat → Dif} (hq : Goes t a q) {i : Nat} (hi : i < (opnL t a).length) : hasD (puts a q i).na (puts a q i).a (q i) = false := by
  rw [← Bool.not_eq_true, puts_has]
  rintro (h | ⟨j, hj, h⟩)
  · rw [(mem_opn.1 (hq.mem i hi)).2] at h; cases h
  · exact hq.inj j i hj hi h
theorem puts_chk {t : TL} {a : Acs} {q : Nat → Dif} (h : chkA t a = 0) (hq : Goes t a q) (hl : (opnL t a).length + a.na ≤ 128) : ∀ i, i ≤ (opnL t a).length → chkA t (puts a q i) = 0
  | 0, _ => h
  | i + 1, hi => put_chk (puts_chk h hq hl i (by omega)) (by rw [puts_all]; exact (mem_opn.1 (hq.mem i (by omega))).1) (puts_no hq (by omega)) (by have := (puts_kept a q i).2.2.2.2.2; omega)
theorem puts_agr {t : TL} {a : Acs} {q : Nat → Dif} (h : chkA t a = 0) (hq : Goes t a q) (hl : (opnL t a).length + a.na ≤ 128) {i : Nat} (hi : i < (opnL t a).length) : agrP t (puts a q i) (q i) = (puts a q (i + 1), 0) :=
  put_agr (puts_chk h hq hl i (by omega)) (by rw [puts_all]; exact (mem_opn.1 (hq.mem i hi)).1) (puts_no hq hi) (by have := (puts_kept a q i).2.2.2.2.2; omega)
/-- at the end all is agreed -/
theorem puts_lst {t : TL} {a : Acs} {q : Nat → Dif} (h : chkA t a = 0) (hq : Goes t a q) (hl : (opnL t a).length + a.na ≤ 128) :
    lst (puts a q (opnL t a).length).na (puts a q (opnL t a).length).a = allT t a := by
  have hc := ((agrB_iff _ _ _).1 (chkA_zero.1 (puts_chk h hq hl _ (Nat.le_refl _))).2)
  rw [puts_all] at hc
  refine asc_ext ?_ (allD_asc _ _ _ _) fun d => ?_
  · rw [List.pairwise_iff_getElem]
    intro i j hi hj hij
    rw [lst_length] at hi hj
    have e : ∀ k (hk : k < (lst (puts a q (opnL t a).length).na (puts a q (opnL t a).length).a).length), (lst (puts a q (opnL t a).length).na (puts a q (opnL t a).length).a)[k] = (puts a q (opnL t a).length).a k := fun k hk => by simp [lst]
    rw [e, e]
    exact hc.lt hij hj
  · rw [← hasD_mem, puts_has]
    constructor
    · rintro (h1 | ⟨j, hj, h1⟩)
      · obtain ⟨i, hi, rfl⟩ := (hasD_ex _ _ _).1 h1
        exact (((agrB_iff _ _ _).1 (chkA_zero.1 h).2) i hi).1
      · rw [← h1]; exact (mem_opn.1 (hq.mem j hj)).1
    · intro h1
      by_cases h2 : hasD a.na a.a d = true
      · exact .inl h2
      · exact .inr (hq.all d (mem_opn.2 ⟨h1, by simpa using h2⟩))
theorem puts_end {t : TL} {a : Acs} {q : Nat → Dif} (h : chkA t a = 0) (hq : Goes t a q) (hl : (opnL t a).length + a.na ≤ 128) : opnL t (puts a q (opnL t a).length) = [] := by
  rw [opn_filter, puts_all, List.filter_eq_nil_iff]
  intro d hd
  rw [← puts_lst h hq hl, ← hasD_mem] at hd
  rw [hd]; decide
theorem puts_opn {t : TL} {a : Acs} {q : Nat → Dif} (h : chkA t a = 0) (hq : Goes t a q) (hl : (opnL t a).length + a.na ≤ 128) : opnP t (puts a q (opnL t a).length) = ([], 0) := by
  unfold opnP; rw [if_pos (puts_chk h hq hl _ (Nat.le_refl _)), puts_end h hq hl]
theorem puts_num {t : TL} {a : Acs} {q : Nat → Dif} (h : chkA t a = 0) (hq : Goes t a q) (hl : (opnL t a).length + a.na ≤ 128) : numP t (puts a q (opnL t a).length) = (lst a.nr (fun i => (a.r i).Number), 0) := by
  obtain ⟨_, _, _, h4, h5, _⟩ := puts_kept a q (opnL t a).length
  unfold numP; rw [if_pos (puts_chk h hq hl _ (Nat.le_refl _))]
  unfold numL; rw [puts_end h hq hl, if_pos (show ([] : List Dif).length = 0 from rfl), h4, h5]
theorem puts_same {t : TL} {a : Acs} {q q' : Nat → Dif} (h : chkA t a = 0) (hq : Goes t a q) (hq' : Goes t a q') (hl : (opnL t a).length + a.na ≤ 128) : YtnbokgmimbeihaaGreatDoor.sameA (puts a q (opnL t a).length) (puts a q' (opnL t a).length) = true := by
  obtain ⟨h1, h2, h3, h4, h5, _⟩ := puts_kept a q (opnL t a).length
  obtain ⟨k1, k2, k3, k4, k5, _⟩ := puts_kept a q' (opnL t a).length
  exact (sameA_iff _ _).2 ⟨h1.trans k1.symm, h2.trans k2.symm, h3.trans k3.symm, by rw [h4, h5, k4, k5], (puts_lst h hq hl).trans (puts_lst h hq' hl).symm⟩
theorem goes_up (t : TL) (a : Acs) : Goes t a (nth (opnL t a)) := by
  refine ⟨fun i hi => nth_mem hi, fun i j hij hj e => ?_, fun d hd => ?_⟩
  · have := asc_nth (opn_asc t a) hij hj
    rw [e, lessD_iff] at this; omega
  · obtain ⟨i, hi, e⟩ := List.mem_iff_getElem.1 hd
    exact ⟨i, hi, by rw [nth_eq hi]; exact e⟩
/-- the order of the second one -/
def turnI (n k i : Nat) : Nat := (n - 1 - i + k) % n
theorem turnI_lt {n k i : Nat} (h : i < n) : turnI n k i < n := Nat.mod_lt _ (by omega)
theorem turnI_inj {n k i j : Nat} (hij : i < j) (hj : j < n) : turnI n k i ≠ turnI n k j := by
  unfold turnI
  intro h
  have h1 := Nat.div_add_mod (n - 1 - i + k) n
  have h2 := Nat.div_add_mod (n - 1 - j + k) n
  rw [h] at h1
  have h3 : n * ((n - 1 - i + k) / n) = n * ((n - 1 - j + k) / n) + (j - i) := by omega
  have h4 : (n - 1 - j + k) / n < (n - 1 - i + k) / n := by
    apply Classical.byContradiction; intro h5
    have := Nat.mul_le_mul_left n (Nat.le_of_not_lt h5)
    omega
  have h5 := Nat.mul_le_mul_left n h4
  rw [Nat.mul_succ] at h5
  omega
theorem turnI_sur {n k d : Nat} (hd : d < n) : ∃ i, i < n ∧ turnI n k i = d := by
  refine ⟨n - 1 - (d + (n - k % n)) % n, by have := Nat.mod_lt (d + (n - k % n)) (show n > 0 by omega); omega, ?_⟩
  unfold turnI
  have hm := Nat.mod_lt (d + (n - k % n)) (show n > 0 by omega)
  have hk := Nat.mod_lt k (show n > 0 by omega)
  have e : n - 1 - (n - 1 - (d + (n - k % n)) % n) + k = (d + (n - k % n)) % n + k := by omega
  rw [e, Nat.add_mod, Nat.mod_mod, ← Nat.add_mod]
  have e2 : d + (n - k % n) + k = d + n * (k / n + 1) := by
    have := Nat.div_add_mod k n
    rw [Nat.mul_add, Nat.mul_one]; omega
  rw [e2, Nat.add_mul_mod_self_left, Nat.mod_eq_of_lt hd]
theorem goes_turn (t : TL) (a : Acs) (k : Nat) : Goes t a (fun i => nth (opnL t a) (turnI (opnL t a).length k i)) := by
  have hu := goes_up t a
  refine ⟨fun i hi => nth_mem (turnI_lt hi), fun i j hij hj e => ?_, fun d hd => ?_⟩
  · rcases Nat.lt_trichotomy (turnI (opnL t a).length k i) (turnI (opnL t a).length k j) with h | h | h
    · exact hu.inj _ _ h (turnI_lt hj) e
    · exact turnI_inj hij hj h
    · exact hu.inj _ _ h (turnI_lt (by omega)) e.symm
  · obtain ⟨j, hj, e⟩ := hu.all d hd
    obtain ⟨i, hi, rfl⟩ := turnI_sur (k := k) hj
    exact ⟨i, hi, e⟩
end Go.Proofs.YtnbokgmimbeihaaGreatDoor

/-! Dd -/
namespace Go.Proofs.YtnbokgmimbeihaaGreatDoor
open Go.Abs Go.Arch
set_option linter.unusedVariables false
set_option linter.unusedSimpArgs false
set_option maxRecDepth 100000
set_option maxHeartbeats 1000000

theorem opn_ok {t : TL} {a : Acs} (h : (opnP t a).2 = 0) : chkA t a = 0 ∧ opnP t a = (opnL t a, 0) := by
  unfold opnP at *
  by_cases hc : chkA t a = 0
  · rw [if_pos hc]; exact ⟨hc, rfl⟩
  · rw [if_neg hc] at h; exact absurd h hc
theorem opn_err {t : TL} {a : Acs} (h : ¬ (opnP t a).2 = 0) : opnP t a = ([], chkA t a) := by
  unfold opnP at *
  by_cases hc : chkA t a = 0
  · rw [if_pos hc] at h; exact absurd rfl h
  · rw [if_neg hc]
theorem turn_idx {n k i : Nat} (hi : i < n) : ((n : Int) - 1 - i + k).tmod n = (turnI n k i : Nat) := by
  have e : ((n : Int) - 1 - i + k) = ((n - 1 - i + k : Nat) : Int) := by omega
  rw [e]; unfold turnI; exact (Int.natCast_emod _ _).symm
/-- the order of the second one, as a list that is read -/
def turnQ (t : TL) (a : Acs) (k : Nat) : Nat → Dif := fun i => nth (opnL t a) (turnI (opnL t a).length k i)
theorem turnQ_at (t : TL) (a : Acs) (k i : Nat) : nth (opnL t a) (turnI (opnL t a).length k i) = turnQ t a k i := rfl

theorem puts0 (a : Acs) (q : Nat → Dif) : puts a q 0 = a := rfl
attribute [local irreducible] puts


theorem law17_AccessionCloses_cs (σ : List Blk) (t : TL) (a : Acs) (k : Nat) (hk : k < 256) (hn : t.n ≤ 9223372036854775807) (h1 : a.nr ≤ 9223372036854775807) (h2 : a.na ≤ 9223372036854775807) (hσ : σ[0]? = some (.loc 0)) (hσ1 : σ[1]? = some (.tab 1 powV)) : CSF Tryz.prog 5 [.agg (t.enc.map .d), .agg (a.enc.map .d), .d (.v (.int .u8 k))] σ (.d (B true)) := by
  have hl := opnP_le t a
  refine CSF.of_body T.en5 Tryz.func5 rfl (by simp [Tryz.ntmps5]) (by simp [go_sem]) fun hwf => ?_
  refine awp_reg_seq fun K hK => ?_
  simp [go_sem, Tryz.ntmps5]
  repeat refine ⟨by omega, ?_⟩
  refine hK _ ?_; clear hK K
  refine awp_seq ?_
  refine awp_reg_seq fun K hK => ?_
  simp [go_sem]
  repeat refine ⟨by omega, ?_⟩
  refine CSk.mk (law17_awake_cs _ (loc_app hσ) (loc_app hσ1)) ?_
  simp [go_sem]
  repeat refine ⟨by omega, ?_⟩
  refine CSm.mk (law17_few_cs _ t a hn h1 h2) ?_
  simp [go_sem]
  repeat refine ⟨by omega, ?_⟩
  refine hK _ ?_; clear hK K
  refine awp_forget [2, 3, 4, 26] (by simp only [restr, List.contains_cons, List.contains_nil, Nat.reduceBEq, Bool.or_false, Bool.or_true, Bool.true_or, Bool.false_or, if_true, if_false, Bool.false_eq_true]; rfl) ?_
  refine awp_cond rfl (fun c0 => ?_) (fun c0 => ?_)
  · have d0 := c0; try simp at d0
    refine awp_reg_seq fun K hK => ?_
    simp [go_sem, c0, d0]
    repeat refine ⟨by omega, ?_⟩
    refine CSk.mk (law17_awake_cs _ (loc_app hσ) (loc_app hσ1)) ?_
    simp [go_sem, c0, d0]
    repeat refine ⟨by omega, ?_⟩
    refine hK _ ?_; clear hK K
    refine awp_ret ?_
    simp [go_sem, Tryz.results5, lst_length, c0, d0] <;> omega
  · have d0 := c0; try simp at d0
    obtain ⟨hn9, hN⟩ := few_t d0.1
    obtain ⟨hr9, ha9⟩ := few_a d0.2
    refine awp_skip ?_
    refine awp_draw_seq 8 T.mixed (by kernel_rfl) fun K hK => ?_
    simp [go_sem, c0, d0]
    repeat refine ⟨by omega, ?_⟩
    refine CSg.mk (law17_cp_cs _ a (by omega) (by omega)) ?_
    simp [go_sem, c0, d0]
    repeat refine ⟨by omega, ?_⟩
    refine CSg.mk (accession_Open_cs _ t a (by omega) hN (loc_app hσ) (by omega) (by omega)) ?_
    simp [go_sem, c0, d0]
    repeat refine ⟨by omega, ?_⟩
    refine hK _ ?_; clear hK K
    refine awp_seq ?_
    refine awp_reg_seq fun K hK => ?_
    simp [go_sem, c0, d0]
    repeat refine ⟨by omega, ?_⟩
    refine hK _ ?_; clear hK K
    refine awp_forget [2, 3, 4, 7, 36] (by simp only [restr, List.contains_cons, List.contains_nil, Nat.reduceBEq, Bool.or_false, Bool.or_true, Bool.true_or, Bool.false_or, if_true, if_false, Bool.false_eq_true]; rfl) ?_
    refine awp_cond rfl (fun c1 => ?_) (fun c1 => ?_)
    · have d1 := c1; try simp at d1
      have hz := opn_err d1
      refine awp_reg_seq fun K hK => ?_
      simp [go_sem, c0, d0, c1, d1, hz]
      repeat refine ⟨by omega, ?_⟩
      refine hK _ ?_; clear hK K
      refine awp_ret ?_
      simp [go_sem, Tryz.results5, lst_length, c0, d0, c1, d1, hz] <;> omega
    · have d1 := c1; try simp at d1
      obtain ⟨hch, hz⟩ := opn_ok d1
      have hlen := opnL_len t a
      have hw2 : IntKind.i64.wrap (((opnL t a).length : Int) + (a.na : Int)) = ((opnL t a).length : Int) + (a.na : Int) := wrapI (by omega) (by omega)
      have hup := goes_up t a
      have htu : Goes t a (turnQ t a k) := goes_turn t a k
      refine awp_skip ?_
      refine awp_seq ?_
      refine awp_reg_seq fun K hK => ?_
      simp [go_sem, c0, d0, c1, d1, hz, hw2]
      try simp (disch := omega) only [wrapI]
      repeat refine ⟨by omega, ?_⟩
      refine hK _ ?_; clear hK K
      refine awp_forget [2, 3, 4, 7, 46] (by simp only [restr, List.contains_cons, List.contains_nil, Nat.reduceBEq, Bool.or_false, Bool.or_true, Bool.true_or, Bool.false_or, if_true, if_false, Bool.false_eq_true]; rfl) ?_
      refine awp_cond rfl (fun c2 => ?_) (fun c2 => ?_)
      · have d2 := c2; try simp at d2
        refine awp_reg_seq fun K hK => ?_
        simp [go_sem, c0, d0, c1, d1, hz, hw2, c2, d2]
        repeat refine ⟨by omega, ?_⟩
        refine hK _ ?_; clear hK K
        refine awp_ret ?_
        simp [go_sem, Tryz.results5, lst_length, c0, d0, c1, d1, hz, hw2, c2, d2] <;> omega
      · have d2 := c2; try simp at d2
        have hll : (opnL t a).length + a.na ≤ 128 := by
          have := d2; omega
        refine awp_skip ?_
        refine awp_reg_seq fun K hK => ?_
        simp [go_sem, c0, d0, c1, d1, hz, hw2, c2, d2]
        repeat refine ⟨by omega, ?_⟩
        refine CSk.mk (law17_cp_cs _ a (by omega) (by omega)) ?_
        simp [go_sem, c0, d0, c1, d1, hz, hw2, c2, d2]
        repeat refine ⟨by omega, ?_⟩
        refine hK _ ?_; clear hK K
        refine awp_seq ?_
        refine awp_reg_seq fun K hK => ?_
        simp [go_sem, c0, d0, c1, d1, hz, hw2, c2, d2]
        repeat refine ⟨by omega, ?_⟩
        refine hK _ ?_; clear hK K
        refine awp_block ?_
        refine awp_forget [2, 3, 4, 7, 9, 50, 51] (by simp [go_sem, restr]; rfl) ?_
        refine awp_loopU (α := Nat) (fun i => [(51, .d (I i))]) (fun i => σ ++ [.var (t.enc.map .d), .var ((puts a (nth (opnL t a)) i).enc.map .d), .var ((puts a (turnQ t a k) i).enc.map .d)]) (fun i => i ≤ (opnL t a).length) (fun i => (opnL t a).length - i) 0 (by simp [go_sem]) (by rw [puts0, puts0]; rfl) (by simp) ?_
        rintro i hi
        refine awp_reg_seq fun K hK => ?_
        simp [go_sem, c0, d0, c1, d1, hz, hw2, c2, d2]
        repeat refine ⟨by omega, ?_⟩
        refine hK _ ?_; clear hK K
        refine awp_seq ?_
        refine awp_forget [2, 3, 4, 7, 9, 50, 51, 52] (by simp only [restr, List.contains_cons, List.contains_nil, Nat.reduceBEq, Bool.or_false, Bool.or_true, Bool.true_or, Bool.false_or, if_true, if_false, Bool.false_eq_true]; rfl) ?_
        refine awp_cond rfl (fun c3 => ?_) (fun c3 => ?_)
        · have d3 := c3; try simp at d3
          have hi3 : i < (opnL t a).length := by omega
          have hag1 := puts_agr hch hup hll hi3
          have hag2 := puts_agr hch htu hll hi3
          obtain ⟨_, _, _, hk4, _, hk6⟩ := puts_kept a (nth (opnL t a)) i
          obtain ⟨_, _, _, hm4, _, hm6⟩ := puts_kept a (turnQ t a k) i
          have hti : (((opnL t a).length : Int) - 1 - i + k) % ((opnL t a).length : Int) = ((turnI (opnL t a).length k i : Nat) : Int) := by
            have e : ((opnL t a).length : Int) - 1 - i + k = (((opnL t a).length - 1 - i + k : Nat) : Int) := by omega
            rw [e]; exact (Int.natCast_emod _ _).symm
          have htl := turnI_lt (k := k) hi3
          have hne : ¬ opnL t a = [] := fun h => by
            have := congrArg List.length h
            simp only [List.length_nil] at this
            omega
          have hbd : 0 ≤ ((turnI (opnL t a).length k i : Nat) : Int) ∧ ((turnI (opnL t a).length k i : Nat) : Int) < ((opnL t a).length : Int) := ⟨by omega, by omega⟩
          refine awp_skip ?_
          refine awp_seq ?_
          refine awp_block ?_
          refine awp_reg_seq fun K hK => ?_
          simp [go_sem, c0, d0, c1, d1, hz, hw2, c2, d2, c3, d3, hag1, hag2, hi3]
          repeat refine ⟨by omega, ?_⟩
          refine hK _ ?_; clear hK K
          apply awp_own_seq 13 11 12 T.mixed (by kernel_rfl)
          · intro τ K hK
            simp [go_sem, c0, d0, c1, d1, hz, hw2, c2, d2, c3, d3, hag1, hag2, hi3]
            repeat refine ⟨by omega, ?_⟩
            refine CSg.mk (law17_cp_cs _ (puts a (nth (opnL t a)) i) (by omega) (by omega)) ?_
            simp [go_sem, c0, d0, c1, d1, hz, hw2, c2, d2, c3, d3, hag1, hag2, hi3]
            repeat refine ⟨by omega, ?_⟩
            refine CSg.mk (accession_Agree_cs _ t (puts a (nth (opnL t a)) i) (nth (opnL t a) i) (by omega) hN (loc_app hσ) (by omega) (by omega)) ?_
            simp [go_sem, c0, d0, c1, d1, hz, hw2, c2, d2, c3, d3, hag1, hag2, hi3]
            repeat refine ⟨by omega, ?_⟩
            exact hK _ _
          intro K hK
          simp [go_sem, c0, d0, c1, d1, hz, hw2, c2, d2, c3, d3, hag1, hag2, hi3]
          repeat refine ⟨by omega, ?_⟩
          refine hK _ ?_; clear hK K
          refine awp_seq ?_
          refine awp_reg_seq fun K hK => ?_
          simp [go_sem, c0, d0, c1, d1, hz, hw2, c2, d2, c3, d3, hag1, hag2, hi3]
          repeat refine ⟨by omega, ?_⟩
          refine hK _ ?_; clear hK K
          refine awp_forget [2, 3, 4, 7, 9, 10, 11, 50, 51, 66] (by simp only [restr, List.contains_cons, List.contains_nil, Nat.reduceBEq, Bool.or_false, Bool.or_true, Bool.true_or, Bool.false_or, if_true, if_false, Bool.false_eq_true]; rfl) ?_
          refine awp_cond rfl (fun c4 => ?_) (fun c4 => ?_)
          · have d4 := c4; try simp at d4
          · have d4 := c4; try simp at d4
            refine awp_skip ?_
            refine awp_reg_seq fun K hK => ?_
            simp [go_sem, c0, d0, c1, d1, hz, hw2, c2, d2, c3, d3, hag1, hag2, hi3, c4, d4]
            repeat refine ⟨by omega, ?_⟩
            refine hK _ ?_; clear hK K
            apply awp_own_seq 23 21 22 T.mixed (by kernel_rfl)
            · intro τ K hK
              simp [go_sem, c0, d0, c1, d1, hz, hw2, c2, d2, c3, d3, hag1, hag2, hi3, c4, d4]
              try simp (disch := omega) only [tmodI, wrapI]
              repeat refine ⟨by omega, ?_⟩
              refine CSg.mk (law17_cp_cs _ (puts a (turnQ t a k) i) (by omega) (by omega)) ?_
              simp [go_sem, c0, d0, c1, d1, hz, hw2, c2, d2, c3, d3, hag1, hag2, hi3, c4, d4]
              try simp (disch := omega) only [tmodI, wrapI]
              repeat refine ⟨by omega, ?_⟩
              try simp only [hti, Int.toNat_natCast]
              try refine ⟨hne, hbd, ?_⟩
              try refine ⟨hbd, ?_⟩
              refine CSg.mk (accession_Agree_cs _ t (puts a (turnQ t a k) i) (turnQ t a k i) (by omega) hN (loc_app hσ) (by omega) (by omega)) ?_
              simp [go_sem, c0, d0, c1, d1, hz, hw2, c2, d2, c3, d3, hag1, hag2, hi3, c4, d4]
              try simp (disch := omega) only [tmodI, wrapI]
              repeat refine ⟨by omega, ?_⟩
              exact hK _ _
            intro K hK
            simp [go_sem, c0, d0, c1, d1, hz, hw2, c2, d2, c3, d3, hag1, hag2, hi3, c4, d4]
            try simp (disch := omega) only [tmodI, wrapI]
            repeat refine ⟨by omega, ?_⟩
            refine hK _ ?_; clear hK K
            refine awp_seq ?_
            refine awp_reg_seq fun K hK => ?_
            simp [go_sem, c0, d0, c1, d1, hz, hw2, c2, d2, c3, d3, hag1, hag2, hi3, c4, d4]
            repeat refine ⟨by omega, ?_⟩
            refine hK _ ?_; clear hK K
            refine awp_forget [2, 3, 4, 7, 9, 13, 50, 51, 90] (by simp only [restr, List.contains_cons, List.contains_nil, Nat.reduceBEq, Bool.or_false, Bool.or_true, Bool.true_or, Bool.false_or, if_true, if_false, Bool.false_eq_true]; rfl) ?_
            refine awp_cond rfl (fun c5 => ?_) (fun c5 => ?_)
            · have d5 := c5; try simp at d5
            · have d5 := c5; try simp at d5
              refine awp_skip ?_
              refine awp_reg_end fun K hK => ?_
              simp [go_sem, c0, d0, c1, d1, hz, hw2, c2, d2, c3, d3, hag1, hag2, hi3, c4, d4, c5, d5]
              repeat refine ⟨by omega, ?_⟩
              refine hK _ ?_; clear hK K
              refine awp_reg_end fun K hK => ?_
              simp [go_sem, c0, d0, c1, d1, hz, hw2, c2, d2, c3, d3, hag1, hag2, hi3, c4, d4, c5, d5]
              try simp (disch := omega) only [wrapI]
              repeat refine ⟨by omega, ?_⟩
              refine hK _ ?_; clear hK K
              refine ⟨i + 1, back_of' (by simp [go_sem, wrap_succ (i := i) (by omega), c0, d0, c1, d1, hz, hw2, c2, d2, c3, d3, hag1, hag2, hi3, c4, d4, c5, d5]) ((leaves_app (by simp [go_sem]))) (by (simp [go_sem, wrap_succ (i := i) (by omega), c0, d0, c1, d1, hz, hw2, c2, d2, c3, d3, hag1, hag2, hi3, c4, d4, c5, d5] <;> omega)), by omega, by first | omega | (dsimp only; omega)⟩
        · have d3 := c3; try simp at d3
          have hie : i = (opnL t a).length := by omega
          rw [hie]
          clear c3 d3
          have c3 : True := trivial
          have d3 : True := trivial
          have hq1 := puts_opn hch hup hll
          have hq2 := puts_num hch hup hll
          have hq3 := puts_same hch hup htu hll
          obtain ⟨_, _, _, hk4, _, hk6⟩ := puts_kept a (nth (opnL t a)) (opnL t a).length
          obtain ⟨_, _, _, hm4, _, hm6⟩ := puts_kept a (turnQ t a k) (opnL t a).length
          rw [← hk4] at hq2
          refine awp_exit ?_
          refine awp_draw_seq 8 T.mixed (by kernel_rfl) fun K hK => ?_
          simp [go_sem, c0, d0, c1, d1, hz, hw2, c2, d2, c3, d3, hq1, hq2, hq3]
          repeat refine ⟨by omega, ?_⟩
          refine CSg.mk (law17_cp_cs _ (puts a (nth (opnL t a)) (opnL t a).length) (by omega) (by omega)) ?_
          simp [go_sem, c0, d0, c1, d1, hz, hw2, c2, d2, c3, d3, hq1, hq2, hq3]
          repeat refine ⟨by omega, ?_⟩
          refine CSg.mk (accession_Open_cs _ t (puts a (nth (opnL t a)) (opnL t a).length) (by omega) hN (loc_app hσ) (by omega) (by omega)) ?_
          simp [go_sem, c0, d0, c1, d1, hz, hw2, c2, d2, c3, d3, hq1, hq2, hq3]
          repeat refine ⟨by omega, ?_⟩
          refine hK _ ?_; clear hK K
          refine awp_draw_seq 8 T.mixed (by kernel_rfl) fun K hK => ?_
          simp [go_sem, c0, d0, c1, d1, hz, hw2, c2, d2, c3, d3, hq1, hq2, hq3]
          repeat refine ⟨by omega, ?_⟩
          refine CSg.mk (law17_cp_cs _ (puts a (nth (opnL t a)) (opnL t a).length) (by omega) (by omega)) ?_
          simp [go_sem, c0, d0, c1, d1, hz, hw2, c2, d2, c3, d3, hq1, hq2, hq3]
          repeat refine ⟨by omega, ?_⟩
          refine CSg.mk (accession_Numbers_cs _ t (puts a (nth (opnL t a)) (opnL t a).length) (by omega) hN (loc_app hσ) (by omega) (by omega)) ?_
          simp [go_sem, c0, d0, c1, d1, hz, hw2, c2, d2, c3, d3, hq1, hq2, hq3]
          repeat refine ⟨by omega, ?_⟩
          refine hK _ ?_; clear hK K
          refine awp_reg_seq fun K hK => ?_
          simp [go_sem, c0, d0, c1, d1, hz, hw2, c2, d2, c3, d3, hq1, hq2, hq3]
          repeat refine ⟨by omega, ?_⟩
          refine CSm.mk (ref17_Same_cs _ (puts a (nth (opnL t a)) (opnL t a).length) (puts a (turnQ t a k) (opnL t a).length) (by omega) (by omega) (by omega) (by omega)) ?_
          simp [go_sem, c0, d0, c1, d1, hz, hw2, c2, d2, c3, d3, hq1, hq2, hq3]
          repeat refine ⟨by omega, ?_⟩
          refine hK _ ?_; clear hK K
          refine awp_ret ?_
          simp [go_sem, Tryz.results5, lst_length, c0, d0, c1, d1, hz, hw2, c2, d2, c3, d3, hq1, hq2, hq3] <;> omega

/-- the number of turns as the law's row opens it -/
theorem closes_u8 (σ : List Blk) (t : TL) (a : Acs) (x : Int) (hx : (Lit.int .u8 x).wf = true) (hn : t.n ≤ 9223372036854775807) (h1 : a.nr ≤ 9223372036854775807) (h2 : a.na ≤ 9223372036854775807) (hσ : σ[0]? = some (.loc 0)) (hσ1 : σ[1]? = some (.tab 1 powV)) :
    CSF Tryz.prog 5 [.agg (t.enc.map .d), .agg (a.enc.map .d), .d (.v (.int .u8 x))] σ (.d (B true)) := by
  have hb : 0 ≤ x ∧ x < 256 := by
    simp [Lit.wf, IntKind.min, IntKind.max, IntKind.signed, IntKind.bits] at hx; omega
  obtain ⟨k, rfl⟩ : ∃ k : Nat, x = k := ⟨x.toNat, by omega⟩
  exact law17_AccessionCloses_cs σ t a k (by omega) hn h1 h2 hσ hσ1


end Go.Proofs.YtnbokgmimbeihaaGreatDoor
