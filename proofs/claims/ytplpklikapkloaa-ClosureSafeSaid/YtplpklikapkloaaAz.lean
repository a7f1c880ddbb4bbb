/- Abstract values: a slice that nobody writes any more becomes data. -/
import Derived.Test.YtplpklikapkloaaAy
namespace Go.Abs
set_option linter.unusedVariables false
set_option linter.unusedSimpArgs false

mutual
def frzA (b sz n' : Nat) (row : Nat → List D) : AV → AV
  | .iff g x => .iff g (frzA b sz n' row x)
  | .agg cs => .agg (frzL b sz n' row cs)
  | .tup cs => .tup (frzL b sz n' row cs)
  | .ms b' sz' lo n => if Nat.beq b' b then (if sz' = sz ∧ lo + n ≤ n' then .d (.sl none sz n fun i => row (lo + i)) else .undef) else .ms b' sz' lo n
  | .clo fn fs cs => .clo fn (frzL b sz n' row fs) (frzL b sz n' row cs)
  | .ptr b' o => if Nat.beq b' b then .undef else .ptr b' o
  | .pe b' s i k => if Nat.beq b' b then .undef else .pe b' s i k
  | .mp b' => if Nat.beq b' b then .undef else .mp b'
  | .yld b' => if Nat.beq b' b then .undef else .yld b'
  | x => x
def frzL (b sz n' : Nat) (row : Nat → List D) : List AV → List AV
  | [] => []
  | x :: xs => frzA b sz n' row x :: frzL b sz n' row xs
end

theorem frzL_length (b sz n' : Nat) (row : Nat → List D) : ∀ cs, (frzL b sz n' row cs).length = cs.length
  | [] => rfl
  | x :: xs => by simp [frzL, frzL_length b sz n' row xs]

theorem frzL_getD (b sz n' : Nat) (row : Nat → List D) : ∀ (cs : List AV) (k : Nat), (frzL b sz n' row cs).getD k .undef = frzA b sz n' row (cs.getD k .undef)
  | [], k => by simp [frzL, frzA]
  | x :: xs, 0 => by simp [frzL]
  | x :: xs, k + 1 => by
    have := frzL_getD b sz n' row xs k
    simpa [frzL] using this

theorem set_none_sub {j : Js} {b : Nat} {c : Nat} (h : some c ∈ j.set b none) : some c ∈ j := by
  obtain ⟨i, hi, he⟩ := List.mem_iff_getElem.1 h
  rw [List.getElem_set] at he
  split at he
  · cases he
  · rw [← he]; exact List.getElem_mem _

theorem RD.unset {w : World} {j : Js} {b : Nat} {d : D} {v : Value} (h : RD w j d v) : RD w (j.set b none) d v := by
  induction h with
  | v x => exact .v x
  | sl a c val hcap hle ha hlt hb hlen hcell hrel ih => exact .sl a c val hcap hle ha hlt (fun hm => hb (set_none_sub hm)) hlen hcell ih
  | zero p c hcap hp => exact .zero p c hcap hp

section
variable {w : World} {j : Js} {σ : List Blk} {b sz n' : Nat} {row : Nat → List D}

theorem get_unset {b' : Nat} {o : Option Nat} (h : j[b']? = some o) (hne : b' ≠ b) : (j.set b none)[b']? = some o := by
  rw [List.getElem?_set]; simp [Ne.symm hne, h]

theorem R.frz (hS : RelS w j σ) (hb : σ[b]? = some (.arr sz n' row)) {x : AV} {v : Value} (h : R w j x v) : R w (j.set b none) (frzA b sz n' row x) v := by
  induction h with
  | undef v => exact .undef v
  | iff h h0 ih => simp only [frzA]; exact .iff ih h0
  | d h => simp only [frzA]; exact .d h.unset
  | agg vs hs h ih =>
    simp only [frzA]
    exact .agg vs (by rw [frzL_length]; exact hs) fun k hk => by rw [frzL_getD]; exact ih k (by rwa [frzL_length] at hk)
  | tup vs hs h ih =>
    simp only [frzA]
    exact .tup vs (by rw [frzL_length]; exact hs) fun k hk => by rw [frzL_getD]; exact ih k (by rwa [frzL_length] at hk)
  | clo ff cc h1 h2 h3 h4 ih3 ih4 =>
    simp only [frzA]
    exact .clo ff cc (by rw [frzL_length]; exact h1) (by rw [frzL_length]; exact h2) (fun k hk => by rw [frzL_getD]; exact ih3 k (by rwa [frzL_length] at hk)) (fun k hk => by rw [frzL_getD]; exact ih4 k (by rwa [frzL_length] at hk))
  | @ptr b' off cb h =>
    simp only [frzA]
    by_cases e : b' = b
    · simp [e]; exact .undef _
    · simp [e]; exact .ptr (get_unset h e)
  | @pe b' s i k cb h =>
    simp only [frzA]
    by_cases e : b' = b
    · simp [e]; exact .undef _
    · simp [e]; exact .pe (get_unset h e)
  | @mp b' cb h =>
    simp only [frzA]
    by_cases e : b' = b
    · simp [e]; exact .undef _
    · simp [e]; exact .mp (get_unset h e)
  | @yld b' cb h =>
    simp only [frzA]
    by_cases e : b' = b
    · simp [e]; exact .undef _
    · simp [e]; exact .yld (get_unset h e)
  | el a val h1 hlt hbj hcell hrel => simp only [frzA]; exact .el a val h1 hlt (fun hm => hbj (set_none_sub hm)) hcell fun k hk => (hrel k hk).unset
  | @ms b' sz' lo n cb c e m h hs hn hm =>
    simp only [frzA]
    by_cases e' : b' = b
    · subst e'
      simp only [Nat.beq_refl, if_true]
      split
      · rename_i hc
        obtain ⟨rfl, hle⟩ := hc
        obtain ⟨o, ho, hB⟩ := hS.blk b' _ hb
        rw [h] at ho; cases ho
        obtain ⟨C, e2, hC, hcs, hrel⟩ := hB
        refine .d (.sl ⟨cb, lo * sz', none⟩ c (fun i k => C.getD ((lo + i) * sz' + k) Go.undef) (.inl rfl) hn rfl (hS.lt b' cb h) (fun hmem => ?_) (fun i hi => (hrel (lo + i) (by omega)).1) (fun i hi k hk => ?_) (fun i hi k hk => ?_))
        · obtain ⟨i, hi, he⟩ := List.mem_iff_getElem.1 hmem
          rw [List.getElem_set] at he
          split at he
          · cases he
          · rename_i hne
            have : j[i]? = some (some cb) := by rw [List.getElem?_eq_getElem (by simpa using hi)]; rw [he]
            exact hne (hS.inj _ _ _ h this)
        · have hbound : (lo + i) * sz' + sz' ≤ n' * sz' := by
            have : (lo + i + 1) * sz' ≤ n' * sz' := Nat.mul_le_mul_right _ (by omega)
            rwa [Nat.succ_mul] at this
          have e3 : lo * sz' + i * sz' + k = (lo + i) * sz' + k := by rw [Nat.add_mul]
          rw [cell_of hC, e3]
          simp [Array.getD_eq_getD_getElem?, show (lo + i) * sz' + k < C.size by omega]
        · exact ((hrel (lo + i) (by omega)).2 k hk).unset
      · exact .undef _
    · simp [e']; exact .ms c e m (get_unset h e') hs hn hm
  | @ms0 b' sz' p h =>
    simp only [frzA]
    by_cases e' : b' = b
    · subst e'
      simp only [Nat.beq_refl, if_true]
      split
      · rename_i hc
        obtain ⟨rfl, hle⟩ := hc
        exact .d (.zero p 0 (.inl rfl) fun _ => rfl)
      · exact .undef _
    · simp [e']; exact .ms0 p (get_unset h e')

/-- what does not speak of b stays as it is -/
def frzT (b sz n' : Nat) (row : Nat → List D) (x : AV) : AV := if x.avoids [b] then x else frzA b sz n' row x

theorem R.unset {x : AV} {v : Value} (h : R w j x v) (ha : x.avoids [b] = true) : R w (j.set b none) x v := by
  induction h with
  | undef v => exact .undef v
  | iff h h0 ih => exact .iff (fun hb => ih hb (by simpa [AV.avoids, hb] using ha)) h0
  | d h => exact .d h.unset
  | agg vs hs h ih => exact .agg vs hs fun k hk => ih k hk (avoidsL_getD (by simpa [AV.avoids] using ha) hk)
  | tup vs hs h ih => exact .tup vs hs fun k hk => ih k hk (avoidsL_getD (by simpa [AV.avoids] using ha) hk)
  | ptr h => exact .ptr (get_unset h (by simpa [AV.avoids] using ha))
  | pe h => exact .pe (get_unset h (by simpa [AV.avoids] using ha))
  | el a val hs hlt hb hcell hrel => exact .el a val hs hlt (fun hm => hb (set_none_sub hm)) hcell fun k hk => (hrel k hk).unset
  | ms c e m h hs hn hm => exact .ms c e m (get_unset h (by simpa [AV.avoids] using ha)) hs hn hm
  | ms0 p h => exact .ms0 p (get_unset h (by simpa [AV.avoids] using ha))
  | mp h => exact .mp (get_unset h (by simpa [AV.avoids] using ha))
  | yld h => exact .yld (get_unset h (by simpa [AV.avoids] using ha))
  | @clo fn fs cs ff cc h1 h2 h3 h4 ih3 ih4 =>
    have hb : avoidsL [b] fs = true ∧ avoidsL [b] cs = true := by simpa [AV.avoids] using ha
    exact .clo ff cc h1 h2 (fun k hk => ih3 k hk (avoidsL_getD hb.1 hk)) (fun k hk => ih4 k hk (avoidsL_getD hb.2 hk))

theorem R.frzT (hS : RelS w j σ) (hb : σ[b]? = some (.arr sz n' row)) {x : AV} {v : Value} (h : R w j x v) : R w (j.set b none) (frzT b sz n' row x) v := by
  unfold Abs.frzT
  split
  · rename_i ha; exact h.unset ha
  · exact h.frz hS hb

def frzM (b sz n' : Nat) (row : Nat → List D) : List (Nat × AV) → List (Nat × AV)
  | [] => []
  | (k, v) :: t => (k, frzT b sz n' row v) :: frzM b sz n' row t

theorem frzM_get : ∀ {t : List (Nat × AV)} {k : Nat} {av : AV}, get (frzM b sz n' row t) k = some av → ∃ x, get t k = some x ∧ av = frzT b sz n' row x
  | [], k, av, h => by simp [frzM, get] at h
  | (q, u) :: t, k, av, h => by
    simp only [frzM, get] at h ⊢
    by_cases hq : q = k
    · simp [hq] at h ⊢; exact h.symm
    · simp only [beq_ne hq, Bool.false_eq_true, if_false] at h ⊢; exact frzM_get h

theorem frzM_mem : ∀ {t : List (Nat × AV)} {k : Nat} {av : AV}, (k, av) ∈ frzM b sz n' row t → ∃ x, (k, x) ∈ t ∧ av = frzT b sz n' row x
  | [], k, av, h => by simp [frzM] at h
  | (q, u) :: t, k, av, h => by
    simp only [frzM] at h
    rcases List.mem_cons.1 h with h | h
    · cases h; exact ⟨u, by simp, rfl⟩
    · obtain ⟨x, h1, h2⟩ := frzM_mem h
      exact ⟨x, List.mem_cons_of_mem _ h1, h2⟩

def frzB (b sz n' : Nat) (row : Nat → List D) : Blk → Blk
  | .var cs => .var (cs.map (frzT b sz n' row))
  | .lp L st pd => .lp { L with t := frzM b sz n' row L.t } st pd
  | x => x

theorem RB.frz (hS : RelS w j σ) (hb : σ[b]? = some (.arr sz n' row)) {x : Blk} {o : Option Nat} (h : RB w j x o) : RB w (j.set b none) (frzB b sz n' row x) o := by
  cases x with
  | dead => simp [frzB, RB]
  | arr sz0 n0 row0 =>
    cases o with
    | none => exact h
    | some cb =>
      obtain ⟨C, e, h1, h2, h3⟩ := h
      exact ⟨C, e, h1, h2, fun i hi => ⟨(h3 i hi).1, fun k hk => ((h3 i hi).2 k hk).unset⟩⟩
  | lp L st pd =>
    cases o with
    | none => exact h
    | some cb =>
      obtain ⟨r, h1, h2, h3, h4⟩ := h
      refine ⟨r, h1, h2, h3, fun k av hk => ?_⟩
      obtain ⟨x, hx, rfl⟩ := frzM_mem hk
      exact ⟨(h4 k x hx).1, (h4 k x hx).2.frzT hS hb⟩
  | var cs =>
    cases o with
    | none => exact h
    | some cb =>
      obtain ⟨C, e, h1, h2, h3⟩ := h
      refine ⟨C, e, h1, by simpa using h2, fun k hk => ?_⟩
      simp only [List.length_map] at hk
      have e1 : (cs.map (frzT b sz n' row)).getD k .undef = frzT b sz n' row (cs.getD k .undef) := by
        simp [List.getD_eq_getElem?_getD, hk]
      rw [e1]; exact (h3 k hk).frzT hS hb

def frzS (b sz n' : Nat) (row : Nat → List D) (σ : List Blk) : List Blk := (σ.map (frzB b sz n' row)).set b .dead

theorem RelS.frz (hS : RelS w j σ) (hb : σ[b]? = some (.arr sz n' row)) : RelS w (j.set b none) (frzS b sz n' row σ) where
  len := by simp [frzS, hS.len]
  lt c cb h := by
    rw [List.getElem?_set] at h
    split at h
    · split at h <;> simp at h
    · exact hS.lt c cb h
  inj c c' cb h h' := by
    rw [List.getElem?_set] at h h'
    split at h
    · split at h <;> simp at h
    · split at h'
      · split at h' <;> simp at h'
      · exact hS.inj c c' cb h h'
  blk c x h := by
    unfold frzS at h
    rw [List.getElem?_set] at h
    by_cases hc : b = c
    · subst hc
      simp only [if_true, List.length_map] at h
      split at h
      · rename_i hlt
        simp at h; subst h
        exact ⟨none, by rw [List.getElem?_set]; simp [hS.len, hlt], trivial⟩
      · simp at h
    · simp only [hc, if_false, List.getElem?_map, Option.map_eq_some_iff] at h
      obtain ⟨y, hy, rfl⟩ := h
      obtain ⟨o, ho, hB⟩ := hS.blk c y hy
      exact ⟨o, by rw [List.getElem?_set]; simp [hc, ho], hB.frz hS hb⟩

end

/-- from here on nobody writes into block b: what speaks of it is data -/
theorem awp_freeze {P : Program} {c : Code} {Q : Exit → St → Prop} {N : Nat} {t t' : List (Nat × AV)} {σ σ' : List Blk} {mv : List Nat} (b : Nat) {sz n' : Nat} {row : Nat → List D} (hb : σ[b]? = some (.arr sz n' row)) (ht : frzM b sz n' row t = t') (hσ : frzS b sz n' row σ = σ')
    (h : AWP P c Q ⟨N, t', σ', b :: mv⟩) : AWP P c Q ⟨N, t, σ, mv⟩ := by
  refine awp_sub (s' := ⟨N, t', σ', b :: mv⟩) ?_ h
  intro j0 j a w hr
  subst ht hσ
  have he : Ev j w (j.set b none) w := ⟨Nat.le_refl _, fun _ _ _ => rfl, fun c _ hm => set_none_sub hm, fun _ _ => rfl, fun _ _ => rfl, rfl, rfl, rfl, fun _ r h => ⟨r, h⟩⟩
  refine ⟨j.set b none, ⟨hr.defers.mono he, hr.rdok, hr.size, fun k av hk => ?_, hr.sto.frz hb, by simpa using hr.len0, fun c hc hn => ?_⟩, he⟩
  · obtain ⟨x, hx, rfl⟩ := frzM_get hk
    exact ⟨(hr.tmp k x hx).1, (hr.tmp k x hx).2.frzT hr.sto hb⟩
  · simp at hn
    rw [List.getElem?_set]
    rw [if_neg (fun e => hn.1 e.symm)]
    exact hr.ag c hc hn.2

theorem frzM_id {b sz n' : Nat} {row : Nat → List D} : ∀ {t : List (Nat × AV)}, (∀ k av, (k, av) ∈ t → av.avoids [b] = true) → frzM b sz n' row t = t
  | [], _ => rfl
  | (q, u) :: t, h => by
    simp only [frzM]
    rw [frzM_id fun k av hk => h k av (List.mem_cons_of_mem _ hk)]
    simp [frzT, h q u (by simp)]

theorem mem_del_self : ∀ {t : List (Nat × AV)} {k : Nat} {av : AV}, (k, av) ∉ Abs.del t k
  | [], k, av => by simp [Abs.del]
  | (q, u) :: t, k, av => by
    simp only [Abs.del]
    split
    · exact mem_del_self
    · rename_i h
      intro hm
      rcases List.mem_cons.1 hm with e | e
      · cases e; simp at h
      · exact mem_del_self e

theorem del_len : ∀ (t : List (Nat × AV)) (k : Nat), (Abs.del t k).length ≤ t.length
  | [], k => by simp [Abs.del]
  | (q, u) :: t, k => by
    simp only [Abs.del]
    split
    · have := del_len t k; simp; omega
    · have := del_len t k; simp; omega

theorem scrub_len (X : List Nat) : ∀ t : List (Nat × AV), (scrub' X t).length ≤ t.length
  | [] => by simp [scrub']
  | (q, u) :: t => by
    have := scrub_len X t
    simp only [scrub']
    split
    · simp; omega
    · have := del_len (scrub' X t) q; simp; omega

theorem scrub_fix {X : List Nat} : ∀ {t : List (Nat × AV)}, scrub' X t = t → ∀ k av, (k, av) ∈ t → av.avoids X = true
  | [], _, _, _, h => by simp at h
  | (q, u) :: t, h, k, av, hm => by
    simp only [scrub'] at h
    split at h
    · rename_i hu
      rcases List.mem_cons.1 hm with e | e
      · cases e; exact hu
      · exact scrub_fix (List.cons.inj h).2 k av e
    · have h1 := congrArg List.length h
      have h2 := del_len (scrub' X t) q
      have h3 := scrub_len X t
      simp at h1; omega

theorem WfS.frz {σ : List Blk} (h : WfS σ) (k sz n' : Nat) (row : Nat → List D) : σ.map (frzB (σ.length + k) sz n' row) = σ := by
  have hs := h.one k
  refine (List.map_congr_left fun x hx => ?_).trans (List.map_id _)
  have hx' : scrubV [σ.length + k] x = x := by
    obtain ⟨i, hi, he⟩ := List.mem_iff_getElem.1 hx
    have := congrArg (fun l => l[i]?) hs
    simp [hi] at this
    rw [← he]; exact this
  cases x with
  | var cs =>
    simp only [frzB, id, Blk.var.injEq]
    simp only [scrubV, Blk.var.injEq] at hx'
    refine (List.map_congr_left fun c hc => ?_).trans (List.map_id _)
    have : c.avoids [σ.length + k] = true := by
      obtain ⟨i, hi, he⟩ := List.mem_iff_getElem.1 hc
      have := congrArg (fun l => l[i]?) hx'
      simp [hi] at this
      rw [← he]
      by_cases ha : (cs[i]).avoids [σ.length + k] = true
      · exact ha
      · have := this (by simpa using ha)
        rw [← this]; rfl
    simp [frzT, this]
  | lp L st pd =>
    simp only [scrubV, Blk.lp.injEq] at hx'
    have h2 : scrub' [σ.length + k] L.t = L.t := congrArg LoopA.t hx'.1
    simp only [frzB, id]
    rw [frzM_id (scrub_fix h2)]
  | arr a c d => rfl
  | dead => rfl

theorem WfS.frz0 {σ : List Blk} (h : WfS σ) (sz n' : Nat) (row : Nat → List D) : σ.map (frzB σ.length sz n' row) = σ := h.frz 0 sz n' row

/-- a nil slice in a temporary becomes one that may grow -/
theorem awp_thawT {P : Program} {c : Code} {Q : Exit → St → Prop} {N : Nat} {t t' : List (Nat × AV)} {σ : List Blk} {mv : List Nat} (k sz : Nat) (row : Nat → List D) (hk : get t k = some (.d (.v (.slice none 0 0)))) (ht : put t k (.ms σ.length sz 0 0) = t')
    (h : AWP P c Q ⟨N, t', σ ++ [.arr sz 0 row], mv⟩) : AWP P c Q ⟨N, t, σ, mv⟩ := by
  refine awp_sub (s' := ⟨N, t', σ ++ [.arr sz 0 row], mv⟩) ?_ h
  intro j0 j a w hr
  subst ht
  obtain ⟨h1, h2, h3⟩ := hr.sto.unmade (sz := sz) (rows := row) (p := none)
  refine ⟨j ++ [none], ⟨hr.defers.mono h3, hr.rdok, hr.size, fun q av hq => ?_, h1, by have := hr.len0; simp; omega, fun c hc hn => ?_⟩, h3⟩
  · simp only at hq
    rw [get_put] at hq
    split at hq
    · rename_i e
      subst e
      simp only [Option.some.injEq] at hq
      subst hq
      have := hr.tmp k _ hk
      refine ⟨this.1, ?_⟩
      have hv := R_v this.2
      rw [hv]; exact h2
    · exact ⟨(hr.tmp q av hq).1, (hr.tmp q av hq).2.mono0 h3 hr.sto.lt (ag_append _ _)⟩
  · have := hr.len0
    rw [List.getElem?_append_left (by omega)]; exact hr.ag c hc hn

/-- a nil slice in a variable becomes one that may grow -/
theorem awp_thawV {P : Program} {c : Code} {Q : Exit → St → Prop} {N : Nat} {t : List (Nat × AV)} {σ σ' : List Blk} {mv : List Nat} (v sz : Nat) (row : Nat → List D) (hv : σ[v]? = some (.var [.d (.v (.slice none 0 0))])) (hσ : σ.set v (.var [.ms σ.length sz 0 0]) ++ [.arr sz 0 row] = σ')
    (h : AWP P c Q ⟨N, t, σ', mv⟩) : AWP P c Q ⟨N, t, σ, mv⟩ := by
  refine awp_sub (s' := ⟨N, t, σ', mv⟩) ?_ h
  intro j0 j a w hr
  subst hσ
  obtain ⟨h1, h2, h3⟩ := hr.sto.unmade (sz := sz) (rows := row) (p := none)
  have hvl : v < σ.length := (List.getElem?_eq_some_iff.1 hv).1
  refine ⟨j ++ [none], ⟨hr.defers.mono h3, hr.rdok, hr.size, fun q av hq => ⟨(hr.tmp q av hq).1, (hr.tmp q av hq).2.mono0 h3 hr.sto.lt (ag_append _ _)⟩, ⟨by simp [hr.sto.len], h1.lt, h1.inj, fun b x hx => ?_⟩, by have := hr.len0; simp; omega, fun c hc hn => ?_⟩, h3⟩
  · rw [← List.set_append_left _ _ hvl, List.getElem?_set] at hx
    split at hx
    · rename_i e
      subst e
      split at hx
      · simp only [Option.some.injEq] at hx
        subst hx
        obtain ⟨o, ho, hB⟩ := h1.blk v (.var [.d (.v (.slice none 0 0))]) (by rw [List.getElem?_append_left hvl]; exact hv)
        refine ⟨o, ho, ?_⟩
        cases o with
        | none => exact hB
        | some cb =>
          obtain ⟨C, e, g1, g2, g3⟩ := hB
          refine ⟨C, e, g1, g2, fun k hk => ?_⟩
          have hk0 : k = 0 := by simpa using hk
          subst hk0
          have h0 := R_v (show R w (j ++ [none]) (.d (.v (.slice none 0 0))) (C.getD 0 Go.undef) from g3 0 (by simp))
          simp only [List.getD_cons_zero]
          rw [h0]; exact h2
      · simp at hx
    · exact h1.blk b x hx
  · have := hr.len0
    rw [List.getElem?_append_left (by omega)]; exact hr.ag c hc hn

theorem CS.of_bodyW {P : Program} {f : FuncId} {fn : Func} {c : Code} {args : List AV} {σ : List Blk} {Q : AV → List Blk → List Nat → Prop} (hen : entersB P f = true) (hf : P.funcs[f]? = some fn) (hb : fn.body = some c) (hN : args.length ≤ fn.ntmps)
    (h : WfS σ → AWP P c (retPost P fn Q) (St.init fn.ntmps args σ)) : CS P f args σ Q :=
  ⟨hen, fun j w vs hs hr => (CS.of_body hen hf hb hN (h hs.wf)).2 j w vs hs hr⟩
attribute [go_sem ↓] retPost

/-- blocks that speak only of what lies below n -/
def under1 (n : Nat) : Blk → Prop
  | .var cs => underL n cs
  | .arr _ _ _ => True
  | .dead => True
  | .lp _ _ _ => False
def leavesL (n : Nat) : List Blk → List Blk → Prop
  | [], [] => True
  | x :: xs, y :: ys => (x = y ∨ under1 n y) ∧ leavesL n xs ys
  | _, _ => False
theorem under1_blk {n : Nat} {y : Blk} (h : under1 n y) : blkUnder n y := by
  cases y with
  | var cs => exact fun k hk => underL_getD h hk
  | arr a b c => trivial
  | dead => trivial
  | lp L st pd => exact h.elim
theorem leavesL_spec {n : Nat} : ∀ {xs ys : List Blk}, leavesL n xs ys → ys.length = xs.length ∧ ∀ (k : Nat) y, ys[k]? = some y → xs[k]? = some y ∨ blkUnder n y
  | [], [], _ => ⟨rfl, by simp⟩
  | x :: xs, y :: ys, h => by
    obtain ⟨h1, h2⟩ := leavesL_spec h.2
    refine ⟨by simp [h1], fun k z hz => ?_⟩
    cases k with
    | zero =>
      simp only [List.getElem?_cons_zero, Option.some.injEq] at hz ⊢
      subst hz
      rcases h.1 with e | e
      · exact .inl e
      · exact .inr (under1_blk e)
    | succ k => simpa using h2 k z (by simpa using hz)
  | [], _ :: _, h => h.elim
  | _ :: _, [], h => h.elim
theorem leaves_app {σ xs ys : List Blk} (h : leavesL (σ.length + xs.length) xs ys) : Leaves (σ ++ xs) (σ ++ ys) := by
  obtain ⟨h1, h2⟩ := leavesL_spec h
  refine ⟨by simp [h1], fun b x hx => ?_⟩
  rw [List.getElem?_append] at hx ⊢
  split at hx
  · rename_i hb; rw [if_pos hb]; exact .inl hx
  · rename_i hb
    rw [if_neg hb]
    rcases h2 _ _ hx with e | e
    · exact .inl e
    · exact .inr (by simpa using e)
theorem leavesL_refl (n : Nat) : ∀ xs : List Blk, leavesL n xs xs = True
  | [] => rfl
  | x :: xs => by simp [leavesL, leavesL_refl n xs]
attribute [go_sem] leavesL under1 leavesL_refl

/-- the rows of a block, told in other words -/
theorem sub_shrink {N : Nat} {t : List (Nat × AV)} {σ σ' : List Blk} {mv : List Nat} (b n' : Nat) {sz n : Nat} {row : Nat → List D} (row' : Nat → List D) (hb : σ[b]? = some (.arr sz n row)) (hn : n' ≤ n) (hr : ∀ i, i < n' → row i = row' i) (hσ : σ.set b (.arr sz n' row') = σ') : Sub ⟨N, t, σ, mv⟩ ⟨N, t, σ', mv⟩ := by
  intro j0 j a w h
  subst hσ
  refine ⟨j, ⟨h.defers, h.rdok, h.size, h.tmp, ⟨by simp [h.sto.len], h.sto.lt, h.sto.inj, fun c x hx => ?_⟩, h.len0, h.ag⟩, .refl _ _⟩
  simp only at hx
  rw [List.getElem?_set] at hx
  split at hx
  · rename_i e
    subst e
    split at hx
    · simp only [Option.some.injEq] at hx
      subst hx
      obtain ⟨o, ho, hB⟩ := h.sto.blk b _ hb
      refine ⟨o, ho, ?_⟩
      cases o with
      | none =>
        have : n = 0 := hB
        show n' = 0
        omega
      | some cb =>
        obtain ⟨C, e, g1, g2, g3⟩ := hB
        have hm : n' * sz ≤ n * sz := Nat.mul_le_mul_right _ hn
        exact ⟨C, e, g1, by omega, fun i hi => by rw [← hr i hi]; exact g3 i (by omega)⟩
    · simp at hx
  · exact h.sto.blk c x hx
theorem sub_rows {N : Nat} {t : List (Nat × AV)} {σ σ' : List Blk} {mv : List Nat} (b : Nat) {sz n : Nat} {row : Nat → List D} (row' : Nat → List D) (hb : σ[b]? = some (.arr sz n row)) (hr : ∀ i, i < n → row i = row' i) (hσ : σ.set b (.arr sz n row') = σ') : Sub ⟨N, t, σ, mv⟩ ⟨N, t, σ', mv⟩ :=
  sub_shrink b n row' hb (Nat.le_refl _) hr hσ
theorem awp_shrink {P : Program} {c : Code} {Q : Exit → St → Prop} {N : Nat} {t : List (Nat × AV)} {σ σ' : List Blk} {mv : List Nat} (b n' : Nat) {sz n : Nat} {row : Nat → List D} (row' : Nat → List D) (hb : σ[b]? = some (.arr sz n row)) (hn : n' ≤ n) (hr : ∀ i, i < n' → row i = row' i) (hσ : σ.set b (.arr sz n' row') = σ')
    (h : AWP P c Q ⟨N, t, σ', mv⟩) : AWP P c Q ⟨N, t, σ, mv⟩ := awp_sub (sub_shrink b n' row' hb hn hr hσ) h
theorem awp_rows {P : Program} {c : Code} {Q : Exit → St → Prop} {N : Nat} {t : List (Nat × AV)} {σ σ' : List Blk} {mv : List Nat} (b : Nat) {sz n : Nat} {row : Nat → List D} (row' : Nat → List D) (hb : σ[b]? = some (.arr sz n row)) (hr : ∀ i, i < n → row i = row' i) (hσ : σ.set b (.arr sz n row') = σ')
    (h : AWP P c Q ⟨N, t, σ', mv⟩) : AWP P c Q ⟨N, t, σ, mv⟩ := awp_sub (sub_rows b row' hb hr hσ) h

theorem catRows_zero (row rows : Nat → List D) : catRows 0 row rows = rows := by funext i; simp [catRows]
attribute [go_sem] catRows_zero rep asDs allOneD oneD
theorem cat_nth {α : Type} [Inhabited α] {enc : α → List D} {l : List α} {x : α} {ds : List D} {sz : Nat} (h : ds.take sz = enc x) {i : Nat} (hi : i < l.length + 1) : catRows l.length (fun i => enc (nth l i)) (rowsOf sz ds) i = enc (nth (l ++ [x]) i) := by
  unfold catRows
  split
  · rename_i h1; simp [nth, List.getElem?_append_left h1]
  · rename_i h1
    have : i = l.length := by omega
    subst this
    simp [rowsOf, nth, h]
theorem set_nth {α : Type} [Inhabited α] {enc : α → List D} {l : List α} {x : α} {k : Nat} {ds : List D} (h : ds = enc x) {i : Nat} (hi : i < l.length) : (if i = k then ds else enc (nth l i)) = enc (nth (l.set k x) i) := by
  by_cases e : i = k
  · subst e; simp [nth, hi, h]
  · simp [e, nth, List.getElem?_set, Ne.symm e]
theorem rowsOf_zero (sz : Nat) (ds : List D) : rowsOf sz ds 0 = ds.take sz := by simp [rowsOf]
attribute [go_sem] scrub' scrubV rowsOf_zero
attribute [go_sem] frzM frzS frzB frzT frzA frzL AV.avoids avoidsL
end Go.Abs
