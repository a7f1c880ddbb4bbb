/- Contracts and lemmas (Az, Oa, Axl, Ob, Od, Azs, Azt, Ba, Bb, St, Pn, Su, Ca, Cb, Cc, Azu), joined out of smaller texts by a program; no conditions. -/
import Derived.Test.YtnbokgmimbeihaaGreatDoorKB2
import Derived.ProofKit
import Derived.OpenShut
import Derived.ShutString
import Derived.ChangeOld
import Derived.Below
import Derived.Carry
import Derived.Deep.Slices
import Derived.Shelf.SlSortCmp.WholeK
import Derived.Test.YtnbokgmimbeihaaGreatDoorProg
import Derived.KernelRfl
import Derived.Shelf.SlGeneric
import Derived.Shelf.Strings.Search3
import Derived.Shelf.GgClosure.StringsRunes
import Derived.Shelf.Strings.Repeat
import Derived.Shelf.Strconv.Itoa3
import Derived.Ground.NamesProg
import Derived.Ground.GgwProg
import Derived.Laws.RangeString
import Derived.Laws.RangeAny
import Derived.Shelf.GgClosure.StringsIndexFunc
import Derived.Lib.IndexMore
/-! Az -/
namespace Go.Abs
set_option linter.unusedVariables false
set_option linter.unusedSimpArgs false

mutual
def frzA (b sz n' : Nat) (row : Nat → List D) : AV → AV
  | .iff g x => .iff g (frzA b sz n' row x)
  | .agg cs => .agg (frzL b sz n' row cs)
  | .tup cs => .tup (frzL b sz n' row cs)
  | .ms b' sz' lo n => if Nat.beq b' b then (if sz' = sz ∧ lo + n ≤ n' then .d (.sl none sz n fun i => row (lo + i)) else .undef) else .ms b' sz' lo n
  | .clo fn fs cs => .clo fn (frzL b sz n' row fs) (frzL b sz n' row cs)
  | .ptr b' o => if Nat.beq b' b then .undef else .ptr b' o
  | .pe b' s i k => if Nat.beq b' b then .undef else .pe b' s i k
  | .mc b' s l n c => if Nat.beq b' b then .undef else .mc b' s l n c
  | .mp b' => if Nat.beq b' b then .undef else .mp b'
  | .yld b' => if Nat.beq b' b then .undef else .yld b'
  | x => x
def frzL (b sz n' : Nat) (row : Nat → List D) : List AV → List AV
  | [] => []
  | x :: xs => frzA b sz n' row x :: frzL b sz n' row xs
end

theorem frzL_length (b sz n' : Nat) (row : Nat → List D) : ∀ cs, (frzL b sz n' row cs).length = cs.length
  | [] => rfl
  | x :: xs => by simp [frzL, frzL_length b sz n' row xs]

theorem frzL_getD (b sz n' : Nat) (row : Nat → List D) : ∀ (cs : List AV) (k : Nat), (frzL b sz n' row cs).getD k .undef = frzA b sz n' row (cs.getD k .undef)
  | [], k => by simp [frzL, frzA]
  | x :: xs, 0 => by simp [frzL]
  | x :: xs, k + 1 => by
    have := frzL_getD b sz n' row xs k
    simpa [frzL] using this

theorem set_none_sub {j : Js} {b : Nat} {c : Nat} (h : some c ∈ j.set b none) : some c ∈ j := by
  obtain ⟨i, hi, he⟩ := List.mem_iff_getElem.1 h
  rw [List.getElem_set] at he
  split at he
  · cases he
  · rw [← he]; exact List.getElem_mem _

theorem RD.unset {w : World} {j : Js} {b : Nat} {d : D} {v : Value} (h : RD w j d v) : RD w (j.set b none) d v := by
  induction h with
  | v x => exact .v x
  | sl a c val hcap hle ha hlt hb hlen hcell hrel ih => exact .sl a c val hcap hle ha hlt (fun hm => hb (set_none_sub hm)) hlen hcell ih
  | zero p c hcap hp => exact .zero p c hcap hp

section
variable {w : World} {j : Js} {σ : List Blk} {b sz n' : Nat} {row : Nat → List D}

theorem get_unset {b' : Nat} {o : Option Nat} (h : j[b']? = some o) (hne : b' ≠ b) : (j.set b none)[b']? = some o := by
  rw [List.getElem?_set]; simp [Ne.symm hne, h]

theorem R.frz (hS : RelS w j σ) (hb : σ[b]? = some (.arr sz n' row)) {x : AV} {v : Value} (h : R w j x v) : R w (j.set b none) (frzA b sz n' row x) v := by
  induction h with
  | undef v => exact .undef v
  | iff h h0 ih => simp only [frzA]; exact .iff ih h0
  | d h => simp only [frzA]; exact .d h.unset
  | agg vs hs h ih =>
    simp only [frzA]
    exact .agg vs (by rw [frzL_length]; exact hs) fun k hk => by rw [frzL_getD]; exact ih k (by rwa [frzL_length] at hk)
  | tup vs hs h ih =>
    simp only [frzA]
    exact .tup vs (by rw [frzL_length]; exact hs) fun k hk => by rw [frzL_getD]; exact ih k (by rwa [frzL_length] at hk)
  | clo ff cc h1 h2 h3 h4 ih3 ih4 =>
    simp only [frzA]
    exact .clo ff cc (by rw [frzL_length]; exact h1) (by rw [frzL_length]; exact h2) (fun k hk => by rw [frzL_getD]; exact ih3 k (by rwa [frzL_length] at hk)) (fun k hk => by rw [frzL_getD]; exact ih4 k (by rwa [frzL_length] at hk))
  | @ptr b' off cb h =>
    simp only [frzA]
    by_cases e : b' = b
    · simp [e]; exact .undef _
    · simp [e]; exact .ptr (get_unset h e)
  | @pe b' s i k cb h =>
    simp only [frzA]
    by_cases e : b' = b
    · simp [e]; exact .undef _
    · simp [e]; exact .pe (get_unset h e)
  | @mp b' cb h =>
    simp only [frzA]
    by_cases e : b' = b
    · simp [e]; exact .undef _
    · simp [e]; exact .mp (get_unset h e)
  | @yld b' cb h =>
    simp only [frzA]
    by_cases e : b' = b
    · simp [e]; exact .undef _
    · simp [e]; exact .yld (get_unset h e)
  | el a val h1 hlt hbj hcell hrel => simp only [frzA]; exact .el a val h1 hlt (fun hm => hbj (set_none_sub hm)) hcell fun k hk => (hrel k hk).unset
  | @ms b' sz' lo n cb c e m h hs hn hm =>
    simp only [frzA]
    by_cases e' : b' = b
    · subst e'
      simp only [Nat.beq_refl, if_true]
      split
      · rename_i hc
        obtain ⟨rfl, hle⟩ := hc
        obtain ⟨o, ho, hB⟩ := hS.blk b' _ hb
        rw [h] at ho; cases ho
        obtain ⟨C, e2, hC, hcs, hrel⟩ := hB
        refine .d (.sl ⟨cb, lo * sz', none⟩ c (fun i k => C.getD ((lo + i) * sz' + k) Go.undef) (.inl rfl) hn rfl (hS.lt b' cb h) (fun hmem => ?_) (fun i hi => (hrel (lo + i) (by omega)).1) (fun i hi k hk => ?_) (fun i hi k hk => ?_))
        · obtain ⟨i, hi, he⟩ := List.mem_iff_getElem.1 hmem
          rw [List.getElem_set] at he
          split at he
          · cases he
          · rename_i hne
            have : j[i]? = some (some cb) := by rw [List.getElem?_eq_getElem (by simpa using hi)]; rw [he]
            exact hne (hS.inj _ _ _ h this)
        · have hbound : (lo + i) * sz' + sz' ≤ n' * sz' := by
            have : (lo + i + 1) * sz' ≤ n' * sz' := Nat.mul_le_mul_right _ (by omega)
            rwa [Nat.succ_mul] at this
          have e3 : lo * sz' + i * sz' + k = (lo + i) * sz' + k := by rw [Nat.add_mul]
          rw [cell_of hC, e3]
          simp [Array.getD_eq_getD_getElem?, show (lo + i) * sz' + k < C.size by omega]
        · exact ((hrel (lo + i) (by omega)).2 k hk).unset
      · exact .undef _
    · simp [e']; exact .ms c e m (get_unset h e') hs hn hm
  | @ms0 b' sz' p h =>
    simp only [frzA]
    by_cases e' : b' = b
    · subst e'
      simp only [Nat.beq_refl, if_true]
      split
      · rename_i hc
        obtain ⟨rfl, hle⟩ := hc
        exact .d (.zero p 0 (.inl rfl) fun _ => rfl)
      · exact .undef _
    · simp [e']; exact .ms0 p (get_unset h e')
  | @mc b' sz' lo n c v h q hv ih =>
    simp only [frzA]
    by_cases e' : b' = b
    · simp [e']; exact .undef _
    · simp only [frzA, beq_ne e', Bool.false_eq_true, if_false] at ih ⊢
      exact .mc ih q hv
  | op h h0 ih => simp only [frzA]; exact .op (fun hb => by have := ih hb; simpa only [frzA] using this) h0
  | @msE b' sz' lo cb p e m h hs hlo hm =>
    simp only [frzA]
    by_cases e' : b' = b
    · subst e'
      simp only [Nat.beq_refl, if_true]
      split
      · rename_i hc
        obtain ⟨rfl, hle⟩ := hc
        exact .d (.zero p 0 (.inl rfl) fun _ => rfl)
      · exact .undef _
    · simp [e']; exact .msE p e m (get_unset h e') hs hlo hm

/-- what does not speak of b stays as it is -/
def frzT (b sz n' : Nat) (row : Nat → List D) (x : AV) : AV := if x.avoids [b] then x else frzA b sz n' row x

theorem R.unset {x : AV} {v : Value} (h : R w j x v) (ha : x.avoids [b] = true) : R w (j.set b none) x v := by
  induction h with
  | undef v => exact .undef v
  | iff h h0 ih => exact .iff (fun hb => ih hb (by simpa [AV.avoids, hb] using ha)) h0
  | d h => exact .d h.unset
  | agg vs hs h ih => exact .agg vs hs fun k hk => ih k hk (avoidsL_getD (by simpa [AV.avoids] using ha) hk)
  | tup vs hs h ih => exact .tup vs hs fun k hk => ih k hk (avoidsL_getD (by simpa [AV.avoids] using ha) hk)
  | ptr h => exact .ptr (get_unset h (by simpa [AV.avoids] using ha))
  | pe h => exact .pe (get_unset h (by simpa [AV.avoids] using ha))
  | el a val hs hlt hb hcell hrel => exact .el a val hs hlt (fun hm => hb (set_none_sub hm)) hcell fun k hk => (hrel k hk).unset
  | ms c e m h hs hn hm => exact .ms c e m (get_unset h (by simpa [AV.avoids] using ha)) hs hn hm
  | ms0 p h => exact .ms0 p (get_unset h (by simpa [AV.avoids] using ha))
  | mc h q hv ih => exact .mc (ih (by simpa [AV.avoids] using ha)) q hv
  | op h h0 ih => exact .op (fun hb => ih hb rfl) h0
  | msE p e m h hs hlo hm => exact .msE p e m (get_unset h (by simpa [AV.avoids] using ha)) hs hlo hm
  | mp h => exact .mp (get_unset h (by simpa [AV.avoids] using ha))
  | yld h => exact .yld (get_unset h (by simpa [AV.avoids] using ha))
  | @clo fn fs cs ff cc h1 h2 h3 h4 ih3 ih4 =>
    have hb : avoidsL [b] fs = true ∧ avoidsL [b] cs = true := by simpa [AV.avoids] using ha
    exact .clo ff cc h1 h2 (fun k hk => ih3 k hk (avoidsL_getD hb.1 hk)) (fun k hk => ih4 k hk (avoidsL_getD hb.2 hk))

theorem R.frzT (hS : RelS w j σ) (hb : σ[b]? = some (.arr sz n' row)) {x : AV} {v : Value} (h : R w j x v) : R w (j.set b none) (frzT b sz n' row x) v := by
  unfold Abs.frzT
  split
  · rename_i ha; exact h.unset ha
  · exact h.frz hS hb

def frzM (b sz n' : Nat) (row : Nat → List D) : List (Nat × AV) → List (Nat × AV)
  | [] => []
  | (k, v) :: t => (k, frzT b sz n' row v) :: frzM b sz n' row t

theorem frzM_get : ∀ {t : List (Nat × AV)} {k : Nat} {av : AV}, get (frzM b sz n' row t) k = some av → ∃ x, get t k = some x ∧ av = frzT b sz n' row x
  | [], k, av, h => by simp [frzM, get] at h
  | (q, u) :: t, k, av, h => by
    simp only [frzM, get] at h ⊢
    by_cases hq : q = k
    · simp [hq] at h ⊢; exact h.symm
    · simp only [beq_ne hq, Bool.false_eq_true, if_false] at h ⊢; exact frzM_get h

theorem frzM_mem : ∀ {t : List (Nat × AV)} {k : Nat} {av : AV}, (k, av) ∈ frzM b sz n' row t → ∃ x, (k, x) ∈ t ∧ av = frzT b sz n' row x
  | [], k, av, h => by simp [frzM] at h
  | (q, u) :: t, k, av, h => by
    simp only [frzM] at h
    rcases List.mem_cons.1 h with h | h
    · cases h; exact ⟨u, by simp, rfl⟩
    · obtain ⟨x, h1, h2⟩ := frzM_mem h
      exact ⟨x, List.mem_cons_of_mem _ h1, h2⟩

def frzB (b sz n' : Nat) (row : Nat → List D) : Blk → Blk
  | .var cs => .var (cs.map (frzT b sz n' row))
  | .lp L st pd => .lp { L with t := frzM b sz n' row L.t } st pd
  | x => x

theorem MapIs.unset {es : Array MapEntry} {cl : Nat} {d : Bool} {ks : List Key} {f : Key → AV} (h : MapIs w j es cl d ks f) : MapIs w (j.set b none) es cl d ks f :=
  ⟨h.stamped, h.keys, h.kind, h.free, fun e hm k hk => (h.rel e hm k hk).unset (free_avoids _ _ (h.free k))⟩
theorem IterIs.unset {mb : Nat} {es : Array MapEntry} {cl : Nat} {seen : Array Nat} {left : List Key} {cur : Option Key} {f : Key → AV} (h : IterIs w j mb es cl seen left cur f) : IterIs w (j.set b none) mb es cl seen left cur f :=
  ⟨h.lt, fun hm => h.own (set_none_sub hm), h.heap, h.stamped, h.keys, h.cur, h.free, fun e hm k hk => (h.rel e hm k hk).unset (free_avoids _ _ (h.free k))⟩

theorem RB.frz (hS : RelS w j σ) (hb : σ[b]? = some (.arr sz n' row)) {x : Blk} {o : Option Nat} (h : RB w j x o) : RB w (j.set b none) (frzB b sz n' row x) o := by
  cases x with
  | dead => simp [frzB, RB]
  | loc c =>
    obtain ⟨h1, h2, h3, m, h4⟩ := h
    exact ⟨h1, h2, fun hm => h3 (set_none_sub hm), m, h4⟩
  | tab c vs =>
    obtain ⟨h1, h2, h3, e, h4, h5⟩ := h
    exact ⟨h1, h2, fun hm => h3 (set_none_sub hm), e, h4, h5⟩
  | arr sz0 n0 row0 =>
    cases o with
    | none => exact h
    | some cb =>
      obtain ⟨C, e, h1, h2, h3⟩ := h
      exact ⟨C, e, h1, h2, fun i hi => ⟨(h3 i hi).1, fun k hk => ((h3 i hi).2 k hk).unset⟩⟩
  | lp L st pd =>
    cases o with
    | none => exact h
    | some cb =>
      obtain ⟨r, h1, h2, h3, h4⟩ := h
      refine ⟨r, h1, h2, h3, fun k av hk => ?_⟩
      obtain ⟨x, hx, rfl⟩ := frzM_mem hk
      exact ⟨(h4 k x hx).1, (h4 k x hx).2.frzT hS hb⟩
  | mp d ks f =>
    cases o with
    | none => exact h
    | some cb =>
      obtain ⟨es, cl, h1, h2⟩ := h
      exact ⟨es, cl, h1, h2.unset⟩
  | it left cur f =>
    cases o with
    | none => exact h
    | some cb =>
      obtain ⟨mb, es, cl, seen, h1, h2⟩ := h
      exact ⟨mb, es, cl, seen, h1, h2.unset⟩
  | var cs =>
    cases o with
    | none => exact h
    | some cb =>
      obtain ⟨C, e, h1, h2, h3⟩ := h
      refine ⟨C, e, h1, by simpa using h2, fun k hk => ?_⟩
      simp only [List.length_map] at hk
      have e1 : (cs.map (frzT b sz n' row)).getD k .undef = frzT b sz n' row (cs.getD k .undef) := by
        simp [List.getD_eq_getElem?_getD, hk]
      rw [e1]; exact (h3 k hk).frzT hS hb

def frzS (b sz n' : Nat) (row : Nat → List D) (σ : List Blk) : List Blk := (σ.map (frzB b sz n' row)).set b .dead

theorem RelS.frz (hS : RelS w j σ) (hb : σ[b]? = some (.arr sz n' row)) : RelS w (j.set b none) (frzS b sz n' row σ) where
  len := by simp [frzS, hS.len]
  lt c cb h := by
    rw [List.getElem?_set] at h
    split at h
    · split at h <;> simp at h
    · exact hS.lt c cb h
  inj c c' cb h h' := by
    rw [List.getElem?_set] at h h'
    split at h
    · split at h <;> simp at h
    · split at h'
      · split at h' <;> simp at h'
      · exact hS.inj c c' cb h h'
  blk c x h := by
    unfold frzS at h
    rw [List.getElem?_set] at h
    by_cases hc : b = c
    · subst hc
      simp only [if_true, List.length_map] at h
      split at h
      · rename_i hlt
        simp at h; subst h
        exact ⟨none, by rw [List.getElem?_set]; simp [hS.len, hlt], trivial⟩
      · simp at h
    · simp only [hc, if_false, List.getElem?_map, Option.map_eq_some_iff] at h
      obtain ⟨y, hy, rfl⟩ := h
      obtain ⟨o, ho, hB⟩ := hS.blk c y hy
      exact ⟨o, by rw [List.getElem?_set]; simp [hc, ho], hB.frz hS hb⟩

end

/-- from here on nobody writes into block b: what speaks of it is data -/
theorem awp_freeze {P : Program} {c : Code} {Q : Exit → St → Prop} {N : Nat} {t t' : List (Nat × AV)} {σ σ' : List Blk} {mv : List Nat} (b : Nat) {sz n' : Nat} {row : Nat → List D} (hb : σ[b]? = some (.arr sz n' row)) (ht : frzM b sz n' row t = t') (hσ : frzS b sz n' row σ = σ')
    (h : AWP P c Q ⟨N, t', σ', b :: mv⟩) : AWP P c Q ⟨N, t, σ, mv⟩ := by
  refine awp_sub (s' := ⟨N, t', σ', b :: mv⟩) ?_ h
  intro j0 j a w hr
  subst ht hσ
  have he : Ev j w (j.set b none) w := ⟨Nat.le_refl _, fun _ _ _ => rfl, fun c _ hm => set_none_sub hm, fun _ _ => rfl, fun _ _ => rfl, rfl, rfl, rfl, fun _ r h => ⟨r, h⟩⟩
  refine ⟨j.set b none, ⟨hr.defers.mono he, hr.rdok, hr.size, fun k av hk => ?_, hr.sto.frz hb, by simpa using hr.len0, fun c hc hn => ?_⟩, he⟩
  · obtain ⟨x, hx, rfl⟩ := frzM_get hk
    exact ⟨(hr.tmp k x hx).1, (hr.tmp k x hx).2.frzT hr.sto hb⟩
  · simp at hn
    rw [List.getElem?_set]
    rw [if_neg (fun e => hn.1 e.symm)]
    exact hr.ag c hc hn.2

theorem frzM_id {b sz n' : Nat} {row : Nat → List D} : ∀ {t : List (Nat × AV)}, (∀ k av, (k, av) ∈ t → av.avoids [b] = true) → frzM b sz n' row t = t
  | [], _ => rfl
  | (q, u) :: t, h => by
    simp only [frzM]
    rw [frzM_id fun k av hk => h k av (List.mem_cons_of_mem _ hk)]
    simp [frzT, h q u (by simp)]

theorem mem_del_self : ∀ {t : List (Nat × AV)} {k : Nat} {av : AV}, (k, av) ∉ Abs.del t k
  | [], k, av => by simp [Abs.del]
  | (q, u) :: t, k, av => by
    simp only [Abs.del]
    split
    · exact mem_del_self
    · rename_i h
      intro hm
      rcases List.mem_cons.1 hm with e | e
      · cases e; simp at h
      · exact mem_del_self e

theorem del_len : ∀ (t : List (Nat × AV)) (k : Nat), (Abs.del t k).length ≤ t.length
  | [], k => by simp [Abs.del]
  | (q, u) :: t, k => by
    simp only [Abs.del]
    split
    · have := del_len t k; simp; omega
    · have := del_len t k; simp; omega

theorem scrub_len (X : List Nat) : ∀ t : List (Nat × AV), (scrub' X t).length ≤ t.length
  | [] => by simp [scrub']
  | (q, u) :: t => by
    have := scrub_len X t
    simp only [scrub']
    split
    · simp; omega
    · have := del_len (scrub' X t) q; simp; omega

theorem scrub_fix {X : List Nat} : ∀ {t : List (Nat × AV)}, scrub' X t = t → ∀ k av, (k, av) ∈ t → av.avoids X = true
  | [], _, _, _, h => by simp at h
  | (q, u) :: t, h, k, av, hm => by
    simp only [scrub'] at h
    split at h
    · rename_i hu
      rcases List.mem_cons.1 hm with e | e
      · cases e; exact hu
      · exact scrub_fix (List.cons.inj h).2 k av e
    · have h1 := congrArg List.length h
      have h2 := del_len (scrub' X t) q
      have h3 := scrub_len X t
      simp at h1; omega

theorem WfS.frz {σ : List Blk} (h : WfS σ) (k sz n' : Nat) (row : Nat → List D) : σ.map (frzB (σ.length + k) sz n' row) = σ := by
  have hs := h.one k
  refine (List.map_congr_left fun x hx => ?_).trans (List.map_id _)
  have hx' : scrubV [σ.length + k] x = x := by
    obtain ⟨i, hi, he⟩ := List.mem_iff_getElem.1 hx
    have := congrArg (fun l => l[i]?) hs
    simp [hi] at this
    rw [← he]; exact this
  cases x with
  | var cs =>
    simp only [frzB, id, Blk.var.injEq]
    simp only [scrubV, Blk.var.injEq] at hx'
    refine (List.map_congr_left fun c hc => ?_).trans (List.map_id _)
    have : c.avoids [σ.length + k] = true := by
      obtain ⟨i, hi, he⟩ := List.mem_iff_getElem.1 hc
      have := congrArg (fun l => l[i]?) hx'
      simp [hi] at this
      rw [← he]
      by_cases ha : (cs[i]).avoids [σ.length + k] = true
      · exact ha
      · have := this (by simpa using ha)
        rw [← this]; rfl
    simp [frzT, this]
  | lp L st pd =>
    simp only [scrubV, Blk.lp.injEq] at hx'
    have h2 : scrub' [σ.length + k] L.t = L.t := congrArg LoopA.t hx'.1
    simp only [frzB, id]
    rw [frzM_id (scrub_fix h2)]
  | arr a c d => rfl
  | dead => rfl
  | loc c => rfl
  | tab c vs => rfl
  | mp d ks f => rfl
  | it left cur f => rfl

theorem WfS.frz0 {σ : List Blk} (h : WfS σ) (sz n' : Nat) (row : Nat → List D) : σ.map (frzB σ.length sz n' row) = σ := h.frz 0 sz n' row

/-- a nil slice in a temporary becomes one that may grow -/
theorem awp_thawT {P : Program} {c : Code} {Q : Exit → St → Prop} {N : Nat} {t t' : List (Nat × AV)} {σ : List Blk} {mv : List Nat} (k sz : Nat) (row : Nat → List D) (hk : get t k = some (.d (.v (.slice none 0 0)))) (ht : put t k (.ms σ.length sz 0 0) = t')
    (h : AWP P c Q ⟨N, t', σ ++ [.arr sz 0 row], mv⟩) : AWP P c Q ⟨N, t, σ, mv⟩ := by
  refine awp_sub (s' := ⟨N, t', σ ++ [.arr sz 0 row], mv⟩) ?_ h
  intro j0 j a w hr
  subst ht
  obtain ⟨h1, h2, h3⟩ := hr.sto.unmade (sz := sz) (rows := row) (p := none)
  refine ⟨j ++ [none], ⟨hr.defers.mono h3, hr.rdok, hr.size, fun q av hq => ?_, h1, by have := hr.len0; simp; omega, fun c hc hn => ?_⟩, h3⟩
  · simp only at hq
    rw [get_put] at hq
    split at hq
    · rename_i e
      subst e
      simp only [Option.some.injEq] at hq
      subst hq
      have := hr.tmp k _ hk
      refine ⟨this.1, ?_⟩
      have hv := R_v this.2
      rw [hv]; exact h2
    · exact ⟨(hr.tmp q av hq).1, (hr.tmp q av hq).2.mono0 h3 hr.sto.lt (ag_append _ _)⟩
  · have := hr.len0
    rw [List.getElem?_append_left (by omega)]; exact hr.ag c hc hn

/-- a nil slice in a variable becomes one that may grow -/
theorem awp_thawV {P : Program} {c : Code} {Q : Exit → St → Prop} {N : Nat} {t : List (Nat × AV)} {σ σ' : List Blk} {mv : List Nat} (v sz : Nat) (row : Nat → List D) (hv : σ[v]? = some (.var [.d (.v (.slice none 0 0))])) (hσ : σ.set v (.var [.ms σ.length sz 0 0]) ++ [.arr sz 0 row] = σ')
    (h : AWP P c Q ⟨N, t, σ', mv⟩) : AWP P c Q ⟨N, t, σ, mv⟩ := by
  refine awp_sub (s' := ⟨N, t, σ', mv⟩) ?_ h
  intro j0 j a w hr
  subst hσ
  obtain ⟨h1, h2, h3⟩ := hr.sto.unmade (sz := sz) (rows := row) (p := none)
  have hvl : v < σ.length := (List.getElem?_eq_some_iff.1 hv).1
  refine ⟨j ++ [none], ⟨hr.defers.mono h3, hr.rdok, hr.size, fun q av hq => ⟨(hr.tmp q av hq).1, (hr.tmp q av hq).2.mono0 h3 hr.sto.lt (ag_append _ _)⟩, ⟨by simp [hr.sto.len], h1.lt, h1.inj, fun b x hx => ?_⟩, by have := hr.len0; simp; omega, fun c hc hn => ?_⟩, h3⟩
  · rw [← List.set_append_left _ _ hvl, List.getElem?_set] at hx
    split at hx
    · rename_i e
      subst e
      split at hx
      · simp only [Option.some.injEq] at hx
        subst hx
        obtain ⟨o, ho, hB⟩ := h1.blk v (.var [.d (.v (.slice none 0 0))]) (by rw [List.getElem?_append_left hvl]; exact hv)
        refine ⟨o, ho, ?_⟩
        cases o with
        | none => exact hB
        | some cb =>
          obtain ⟨C, e, g1, g2, g3⟩ := hB
          refine ⟨C, e, g1, g2, fun k hk => ?_⟩
          have hk0 : k = 0 := by simpa using hk
          subst hk0
          have h0 := R_v (show R w (j ++ [none]) (.d (.v (.slice none 0 0))) (C.getD 0 Go.undef) from g3 0 (by simp))
          simp only [List.getD_cons_zero]
          rw [h0]; exact h2
      · simp at hx
    · exact h1.blk b x hx
  · have := hr.len0
    rw [List.getElem?_append_left (by omega)]; exact hr.ag c hc hn

theorem CS.of_bodyW {P : Program} {f : FuncId} {fn : Func} {c : Code} {args : List AV} {σ : List Blk} {Q : AV → List Blk → List Nat → Prop} (hen : entersB P f = true) (hf : P.funcs[f]? = some fn) (hb : fn.body = some c) (hN : args.length ≤ fn.ntmps)
    (h : WfS σ → AWP P c (retPost P fn Q) (St.init fn.ntmps args σ)) : CS P f args σ Q :=
  ⟨hen, fun j w vs hs hr => (CS.of_body hen hf hb hN (h hs.wf)).2 j w vs hs hr⟩
attribute [go_sem ↓] retPost

/-- blocks that speak only of what lies below n -/
def under1 (n : Nat) : Blk → Prop
  | .var cs => underL n cs
  | .arr _ _ _ => True
  | .dead => True
  | .loc _ => True
  | .tab _ _ => True
  | .mp _ _ _ => True
  | .it _ _ _ => True
  | .lp L _ _ => ∀ k av, (k, av) ∈ L.t → av.under n
def leavesL (n : Nat) : List Blk → List Blk → Prop
  | [], [] => True
  | x :: xs, y :: ys => (x = y ∨ under1 n y) ∧ leavesL n xs ys
  | _, _ => False
theorem under1_blk {n : Nat} {y : Blk} (h : under1 n y) : blkUnder n y := by
  cases y with
  | var cs => exact fun k hk => underL_getD h hk
  | arr a b c => trivial
  | dead => trivial
  | loc c => trivial
  | tab c vs => trivial
  | mp d ks f => trivial
  | it left cur f => trivial
  | lp L st pd => exact h
theorem leavesL_spec {n : Nat} : ∀ {xs ys : List Blk}, leavesL n xs ys → ys.length = xs.length ∧ ∀ (k : Nat) y, ys[k]? = some y → xs[k]? = some y ∨ blkUnder n y
  | [], [], _ => ⟨rfl, by simp⟩
  | x :: xs, y :: ys, h => by
    obtain ⟨h1, h2⟩ := leavesL_spec h.2
    refine ⟨by simp [h1], fun k z hz => ?_⟩
    cases k with
    | zero =>
      simp only [List.getElem?_cons_zero, Option.some.injEq] at hz ⊢
      subst hz
      rcases h.1 with e | e
      · exact .inl e
      · exact .inr (under1_blk e)
    | succ k => simpa using h2 k z (by simpa using hz)
  | [], _ :: _, h => h.elim
  | _ :: _, [], h => h.elim
theorem leaves_app {σ xs ys : List Blk} (h : leavesL (σ.length + xs.length) xs ys) : Leaves (σ ++ xs) (σ ++ ys) := by
  obtain ⟨h1, h2⟩ := leavesL_spec h
  refine ⟨by simp [h1], fun b x hx => ?_⟩
  rw [List.getElem?_append] at hx ⊢
  split at hx
  · rename_i hb; rw [if_pos hb]; exact .inl hx
  · rename_i hb
    rw [if_neg hb]
    rcases h2 _ _ hx with e | e
    · exact .inl e
    · exact .inr (.inl (by simpa using e))
theorem leavesL_refl (n : Nat) : ∀ xs : List Blk, leavesL n xs xs = True
  | [] => rfl
  | x :: xs => by simp [leavesL, leavesL_refl n xs]
attribute [go_sem] leavesL under1 leavesL_refl

/-- the rows of a block, told in other words -/
theorem sub_shrink {N : Nat} {t : List (Nat × AV)} {σ σ' : List Blk} {mv : List Nat} (b n' : Nat) {sz n : Nat} {row : Nat → List D} (row' : Nat → List D) (hb : σ[b]? = some (.arr sz n row)) (hn : n' ≤ n) (hr : ∀ i, i < n' → row i = row' i) (hσ : σ.set b (.arr sz n' row') = σ') : Sub ⟨N, t, σ, mv⟩ ⟨N, t, σ', mv⟩ := by
  intro j0 j a w h
  subst hσ
  refine ⟨j, ⟨h.defers, h.rdok, h.size, h.tmp, ⟨by simp [h.sto.len], h.sto.lt, h.sto.inj, fun c x hx => ?_⟩, h.len0, h.ag⟩, .refl _ _⟩
  simp only at hx
  rw [List.getElem?_set] at hx
  split at hx
  · rename_i e
    subst e
    split at hx
    · simp only [Option.some.injEq] at hx
      subst hx
      obtain ⟨o, ho, hB⟩ := h.sto.blk b _ hb
      refine ⟨o, ho, ?_⟩
      cases o with
      | none =>
        have : n = 0 := hB
        show n' = 0
        omega
      | some cb =>
        obtain ⟨C, e, g1, g2, g3⟩ := hB
        have hm : n' * sz ≤ n * sz := Nat.mul_le_mul_right _ hn
        exact ⟨C, e, g1, by omega, fun i hi => by rw [← hr i hi]; exact g3 i (by omega)⟩
    · simp at hx
  · exact h.sto.blk c x hx
theorem sub_rows {N : Nat} {t : List (Nat × AV)} {σ σ' : List Blk} {mv : List Nat} (b : Nat) {sz n : Nat} {row : Nat → List D} (row' : Nat → List D) (hb : σ[b]? = some (.arr sz n row)) (hr : ∀ i, i < n → row i = row' i) (hσ : σ.set b (.arr sz n row') = σ') : Sub ⟨N, t, σ, mv⟩ ⟨N, t, σ', mv⟩ :=
  sub_shrink b n row' hb (Nat.le_refl _) hr hσ
theorem awp_shrink {P : Program} {c : Code} {Q : Exit → St → Prop} {N : Nat} {t : List (Nat × AV)} {σ σ' : List Blk} {mv : List Nat} (b n' : Nat) {sz n : Nat} {row : Nat → List D} (row' : Nat → List D) (hb : σ[b]? = some (.arr sz n row)) (hn : n' ≤ n) (hr : ∀ i, i < n' → row i = row' i) (hσ : σ.set b (.arr sz n' row') = σ')
    (h : AWP P c Q ⟨N, t, σ', mv⟩) : AWP P c Q ⟨N, t, σ, mv⟩ := awp_sub (sub_shrink b n' row' hb hn hr hσ) h
theorem awp_rows {P : Program} {c : Code} {Q : Exit → St → Prop} {N : Nat} {t : List (Nat × AV)} {σ σ' : List Blk} {mv : List Nat} (b : Nat) {sz n : Nat} {row : Nat → List D} (row' : Nat → List D) (hb : σ[b]? = some (.arr sz n row)) (hr : ∀ i, i < n → row i = row' i) (hσ : σ.set b (.arr sz n row') = σ')
    (h : AWP P c Q ⟨N, t, σ', mv⟩) : AWP P c Q ⟨N, t, σ, mv⟩ := awp_sub (sub_rows b row' hb hr hσ) h

theorem catRows_zero (row rows : Nat → List D) : catRows 0 row rows = rows := by funext i; simp [catRows]
attribute [go_sem] catRows_zero rep asDs allOneD oneD
theorem cat_nth {α : Type} [Inhabited α] {enc : α → List D} {l : List α} {x : α} {ds : List D} {sz : Nat} (h : ds.take sz = enc x) {i : Nat} (hi : i < l.length + 1) : catRows l.length (fun i => enc (nth l i)) (rowsOf sz ds) i = enc (nth (l ++ [x]) i) := by
  unfold catRows
  split
  · rename_i h1; simp [nth, List.getElem?_append_left h1]
  · rename_i h1
    have : i = l.length := by omega
    subst this
    simp [rowsOf, nth, h]
theorem set_nth {α : Type} [Inhabited α] {enc : α → List D} {l : List α} {x : α} {k : Nat} {ds : List D} (h : ds = enc x) {i : Nat} (hi : i < l.length) : (if i = k then ds else enc (nth l i)) = enc (nth (l.set k x) i) := by
  by_cases e : i = k
  · subst e; simp [nth, hi, h]
  · simp [e, nth, List.getElem?_set, Ne.symm e]
theorem rowsOf_zero (sz : Nat) (ds : List D) : rowsOf sz ds 0 = ds.take sz := by simp [rowsOf]
attribute [go_sem] scrub' scrubV rowsOf_zero
attribute [go_sem] frzM frzS frzB frzT frzA frzL AV.avoids avoidsL
end Go.Abs

/-! Oa -/
namespace Go.Abs
open Go.ChangeShapes Go.WideShapes Go.ChangeAt Go.RowKit Go.Deep
set_option linter.unusedVariables false
set_option linter.unusedSimpArgs false

def RDs (w : World) (ds : List D) (cs : List Value) : Prop := cs.length = ds.length ∧ ∀ k, k < ds.length → RD w [] (ds.getD k default) (cs.getD k Go.undef)

theorem RDs.nil (w : World) : RDs w [] [] := ⟨rfl, by simp⟩

theorem RDs.append {w : World} {a b : List D} {c e : List Value} (h : RDs w a c) (k : RDs w b e) : RDs w (a ++ b) (c ++ e) := by
  refine ⟨by simp [h.1, k.1], fun i hi => ?_⟩
  rcases Nat.lt_or_ge i a.length with hl | hl
  · have := h.2 i hl
    rw [List.getD_eq_getElem?_getD, List.getD_eq_getElem?_getD, List.getElem?_append_left hl, List.getElem?_append_left (by rw [h.1]; exact hl)]
    rwa [List.getD_eq_getElem?_getD, List.getD_eq_getElem?_getD] at this
  · have := k.2 (i - a.length) (by simp at hi; omega)
    rw [List.getD_eq_getElem?_getD, List.getD_eq_getElem?_getD, List.getElem?_append_right hl, List.getElem?_append_right (by rw [h.1]; exact hl), h.1]
    rwa [List.getD_eq_getElem?_getD, List.getD_eq_getElem?_getD] at this

theorem RDs.one {w : World} {d : D} {c : Value} (h : RD w [] d c) : RDs w [d] [c] := ⟨rfl, fun k hk => by
  have : k = 0 := by simpa using hk
  subst this; exact h⟩

/-- what reads at type t is so -/
def Opn (P : Program) (t : TypeId) (g : List D → Prop) : Prop :=
  ∀ (H : Type) (enc : TypeId × Value → H) (w : World) (base : Nat) (spare : Nat → Bool) (held : Bool) (fuel : Nat) (cs : List Value) (x : DataW H × List MemPlace), DataW.trod enc P w base spare held fuel t cs = some x → ∃ ds, g ds ∧ RDs w ds cs

section
variable {P : Program} {t : TypeId}

theorem Opn.mono {g g' : List D → Prop} (h : Opn P t g) (hg : ∀ ds, g ds → g' ds) : Opn P t g' := fun H enc w base spare held fuel cs x hx =>
  let ⟨ds, h1, h2⟩ := h H enc w base spare held fuel cs x hx
  ⟨ds, hg ds h1, h2⟩

theorem opn_int {k : IntKind} (ht : P.underlying t = some (.int k)) : Opn P t fun ds => ∃ n, ds = [.v (.int k n)] ∧ (Lit.int k n).wf = true := by
  intro H enc w base spare held fuel cs x hx
  obtain ⟨n, rfl, _, hw⟩ := DataW.trod_int ht hx
  exact ⟨_, ⟨n, rfl, hw⟩, .one (.v _)⟩

theorem opn_bool (ht : P.underlying t = some .bool) : Opn P t fun ds => ∃ b, ds = [.v (.bool b)] := by
  intro H enc w base spare held fuel cs x hx
  obtain ⟨n, rfl, _⟩ := DataW.trod_bool ht hx
  exact ⟨_, ⟨n, rfl⟩, .one (.v _)⟩

theorem opn_string (ht : P.underlying t = some .string) : Opn P t fun ds => ∃ s : ByteArray, ds = [.v (.string s)] ∧ s.size ≤ maxLen := by
  intro H enc w base spare held fuel cs x hx
  obtain ⟨n, rfl, _, hw⟩ := DataW.trod_string ht hx
  exact ⟨_, ⟨n, rfl, hw⟩, .one (.v _)⟩

/-- parts one behind the other -/
def Goods : List (List D → Prop) → List D → Prop
  | [], ds => ds = []
  | g :: gs, ds => ∃ a b, ds = a ++ b ∧ g a ∧ Goods gs b

def fieldsAt (P : Program) (tot : Nat) : Nat → List Field → Bool
  | off, [] => Nat.beq off tot
  | off, f :: fs => Nat.beq f.offset off && fieldsAt P tot (off + P.cellsOf f.type) fs

inductive All2 {α β : Type} (r : α → β → Prop) : List α → List β → Prop
  | nil : All2 r [] []
  | cons {a : α} {b : β} {as0 : List α} {bs : List β} (h : r a b) (t : All2 r as0 bs) : All2 r (a :: as0) (b :: bs)

theorem fieldsAt_le {tot : Nat} : ∀ {fs : List Field} {off : Nat}, fieldsAt P tot off fs = true → off ≤ tot
  | [], off, h => by have := Nat.eq_of_beq_eq_true h; omega
  | f :: fs, off, h => by
    simp [fieldsAt] at h
    have := fieldsAt_le h.2
    omega

theorem opn_fields {H : Type} {enc : TypeId × Value → H} {w : World} {base : Nat} {spare : Nat → Bool} {held : Bool} {fuel : Nat} {cs : List Value} :
    ∀ {fs : List Field} {gs : List (List D → Prop)} {off : Nat}, All2 (fun f g => Opn P f.type g) fs gs → fieldsAt P cs.length off fs = true →
      (∀ f ∈ fs, ∃ y, DataW.trod enc P w base spare held fuel f.type ((cs.drop f.offset).take (P.cellsOf f.type)) = some y) → ∃ ds, Goods gs ds ∧ RDs w ds (cs.drop off)
  | [], _, off, .nil, hf, _ => by
    have := Nat.eq_of_beq_eq_true hf
    refine ⟨[], rfl, ?_⟩
    rw [List.drop_eq_nil_of_le (by omega)]
    exact .nil w
  | f :: fs, _, off, .cons h hs, hf, hy => by
    simp [fieldsAt] at hf
    obtain ⟨h1, h2⟩ := hf
    have hle := fieldsAt_le h2
    obtain ⟨y, hy0⟩ := hy f (by simp)
    obtain ⟨a, ga, ra⟩ := h _ _ _ _ _ _ _ _ _ hy0
    obtain ⟨b, gb, rb⟩ := opn_fields hs h2 fun f' hf' => hy f' (List.mem_cons_of_mem _ hf')
    refine ⟨a ++ b, ⟨a, b, rfl, ga, gb⟩, ?_⟩
    have := ra.append rb
    rwa [h1, ← List.drop_drop, List.take_append_drop] at this

theorem opn_struct {fs : Array Field} {gs : List (List D → Prop)} (ht : P.underlying t = some (.struct fs)) (hat : fieldsAt P (P.cellsOf t) 0 fs.toList = true) (h : All2 (fun f g => Opn P f.type g) fs.toList gs) : Opn P t (Goods gs) := by
  intro H enc w base spare held fuel cs x hx
  obtain ⟨xs, n, _, _, hlen, hxl, hf⟩ := DataW.trod_struct ht hx
  rw [← hlen] at hat
  have := opn_fields (H := H) (enc := enc) (w := w) (base := base) (spare := spare) (held := held) (fuel := n) (cs := cs) (off := 0) h hat ?_
  · simpa using this
  intro f hm
  obtain ⟨i, hi⟩ := List.getElem?_of_mem hm
  have hi' : fs[i]? = some f := by simpa using hi
  have hlt : i < xs.length := by rw [hxl]; exact (Array.getElem?_eq_some_iff.1 hi').1
  exact ⟨xs[i], (hf i f hi').trans (List.getElem?_eq_getElem hlt)⟩

theorem opn_elems {H : Type} {enc : TypeId × Value → H} {w : World} {base : Nat} {spare : Nat → Bool} {held : Bool} {fuel : Nat} {cs : List Value} {e : TypeId} {g : List D → Prop} (h : Opn P e g) :
    ∀ (n i : Nat), cs.length = (i + n) * P.cellsOf e → (∀ k, i ≤ k → k < i + n → ∃ y, DataW.trod enc P w base spare held fuel e ((cs.drop (k * P.cellsOf e)).take (P.cellsOf e)) = some y) → ∃ ds, Goods (List.replicate n g) ds ∧ RDs w ds (cs.drop (i * P.cellsOf e))
  | 0, i, hl, _ => by
    refine ⟨[], rfl, ?_⟩
    rw [List.drop_eq_nil_of_le (by simp at hl; omega)]
    exact .nil w
  | n + 1, i, hl, hy => by
    obtain ⟨y, hy0⟩ := hy i (Nat.le_refl _) (by omega)
    obtain ⟨a, ga, ra⟩ := h _ _ _ _ _ _ _ _ _ hy0
    obtain ⟨b, gb, rb⟩ := opn_elems h n (i + 1) (by rw [hl]; congr 1; omega) fun k hk hk' => hy k (by omega) (by omega)
    refine ⟨a ++ b, ⟨a, b, rfl, ga, gb⟩, ?_⟩
    have := ra.append rb
    rwa [show (i + 1) * P.cellsOf e = i * P.cellsOf e + P.cellsOf e from Nat.succ_mul _ _, ← List.drop_drop, List.take_append_drop] at this

theorem opn_array {n : Nat} {e : TypeId} {g : List D → Prop} (ht : P.underlying t = some (.array n e)) (hc : P.cellsOf t = n * P.cellsOf e) (h : Opn P e g) : Opn P t (Goods (List.replicate n g)) := by
  intro H enc w base spare held fuel cs x hx
  obtain ⟨xs, m, _, _, hlen, hxl, hf⟩ := DataW.trod_array ht hx
  have := opn_elems (cs := cs) (w := w) (enc := enc) (base := base) (spare := spare) (held := held) (fuel := m) h n 0 (by rw [hlen, hc]; simp) fun k _ hk => ⟨xs[k]'(by omega), (hf k (by omega)).trans (List.getElem?_eq_getElem (by omega))⟩
  simpa using this

theorem add_none (b off n : Nat) : (⟨b, off, none⟩ : Addr).add n = ⟨b, off + n, none⟩ := by
  unfold Addr.add
  split <;> simp_all

theorem opn_slice {e : TypeId} {g : List D → Prop} {sz : Nat} (d0 : List D) (ht : P.underlying t = some (.slice e)) (hC : P.cellsOf e = sz) (hsz : 0 < sz) (h : Opn P e g) (h0 : g d0) : Opn P t fun ds => ∃ n row, ds = [.sl none sz n row] ∧ n ≤ maxLen ∧ ∀ i, g (row i) := by
  intro H enc w base spare held fuel cs x hx
  rcases open_slice ht hx with ⟨rfl, _⟩ | ⟨a, len, cap, m, n, DD, Pl, rfl, hb, hl, hm, hmm, _, hi⟩
  · exact ⟨_, ⟨0, fun _ => d0, rfl, by simp, fun _ => h0⟩, .one (.zero none 0 (.inl rfl) fun _ => rfl)⟩
  · have hml : len ≤ m := by rw [hmm]; split <;> omega
    have key : ∀ i, ∃ ds, g ds ∧ (i < len → ∃ cs', cs'.length = sz ∧ (∀ k, k < sz → w.cell? (a.add (i * sz + k)) = some (cs'.getD k Go.undef)) ∧ RDs w ds cs') := by
      intro i
      by_cases hil : i < len
      · obtain ⟨cs', h1, h2⟩ := hi i (by omega)
        rw [hC] at h1
        obtain ⟨_, hcl, hat⟩ := World.cells?_some h1
        obtain ⟨ds, g1, g2⟩ := h _ _ _ _ _ _ _ _ _ h2
        refine ⟨ds, g1, fun _ => ⟨cs', hcl, fun k hk => ?_, g2⟩⟩
        have := hat k hk
        rw [← Go.Deep.add_add, this, List.getD_eq_getElem?_getD, List.getElem?_eq_getElem (by omega)]
        rfl
      · exact ⟨d0, h0, fun hh => absurd hh hil⟩
    obtain ⟨row, hgr⟩ : ∃ row : Nat → List Abs.D, ∀ i, g (row i) ∧ (i < len → ∃ cs', cs'.length = sz ∧ (∀ k, k < sz → w.cell? (a.add (i * sz + k)) = some (cs'.getD k Go.undef)) ∧ RDs w (row i) cs') := ⟨fun i => (key i).choose, fun i => (key i).choose_spec⟩
    have hg := fun i => (hgr i).1
    have hrow := fun i => (hgr i).2
    refine ⟨_, ⟨len, row, rfl, by omega, hg⟩, .one ?_⟩
    rcases Nat.eq_zero_or_pos len with hz | hp
    · subst hz
      exact .zero (some a) cap (.inl rfl) (by simp)
    · have hcell : ∀ i, i < len → ∃ cs', cs'.length = sz ∧ (∀ k, k < sz → w.cell? (a.add (i * sz + k)) = some (cs'.getD k Go.undef)) ∧ RDs w (row i) cs' := fun i hi => hrow i hi
      obtain ⟨c0, _, hc0, _⟩ := hcell 0 hp
      have h00 := hc0 0 hsz
      obtain ⟨b, off, spot⟩ := a
      have hspot : spot = none := by simpa [Addr.add] using World.cell?_spot h00
      subst hspot
      have hlt : b < w.heap.size := by
        rcases Nat.lt_or_ge b w.heap.size with hlt | hge
        · exact hlt
        · simp [World.cell?, Addr.add, hge] at h00
      refine .sl ⟨b, off, none⟩ cap (fun i k => (w.cell? ⟨b, off + i * sz + k, none⟩).getD Go.undef) (.inl rfl) hl rfl hlt (by simp) (fun i hi => ?_) (fun i hi k hk => ?_) (fun i hi k hk => ?_)
      · obtain ⟨c, k1, k2, k3⟩ := hcell i hi
        rw [← k3.1, k1]
      · obtain ⟨c, k1, k2, k3⟩ := hcell i hi
        have := k2 k hk
        rw [add_none] at this
        rw [Nat.add_assoc]
        rw [this]; rfl
      · obtain ⟨c, k1, k2, k3⟩ := hcell i hi
        have := k2 k hk
        rw [add_none] at this
        rw [Nat.add_assoc, this]
        exact k3.2 k (by rw [← k3.1, k1]; exact hk)

end

/-! arguments -/
section
variable {P : Program} {t : TypeId} {H : Type} {enc : TypeId × Value → H} {w : World} {base : Nat} {spare : Nat → Bool} {held : Bool} {v : Value} {d : DataW H} {p : List MemPlace} {r : Reach} {b0 : Nat} {g : List D → Prop}

theorem arg_agg (h : Opn P t g) (hv : ∃ cs, v = .agg cs) (hd : DataW.Trod enc P w base spare held t v d p) : ∃ ds, g ds ∧ R w [] (.agg (ds.map .d)) v := by
  obtain ⟨cs, rfl⟩ := hv
  obtain ⟨fuel, hf⟩ := hd
  obtain ⟨ds, h1, h2⟩ := h _ _ _ _ _ _ _ _ _ hf
  refine ⟨ds, h1, .agg cs (by have := h2.1; simpa [Value.cells] using this) fun k hk => ?_⟩
  have hk' : k < ds.length := by simpa using hk
  have := h2.2 k hk'
  have e1 : (ds.map AV.d).getD k .undef = AV.d (ds.getD k default) := by simp [List.getD_eq_getElem?_getD, hk']
  rw [e1]
  refine .d ?_
  simpa [Value.cells, Array.getD_eq_getD_getElem?, List.getD_eq_getElem?_getD] using this

theorem arg_struct {x : Array Field} (hs : P.underlying t = some (.struct x)) (h : Opn P t g) (hv : Value.okWide P w r b0 t v) (hd : DataW.Trod enc P w base spare held t v d p) : ∃ ds, g ds ∧ R w [] (.agg (ds.map .d)) v := by
  obtain ⟨cs, rfl, _⟩ := okWide_struct hs hv
  exact arg_agg h ⟨cs, rfl⟩ hd

theorem arg_array {n : Nat} {e : TypeId} (hs : P.underlying t = some (.array n e)) (h : Opn P t g) (hv : Value.okWide P w r b0 t v) (hd : DataW.Trod enc P w base spare held t v d p) : ∃ ds, g ds ∧ R w [] (.agg (ds.map .d)) v := by
  have hv' : ∃ cs, v = .agg cs ∧ cs.size = P.cellsOf t ∧ Row.okWide P w r b0 t cs := by
    unfold Value.okWide at hv
    rw [hs] at hv
    exact hv
  obtain ⟨cs, rfl, _⟩ := hv'
  exact arg_agg h ⟨cs, rfl⟩ hd

/-- a value of one cell -/
theorem arg_one (hc : v.cells = #[v]) {x : D → Prop} (h : Opn P t fun ds => ∃ y, ds = [y] ∧ x y) (hd : DataW.Trod enc P w base spare held t v d p) : ∃ y, x y ∧ R w [] (.d y) v := by
  obtain ⟨fuel, hf⟩ := hd
  rw [hc] at hf
  obtain ⟨ds, ⟨y, rfl, hx⟩, h2⟩ := h _ _ _ _ _ _ _ _ _ hf
  exact ⟨y, hx, .d (h2.2 0 (by simp))⟩

theorem arg_int {k : IntKind} (ht : P.underlying t = some (.int k)) (hv : Value.okWide P w r b0 t v) (hd : DataW.Trod enc P w base spare held t v d p) : ∃ n, (Lit.int k n).wf = true ∧ R w [] (.d (.v (.int k n))) v := by
  obtain ⟨n, rfl, _, _, hw⟩ := open_int ht hv hd
  exact ⟨n, hw, .d (.v _)⟩

theorem arg_bool (ht : P.underlying t = some .bool) (hv : Value.okWide P w r b0 t v) (hd : DataW.Trod enc P w base spare held t v d p) : ∃ b, R w [] (.d (.v (.bool b))) v := by
  obtain ⟨b, rfl, _⟩ := open_bool ht hv hd
  exact ⟨b, .d (.v _)⟩

theorem arg_slice {e : TypeId} {x : D → Prop} (ht : P.underlying t = some (.slice e)) (h : Opn P t fun ds => ∃ y, ds = [y] ∧ x y) (hv : Value.okWide P w r b0 t v) (hd : DataW.Trod enc P w base spare held t v d p) : ∃ y, x y ∧ R w [] (.d y) v := by
  obtain ⟨a, len, cap, rfl⟩ := okWide_slice ht hv
  exact arg_one rfl h hd

theorem arg_string (ht : P.underlying t = some .string) (hv : Value.okWide P w r b0 t v) (hd : DataW.Trod enc P w base spare held t v d p) : ∃ s : ByteArray, s.size ≤ maxLen ∧ R w [] (.d (.v (.string s))) v := by
  obtain ⟨s, rfl, _, _, hw⟩ := Go.ChangeMaps.open_string ht hv hd
  exact ⟨s, hw, .d (.v _)⟩

end

theorem rs_nil (w : World) : Rs w [] [] #[] := ⟨rfl, by simp⟩
theorem Rs.of_list {w : World} {avs : List AV} {vs : List Value} (hl : vs.length = avs.length) (h : ∀ k, k < avs.length → R w [] (avs.getD k .undef) (vs.getD k Go.undef)) : Rs w [] avs vs.toArray :=
  ⟨by simpa using hl, fun k hk => by simpa [Array.getD_eq_getD_getElem?, List.getD_eq_getElem?_getD] using h k hk⟩

theorem Rs.cons {w : World} {x : AV} {v : Value} {xs : List AV} {vs : List Value} (h : R w [] x v) (t : Rs w [] xs vs.toArray) : Rs w [] (x :: xs) (v :: vs).toArray :=
  ⟨by have := t.1; simpa using this, fun k hk => by
    cases k with
    | zero => simpa using h
    | succ k => have := t.2 k (by simpa using hk); simpa using this⟩

/-- a law that returns true, as the row wants it -/
theorem law_calls {P : Program} {f : FuncId} {avs : List AV} {args : Array Value} {w : World} (h : CSF P f avs [] (.d (.v (.bool true)))) (hr : Rs w [] avs args) : Calls P f args w fun e w' => e = .returned (.bool true) ∧ Below w.heap.size w w' := by
  refine (h.2 [] w args ⟨rfl, by simp, by simp, by simp⟩ hr).mono ?_
  rintro e w' ⟨v, r, σ', j', X, rfl, h1, h2, h3, h4, h5, rfl, rfl, rfl⟩
  cases h2 with
  | d h2 =>
    cases h2
    exact ⟨rfl, ⟨h3.os, h3.tape, h3.output, h3.size, fun k hk => h3.keep k hk (by simp)⟩⟩

end Go.Abs

/-! Axl -/
namespace Go.Abs
set_option linter.unusedVariables false
set_option linter.unusedSimpArgs false

def isSt (o : Oper) : Bool := match o.op, o.guard, o.dst with
  | .store _ _ _, none, none => true
  | _, _, _ => false
def lateOk (ops : List Oper) (m ist : Nat) : Bool :=
  Nat.blt ist m && (match ops[ist]? with
    | some o => isSt o && (List.range m).all (fun q => Nat.ble q ist || (match ops[q]? with
        | some oq => (match oq.dst with
          | some d => !(looks ops o).contains d
          | none => true)
        | none => true))
    | none => false)

/-- the store behind the part that computes -/
def lateA (P : Program) (ops : List Oper) (ist : Nat) (s : St) (K : List Blk → Prop) : Prop :=
  match nthOp ops ist with
  | some os => (match os.op with
    | .store t' p v => arg true s p fun pv => arg true s v fun av => (match tyA P t' with
      | some (_, m) => allOne (cellsOf av) = true ∧ (cellsOf av).length = m ∧ (match storeBlk s.σ pv (cellsOf av) with
        | some (c, σ2) => c ∧ K σ2
        | none => False)
      | none => False)
    | _ => False)
  | none => False

def cur (ist : Nat) (σ σ2 : List Blk) (listed : Array Bool) : List Blk := if listed.getD ist false then σ2 else σ

structure InvL (s : St) (ops : List Oper) (m ist : Nat) (σ2 : List Blk) (t1 : List (Nat × AV)) (j0 : J0) (listed : Array Bool) (j : Js) (a : Act) (w : World) : Prop where
  defers : Marks j0.n0 w j a.defers
  rdok : ∀ l, j0.rd = some l → ∃ r, w.heap[l]? = some (.loop r)
  size : a.tmps.size = s.N
  sto : RelS w j (cur ist s.σ σ2 listed)
  len0 : j0.js.length ≤ j.length
  ag : Ag j0.js j s.mv
  lsize : listed.size = ops.length
  lB : ∀ k, m ≤ k → k < ops.length → ∀ b, listed.getD k b = false
  cl : ∀ q oq, q < m → ops[q]? = some oq → listed.getD q true = true → ∀ e ∈ oq.after, Region.binds .any e = true → listed.getD e.on false = true
  c1 : ∀ q oq k av, q < m → ops[q]? = some oq → oq.dst = some k → listed.getD q true = true → get t1 k = some av → k < s.N ∧ R w j av (a.tmps.getD k Go.undef)
  c2 : ∀ k av, (∀ q oq, q < m → ops[q]? = some oq → oq.dst = some k → listed.getD q true = false) → get s.t k = some av → k < s.N ∧ R w j av (a.tmps.getD k Go.undef)

section
variable {P : Program} {ops : List Oper} {m ist : Nat}

/-- what the operations of the part that computes come to, whether it is stored or not -/
structure PureL (P : Program) (s : St) (ops : List Oper) (m ist : Nat) (σ2 : List Blk) (t1 : List (Nat × AV)) : Prop where
  at_ : ∀ listed : Array Bool, ∃ xs : Nat → AV, (stAt s (ops.take m) xs m).t = t1 ∧
    ∀ i o, i < m → ops[i]? = some o → i ≠ ist → Local P ops o ⟨s.N, (stAt s (ops.take m) xs i).t, cur ist s.σ σ2 listed, s.mv⟩ (xs i)

theorem stAt_sto (s : St) (σ' : List Blk) (os : List Oper) (xs : Nat → AV) : ∀ i, stAt ⟨s.N, s.t, σ', s.mv⟩ os xs i = ⟨s.N, (stAt s os xs i).t, σ', s.mv⟩
  | 0 => rfl
  | i + 1 => by
    simp only [stAt, stAt_sto s σ' os xs i]
    have hf := stAt_fields s os xs i
    split
    · rename_i o _
      cases o.dst with
      | none => rfl
      | some d =>
        simp only [St.put, hf.1]
        split <;> rfl
    · rfl

theorem InvL.looks_rel (hok : drawOk ops m = true) (hmn : m ≤ ops.length) {s : St} {σ2 : List Blk} {t1 : List (Nat × AV)} {j0 : J0} {listed : Array Bool} {j : Js} {a : Act} {w : World}
    (hI : InvL s ops m ist σ2 t1 j0 listed j a w) {xs : Nat → AV} (hxs : (stAt s (ops.take m) xs m).t = t1) {i : Nat} {o : Oper} (him : i < m) (ho : ops[i]? = some o) (h0 : listed.getD i true = false)
    (hall : ∀ e ∈ o.after, Region.binds .any e = true → listed.getD e.on false = true) {k : Nat} {av : AV} (hkl : k ∈ looks ops o) (hk : get (stAt s (ops.take m) xs i).t k = some av) : k < s.N ∧ R w j av (a.tmps.getD k Go.undef) := by
  have hokA := okA_spec ((drawOk_spec hok ho).2.1 him)
  have hil : i < ops.length := by omega
  by_cases hw : ∃ q oq, q < i ∧ ops[q]? = some oq ∧ oq.dst = some k
  · obtain ⟨q, oq, hq, hqo, hqd⟩ := hw
    have hdep := (hokA.1 k hkl q oq hqo hqd).1 hq
    obtain ⟨e, he1, he2, he3⟩ := depB_spec hdep
    have hlq := hall e he1 he3
    rw [he2, getD_tf hI.lsize (by omega)] at hlq
    rw [get_writ hok hmn (by omega) hqo hqd hq (by omega)] at hk
    have hk1 : get t1 k = some av := by
      rw [← hxs, get_writ hok hmn (by omega) hqo hqd (by omega) (Nat.le_refl _)]; exact hk
    exact hI.c1 q oq k av (by omega) hqo hqd hlq hk1
  · rw [get_unwrit (by omega) hw] at hk
    refine hI.c2 k av (fun q oq h1 h2 h3 => ?_) hk
    rcases Nat.lt_trichotomy q i with h | h | h
    · exact absurd ⟨q, oq, h, h2, h3⟩ hw
    · subst h; exact h0
    · have hdep := (hokA.1 k hkl q oq h2 h3).2 h
      obtain ⟨e, he1, he2, he3⟩ := depB_spec hdep
      by_cases hb : listed.getD q true = true
      · have := hI.cl q oq h1 h2 hb e he1 he3
        rw [he2, getD_tf hI.lsize hil, h0] at this; cases this
      · simpa using hb

structure LateS (P : Program) (ops : List Oper) (m ist : Nat) (s : St) (t1 : List (Nat × AV)) (σ2 : List Blk) : Prop where
  lt : ist < m
  st : ∃ os t p v agg pv av c, ops[ist]? = some os ∧ os.op = .store t p v ∧ os.guard = none ∧ os.dst = none ∧ (∀ q oq k, ist < q → q < m → ops[q]? = some oq → oq.dst = some k → k ∉ looks ops os) ∧
    tyA P t = some (agg, (cellsOf av).length) ∧ allOne (cellsOf av) = true ∧ storeBlk s.σ pv (cellsOf av) = some (c, σ2) ∧ c ∧ Arg true ((⟨s.N, t1, s.σ, s.mv⟩ : St).restr (looks ops os)) p pv ∧ Arg true ((⟨s.N, t1, s.σ, s.mv⟩ : St).restr (looks ops os)) v av

theorem phaseL (hok : drawOk ops m = true) (hmn : m ≤ ops.length) {Q : Exit → St → Prop} {j0 : J0} {j1 : Js} {w1 : World} {s : St} {t1 : List (Nat × AV)} {σ2 : List Blk}
    (hW : LateS P ops m ist s t1 σ2) (hP : PureL P s ops m ist σ2 t1)
    (hK : evalOps P false ops (ops.drop m) ⟨s.N, t1, σ2, s.mv⟩ (Q .normal)) :
    ∀ (fuel : Nat) (j : Js) (a : Act) (w : World) (listed : Array Bool), left listed ops.length = fuel → InvL s ops m ist σ2 t1 j0 listed j a w → Ev j1 w1 j w → wpAnyIn (FW j0.rd) 0 P .any ops.toArray (APost j0 j1 w1 Q) fuel listed a w := by
  have fin : ∀ (j : Js) (a : Act) (w : World) (listed : Array Bool), (∀ q, q < m → listed.getD q true = true) → InvL s ops m ist σ2 t1 j0 listed j a w → Rel j0 ⟨s.N, t1, σ2, s.mv⟩ j a w := by
    intro j a w listed hdone hI
    have hia : listed.getD ist false = true := by rw [getD_tf hI.lsize (by have := hW.lt; omega)]; exact hdone ist hW.lt
    have htau : cur ist s.σ σ2 listed = σ2 := by simp only [cur, hia, if_true]
    refine ⟨hI.defers, hI.rdok, hI.size, fun k av hk => ?_, by have := hI.sto; rw [htau] at this; exact this, hI.len0, hI.ag⟩
    by_cases hw : ∃ q oq, q < m ∧ ops[q]? = some oq ∧ oq.dst = some k
    · obtain ⟨q, oq, hq, hqo, hqd⟩ := hw
      exact hI.c1 q oq k av hq hqo hqd (hdone q hq) hk
    · obtain ⟨xs, hxs, _⟩ := hP.at_ listed
      have hk' : get t1 k = some av := hk
      rw [← hxs, get_unwrit (Nat.le_refl _) hw] at hk'
      exact hI.c2 k av (fun q oq h1 h2 h3 => absurd ⟨q, oq, h1, h2, h3⟩ hw) hk'
  intro fuel
  induction fuel with
  | zero =>
    intro j a w listed hf hI he
    have hall : ∀ k, k < ops.length → listed.getD k true = true := by
      intro k hk
      by_cases hb : listed.getD k true = true
      · exact hb
      · have : k ∈ (List.range ops.length).filter fun k => !listed.getD k true := by
          rw [List.mem_filter]; exact ⟨by simpa using hk, by simpa using hb⟩
        have h0 : (List.range ops.length).filter (fun k => !listed.getD k true) = [] := List.length_eq_zero_iff.1 hf
        rw [h0] at this; simp at this
    have hme : m = ops.length := by
      rcases Nat.lt_or_ge m ops.length with h | h
      · have := hall m h; rw [hI.lB m (Nat.le_refl _) h] at this; simp at this
      · omega
    exact phaseB hok 0 m _ j a w listed (by omega) (Nat.le_refl _) (by omega) hI.lsize (fun k hk b => by
      have h1 := hall k hk
      have hsz : k < listed.size := by rw [hI.lsize]; exact hk
      have h2 : listed[k] = true := by simpa [hsz] using h1
      simp [hsz, h2, show k < m by omega]) (fin j a w listed (fun q hq => hall q (by omega)) hI) he hK
  | succ fuel ih =>
    intro j a w listed hf hI he
    by_cases hdone : ∀ q, q < m → listed.getD q true = true
    · have hL : ∀ k, k < ops.length → ∀ b, listed.getD k b = decide (k < m) := by
        intro k hk b
        rcases Nat.lt_or_ge k m with h | h
        · have h1 := hdone k h
          have hsz : k < listed.size := by rw [hI.lsize]; exact hk
          have h2 : listed[k] = true := by simpa [hsz] using h1
          simp [hsz, h2, h]
        · rw [hI.lB k h hk]; simp; omega
      have hfuel : fuel + 1 = ops.length - m := by
        rw [← hf]
        unfold left
        have gen : ∀ n, n ≤ ops.length → ((List.range n).filter fun k => !listed.getD k true).length = n - m := by
          intro n
          induction n with
          | zero => simp
          | succ n ihn =>
            intro hn
            rw [List.range_succ, List.filter_append, List.length_append, ihn (by omega)]
            have h1 := hL n (by omega) true
            by_cases hnm : n < m
            · have : (List.filter (fun k => !listed.getD k true) [n]).length = 0 := by
                rw [List.filter_cons_of_neg (by rw [h1]; simp [hnm])]; simp
              omega
            · have : (List.filter (fun k => !listed.getD k true) [n]).length = 1 := by
                rw [List.filter_cons_of_pos (by rw [h1]; simp; omega)]; simp
              omega
        exact gen _ (Nat.le_refl _)
      exact phaseB hok (fuel + 1) m _ j a w listed hfuel.symm (Nat.le_refl _) (by omega) hI.lsize hL (fin j a w listed hdone hI) he hK
    · have hex : ∃ q, q < m ∧ listed.getD q true = false ∧ ∀ p, p < q → listed.getD p true = true := by
        have hex0 : ∃ q, q < m ∧ listed.getD q true = false := by
          apply Classical.byContradiction
          intro hne
          apply hdone
          intro q hq
          by_cases hb : listed.getD q true = true
          · exact hb
          · exact absurd ⟨q, hq, by simpa using hb⟩ hne
        obtain ⟨q, hq1, hq2⟩ := hex0
        induction q using Nat.strongRecOn with
        | _ q ihq =>
          by_cases hall : ∀ p, p < q → listed.getD p true = true
          · exact ⟨q, hq1, hq2, hall⟩
          · have : ∃ p, p < q ∧ listed.getD p true = false := by
              apply Classical.byContradiction
              intro hne
              apply hall
              intro p hp
              by_cases hb : listed.getD p true = true
              · exact hb
              · exact absurd ⟨p, hp, by simpa using hb⟩ hne
            obtain ⟨p, hp1, hp2⟩ := this
            exact ihq p hp1 (by omega) hp2
      obtain ⟨q0, hq0, hq0l, hq0all⟩ := hex
      have hlt0 : q0 < ops.length := by omega
      have hready : q0 ∈ Region.ready .any ops.toArray listed := by
        rw [mem_ready]
        refine ⟨hq0l, ops[q0], by simp [hlt0], fun e he hb => ?_⟩
        have h1 := (drawOk_spec hok (i := q0) (o := ops[q0]) (by simp [hlt0])).1 e he hb
        rw [getD_tf hI.lsize (by omega)]
        exact hq0all e.on h1
      refine ⟨fun h0 => by rw [h0] at hready; simp at hready, fun i hi => ?_⟩
      rw [mem_ready] at hi
      obtain ⟨h0, o, ho, hall⟩ := hi
      have ho' : ops[i]? = some o := by simpa using ho
      have hil : i < ops.length := lt_of_getElem? ho'
      have him : i < m := by
        rcases Nat.lt_or_ge i m with h | h
        · exact h
        · have := depT_near (L := fun q => listed.getD q false) (fun q h1 h2 => hI.lB q h1 h2 false) (fun q oq h1 h2 h3 e he1 he2 => hI.cl q oq h1 h2 (by
            have hsz : q < listed.size := by rw [hI.lsize]; omega
            have h4 : listed[q] = true := by simpa [hsz] using h3
            simp [hsz, h4]) e he1 he2) ((drawOk_spec hok ho').2.2 h q0 (by omega)) hall
          simp only [getD_tf hI.lsize hlt0, hq0l] at this; cases this
      have hokA := okA_spec ((drawOk_spec hok ho').2.1 him)
      have hset0 : left (listed.setIfInBounds i true) ops.length = fuel := by
        have := left_set hI.lsize hil h0; omega
      have hszi : i < listed.size := by rw [hI.lsize]; exact hil
      have hseti : ∀ b, (listed.setIfInBounds i true).getD i b = true := by intro b; simp [hszi]
      -- the step, whatever it was
      have step : ∀ (j' : Js) (w' : World) (v : Value), RelS w' j' (cur ist s.σ σ2 (listed.setIfInBounds i true)) → Ev j w j' w' → Ag j j' [] → j.length ≤ j'.length →
          (∀ k av, o.dst = some k → get t1 k = some av → k < s.N ∧ R w' j' av v) → wpAnyIn (FW j0.rd) 0 P .any ops.toArray (APost j0 j1 w1 Q) fuel (listed.setIfInBounds i true) (a.put o.dst v) w' := by
        intro j' w' v hsto hev hagj hlj hv
        have oth : ∀ {k}, o.dst ≠ some k → (a.put o.dst v).tmps.getD k Go.undef = a.tmps.getD k Go.undef := by
          intro k hne
          cases hd : o.dst with
          | none => rfl
          | some d =>
            have hdk : d ≠ k := fun h => hne (by rw [hd, h])
            simp [Act.put, Array.getD_eq_getD_getElem?, Array.getElem?_setIfInBounds, hdk]
        refine ih j' _ w' _ hset0 ⟨?_, fun l hl => (by obtain ⟨r, hr⟩ := hI.rdok l hl; exact hev.lps l r hr), ?_, hsto, Nat.le_trans hI.len0 hlj, ?_, by simpa using hI.lsize, ?_, ?_, ?_, ?_⟩ (he.trans hev)
        · have := hI.defers.mono hev
          cases hd : o.dst <;> simpa [Act.put] using this
        · cases hd : o.dst <;> simp [Act.put, hI.size]
        · intro b hb hn
          rw [hagj b (by have := hI.len0; omega) (by simp)]
          exact hI.ag b hb hn
        · intro k hk1 hk2 b
          rw [getD_set_ne b (by omega)]; exact hI.lB k hk1 hk2 b
        · intro q oq hq hqo hl e he1 he2
          by_cases hqi : i = q
          · subst hqi
            have : oq = o := by rw [ho'] at hqo; exact (Option.some.inj hqo).symm
            subst this
            exact getD_set_true (hall e he1 he2)
          · rw [getD_set_ne true hqi] at hl
            exact getD_set_true (hI.cl q oq hq hqo hl e he1 he2)
        · intro q oq k av hq hqo hqd hl hk
          by_cases hqi : i = q
          · subst hqi
            have : oq = o := by rw [ho'] at hqo; exact (Option.some.inj hqo).symm
            subst this
            have h1 := hv k av hqd hk
            simp only [Act.put, hqd]
            rw [R_setIfInBounds (w := w) (j := j) (by rw [hI.size]; exact h1.1), if_pos rfl]; exact h1
          · rw [getD_set_ne true hqi] at hl
            have h1 := hI.c1 q oq k av hq hqo hqd hl hk
            rw [oth (fun hd => hokA.2 q oq k hq (fun h => hqi h.symm) hqo hd hqd)]
            exact ⟨h1.1, h1.2.mono0 hev hI.sto.lt hagj⟩
        · intro k av hk hg
          have hne : o.dst ≠ some k := fun hd => by
            have := hk i o him ho' hd
            rw [hseti] at this; cases this
          have h1 := hI.c2 k av (fun q oq h1 h2 h3 => by
            have hqi : i ≠ q := fun h => by subst h; rw [ho'] at h2; cases h2; exact hne h3
            have := hk q oq h1 h2 h3
            rwa [getD_set_ne true hqi] at this) hg
          rw [oth hne]; exact ⟨h1.1, h1.2.mono0 hev hI.sto.lt hagj⟩
      simp only [wpOpIn, ho]
      · by_cases his : i = ist
        · -- it is stored
          subst his
          obtain ⟨os, t, p, v, agg, pv, av, c, hos, hop, hgd, hdst, hlate, hty, hone, hst, hc, hp, hv⟩ := hW.st
          obtain rfl : o = os := by rw [ho'] at hos; exact Option.some.inj hos
          have hni : listed.getD i false = false := by rw [getD_tf hI.lsize hil]; exact h0
          have hsto := hI.sto
          have htau : cur i s.σ σ2 listed = s.σ := by simp only [cur, hni]; rfl
          rw [htau] at hsto
          have hr : Rel j0 ((⟨s.N, t1, s.σ, s.mv⟩ : St).restr (looks ops o)) j a w := by
            refine ⟨hI.defers, hI.rdok, hI.size, fun k av hk => ?_, hsto, hI.len0, hI.ag⟩
            simp only [St.restr, get_restr] at hk
            split at hk
            · rename_i hkl
              have hkl : k ∈ looks ops o := by simpa using hkl
              by_cases hw : ∃ q oq, q < m ∧ ops[q]? = some oq ∧ oq.dst = some k
              · obtain ⟨q, oq, hq, hqo, hqd⟩ := hw
                have hqi : q < i := by
                  rcases Nat.lt_trichotomy q i with h | h | h
                  · exact h
                  · subst h; rw [ho'] at hqo; cases hqo; rw [hdst] at hqd; cases hqd
                  · exact absurd hkl (hlate q oq k h hq hqo hqd)
                obtain ⟨e, he1, he2, he3⟩ := depB_spec ((hokA.1 k hkl q oq hqo hqd).1 hqi)
                have hlq := hall e he1 he3
                rw [he2, getD_tf hI.lsize (by omega)] at hlq
                exact hI.c1 q oq k av hq hqo hqd hlq hk
              · obtain ⟨xs, hxs, _⟩ := hP.at_ listed
                rw [← hxs, get_unwrit (Nat.le_refl _) hw] at hk
                exact hI.c2 k av (fun q oq h1 h2 h3 => absurd ⟨q, oq, h1, h2, h3⟩ hw) hk
            · simp at hk
          obtain ⟨w', h1, h2, h3⟩ := store_sound (P := P) hsto hty (hp rfl j0 j a w hr) (hv rfl j0 j a w hr) hone rfl hst hc
          have hrun : (execOp a.eval o).run P w = .ok .skip w' := by simp [execOp, hop, h1]
          have hw : Region.wanted o (yielded ops.toArray a.tmps) = true := by simp [Region.wanted, hgd]
          rw [if_pos hw]
          refine opw (by simp [hop]) hrun ?_
          refine step j w' _ ?_ h3 (.refl _ _) (Nat.le_refl _) (fun k av hk => by rw [hdst] at hk; cases hk)
          have : cur i s.σ σ2 (listed.setIfInBounds i true) = σ2 := by simp only [cur, hseti, if_true]
          rw [this]; exact h2
        · -- one that computes
          obtain ⟨xs, hxs, hloc⟩ := hP.at_ listed
          have hL := hloc i o him ho' his
          have hrel : Rel j0 ((⟨s.N, (stAt s (ops.take m) xs i).t, cur ist s.σ σ2 listed, s.mv⟩ : St).restr (looks ops o)) j a w := by
            refine ⟨hI.defers, hI.rdok, hI.size, fun k av hk => ?_, hI.sto, hI.len0, hI.ag⟩
            simp only [St.restr, get_restr] at hk
            split at hk
            · rename_i hkl
              exact hI.looks_rel hok hmn hxs him ho' h0 hall (by simpa using hkl) hk
            · simp at hk
          have htau : cur ist s.σ σ2 (listed.setIfInBounds i true) = cur ist s.σ σ2 listed := by
            simp only [cur, getD_set_ne false his]
          have hval : ∀ (w' : World) (v : Value), R w' j (xs i) v → ∀ k av, o.dst = some k → get t1 k = some av → k < s.N ∧ R w' j av v := by
            intro w' v hr k av hk hgt
            rw [← hxs, get_writ hok hmn him ho' hk him (Nat.le_refl _)] at hgt
            split at hgt
            · rename_i hlt
              obtain rfl : xs i = av := Option.some.inj hgt
              exact ⟨hlt, hr⟩
            · simp at hgt
          by_cases hw : Region.wanted o (yielded ops.toArray a.tmps) = true
          · rw [if_pos hw]
            exact hL.run j0 j a w _ _ hrel hw fun w' v h1 h2 h3 => step j w' v (by rw [htau]; exact h1) h2 (.refl _ _) (Nat.le_refl _) (hval w' v h3)
          · rw [if_neg hw]
            exact ⟨fun _ _ => trivial, step j w Go.undef (by rw [htau]; exact hI.sto) (.refl _ _) (.refl _ _) (Nat.le_refl _) (hval w _ (hL.skip j0 j a w hrel (by simpa using hw)))⟩

end

theorem lateOk_spec {ops : List Oper} {m ist : Nat} (h : lateOk ops m ist = true) : ist < m ∧ ∃ os t' p v, ops[ist]? = some os ∧ os.op = .store t' p v ∧ os.guard = none ∧ os.dst = none ∧ (∀ q oq k, ist < q → q < m → ops[q]? = some oq → oq.dst = some k → k ∉ looks ops os) := by
  unfold lateOk at h
  simp only [Bool.and_eq_true, Nat.blt_eq] at h
  obtain ⟨h1, h⟩ := h
  refine ⟨h1, ?_⟩
  split at h
  · rename_i os hos
    simp only [Bool.and_eq_true, List.all_eq_true, List.mem_range, Bool.or_eq_true, Nat.ble_eq] at h
    obtain ⟨g1, g3⟩ := h
    have g1' : ∃ t' p v, os.op = .store t' p v ∧ os.guard = none ∧ os.dst = none := by
      unfold isSt at g1
      split at g1
      · rename_i t' p v e4 e5 e6
        exact ⟨t', p, v, e4, e5, e6⟩
      · cases g1
    obtain ⟨t', p, v, e4, e5, e6⟩ := g1'
    refine ⟨os, t', p, v, hos, e4, e5, e6, fun q oq k hq hqm hqo hqd hkl => ?_⟩
    rcases g3 q hqm with h | h
    · omega
    · simp only [hqo, hqd, Bool.not_eq_true', List.contains_eq_mem, decide_eq_false_iff_not] at h
      exact h hkl
  · cases h

theorem awp_late {P : Program} {Q : Exit → St → Prop} {N : Nat} {t : List (Nat × AV)} {σ : List Blk} {mv : List Nat} {id : Nat} {ops : List Oper} (m ist : Nat) (hm : P.follows .mixedOrders = true) (hok : (drawOk ops m && Nat.ble m ops.length && lateOk ops m ist) = true) {t1 : List (Nat × AV)} {σ2 : List Blk}
    (h1 : ∀ K : St → Prop, (∀ σ' mv', K ⟨N, t1, σ', mv'⟩) → evalO P ops m ist 0 (ops.take m) 0 ⟨N, t, σ, mv⟩ K)
    (h2 : lateA P ops ist ⟨N, t1, σ, mv⟩ fun σ' => σ' = σ2)
    (h3 : ∀ K : St → Prop, (∀ σ' mv', K ⟨N, t1, σ', mv'⟩) → evalO P ops m ist 0 (ops.take m) 0 ⟨N, t, σ2, mv⟩ K)
    (h4 : evalOps P false ops (ops.drop m) ⟨N, t1, σ2, mv⟩ (Q .normal)) : AWP P (.region id ops.toArray true) Q ⟨N, t, σ, mv⟩ := by
  intro j0 j a w hr
  simp only [Bool.and_eq_true, Nat.ble_eq] at hok
  obtain ⟨⟨hok, hmn⟩, hlate⟩ := hok
  obtain ⟨hlt, os, t', p, v, g1, g2, g3, g4, g5⟩ := lateOk_spec hlate
  have hlen : (ops.take m).length = m := by simp; omega
  have hone : ∀ σx, (∀ K : St → Prop, (∀ σ' mv', K ⟨N, t1, σ', mv'⟩) → evalO P ops m ist 0 (ops.take m) 0 ⟨N, t, σx, mv⟩ K) →
      ∃ xs : Nat → AV, (stAt ⟨N, t, σ, mv⟩ (ops.take m) xs m).t = t1 ∧ ∀ i o, i < m → ops[i]? = some o → i ≠ ist → Local P ops o ⟨N, (stAt ⟨N, t, σ, mv⟩ (ops.take m) xs i).t, σx, mv⟩ (xs i) := by
    intro σx hx
    have h := hx (fun s' => s'.t = t1) (fun _ _ => rfl)
    obtain ⟨xs, hK, _, hloc⟩ := unrollO h (fun i o hi he => by
      have him : i < m := by have := lt_of_getElem? hi; omega
      rw [take_get him] at hi
      have he : i = ist := by omega
      subst he
      rw [g1] at hi; cases hi; exact g4)
    have hext := stAt_sto ⟨N, t, σ, mv⟩ σx (ops.take m) xs
    refine ⟨xs, ?_, fun i o him ho h4 => ?_⟩
    · rw [hlen, hext] at hK; exact hK
    · have := hloc i o (by rw [take_get him]; exact ho) (by omega) (by omega)
      rw [hext] at this; exact this
  have hP : PureL P ⟨N, t, σ, mv⟩ ops m ist σ2 t1 := ⟨fun listed => by
    unfold cur
    split
    · exact hone σ2 h3
    · exact hone σ h1⟩
  have hr' : Rel j0 ⟨N, t, σ, mv⟩ j a w.drew := hr.after (ev_drew j w) hr.sto.drew (Nat.le_refl _) (.refl _ [])
  have hf : ∀ k b, k < ops.length → (Array.replicate ops.toArray.size false).getD k b = false := by
    intro k b hk; simp [hk]
  unfold lateA at h2
  rw [nthOp_eq, g1] at h2
  simp only [g2] at h2
  have hmp : ∀ t, p = .tmp t → t ∈ looks ops os := fun t ht => List.mem_append.2 (.inl (mem_opTmps (x := p) (by simp [g2, Op.operands]) ht))
  have hmv : ∀ t, v = .tmp t → t ∈ looks ops os := fun t ht => List.mem_append.2 (.inl (mem_opTmps (x := v) (by simp [g2, Op.operands]) ht))
  rw [← arg_restr hmp] at h2
  obtain ⟨pv, h2, hp⟩ := arg_sound h2
  rw [← arg_restr hmv] at h2
  obtain ⟨av, h2, hv⟩ := arg_sound h2
  split at h2
  · rename_i agg mm hty
    obtain ⟨k1, k2, h2⟩ := h2
    split at h2
    · rename_i c σ2' hst
      obtain ⟨hc, rfl⟩ := h2
      have hW : LateS P ops m ist ⟨N, t, σ, mv⟩ t1 σ2' := ⟨hlt, os, t', p, v, agg, pv, av, c, g1, g2, g3, g4, g5, by rw [k2]; exact hty, k1, hst, hc, hp, hv⟩
      refine wpIn_region_any hm ?_
      refine phaseL hok hmn hW hP h4 _ j a w.drew _ ?_ ⟨hr'.defers, hr'.rdok, hr'.size, ?_, hr'.len0, hr'.ag, by simp, fun k _ hk b => hf k b hk, fun q oq hq hqo hl => ?_, fun q oq k av hq hqo hd hl => ?_, fun k av _ hk => hr'.tmp k av hk⟩ (ev_drew j w)
      · unfold left
        have : (List.range ops.length).filter (fun k => !(Array.replicate ops.toArray.size false).getD k true) = List.range ops.length := by
          apply List.filter_eq_self.2
          intro k hk
          rw [hf k true (by simpa using hk)]; rfl
        rw [this]; simp
      · have : cur ist σ σ2' (Array.replicate ops.toArray.size false) = σ := by simp only [cur, hf ist false (by omega)]; rfl
        rw [this]; exact hr'.sto
      · rw [hf q true (by omega)] at hl; cases hl
      · rw [hf q true (by omega)] at hl; cases hl
    · exact h2.elim
  · exact h2.elim

theorem awp_late_seq {P : Program} {Q : Exit → St → Prop} {N : Nat} {t : List (Nat × AV)} {σ : List Blk} {mv : List Nat} {id : Nat} {ops : List Oper} {y : Code} (m ist : Nat) (hm : P.follows .mixedOrders = true) (hok : (drawOk ops m && Nat.ble m ops.length && lateOk ops m ist) = true) {t1 : List (Nat × AV)} {σ2 : List Blk}
    (h1 : ∀ K : St → Prop, (∀ σ' mv', K ⟨N, t1, σ', mv'⟩) → evalO P ops m ist 0 (ops.take m) 0 ⟨N, t, σ, mv⟩ K)
    (h2 : lateA P ops ist ⟨N, t1, σ, mv⟩ fun σ' => σ' = σ2)
    (h3 : ∀ K : St → Prop, (∀ σ' mv', K ⟨N, t1, σ', mv'⟩) → evalO P ops m ist 0 (ops.take m) 0 ⟨N, t, σ2, mv⟩ K)
    (h4 : ∀ K : St → Prop, (∀ s', AWP P y Q s' → K s') → evalOps P false ops (ops.drop m) ⟨N, t1, σ2, mv⟩ K) : AWP P (.seq (.region id ops.toArray true) y) Q ⟨N, t, σ, mv⟩ :=
  awp_seq (awp_late m ist hm hok h1 h2 h3 (h4 _ fun s' h => h))
theorem awp_late_end {P : Program} {Q : Exit → St → Prop} {N : Nat} {t : List (Nat × AV)} {σ : List Blk} {mv : List Nat} {id : Nat} {ops : List Oper} (m ist : Nat) (hm : P.follows .mixedOrders = true) (hok : (drawOk ops m && Nat.ble m ops.length && lateOk ops m ist) = true) {t1 : List (Nat × AV)} {σ2 : List Blk}
    (h1 : ∀ K : St → Prop, (∀ σ' mv', K ⟨N, t1, σ', mv'⟩) → evalO P ops m ist 0 (ops.take m) 0 ⟨N, t, σ, mv⟩ K)
    (h2 : lateA P ops ist ⟨N, t1, σ, mv⟩ fun σ' => σ' = σ2)
    (h3 : ∀ K : St → Prop, (∀ σ' mv', K ⟨N, t1, σ', mv'⟩) → evalO P ops m ist 0 (ops.take m) 0 ⟨N, t, σ2, mv⟩ K)
    (h4 : ∀ K : St → Prop, (∀ s', Q .normal s' → K s') → evalOps P false ops (ops.drop m) ⟨N, t1, σ2, mv⟩ K) : AWP P (.region id ops.toArray true) Q ⟨N, t, σ, mv⟩ :=
  awp_late m ist hm hok h1 h2 h3 (h4 _ fun s' h => h)
attribute [go_sem ↓] lateA
end Go.Abs

/-! Ob -/
namespace Go.Abs
open Go.RowKit
set_option linter.unusedVariables false
set_option linter.unusedSimpArgs false

theorem ba_loop (b : ByteArray) : ∀ (k i : Nat) (r : List UInt8), b.size - i = k → ByteArray.toList.loop b i r = r.reverse ++ b.data.toList.drop i := by
  intro k
  induction k with
  | zero =>
    intro i r h
    unfold ByteArray.toList.loop
    rw [if_neg (by omega)]
    have : b.data.toList.drop i = [] := by
      rw [List.drop_eq_nil_iff, Array.length_toList]
      have : b.data.size = b.size := rfl
      omega
    rw [this]; simp
  | succ k ih =>
    intro i r h
    unfold ByteArray.toList.loop
    have hi : i < b.size := by omega
    rw [if_pos hi, ih (i + 1) _ (by omega)]
    have hd : i < b.data.toList.length := by rw [Array.length_toList]; exact hi
    rw [List.drop_eq_getElem_cons hd]
    have : b.get! i = b.data.toList[i] := by
      have h2 : b.get! i = b.data[i]! := rfl
      rw [h2, getElem!_pos b.data i (by exact hi)]
      simp
    rw [this]; simp
theorem ba_toList (b : ByteArray) : b.toList = b.data.toList := by
  have := ba_loop b (b.size - 0) 0 [] rfl
  unfold ByteArray.toList
  rw [this]; simp
theorem ba_inj {a b : ByteArray} (h : a.toList = b.toList) : a = b := by
  rw [ba_toList, ba_toList] at h
  cases a; cases b; simp at h; rw [h]
theorem ba_eq_iff {a b : ByteArray} : a.toList = b.toList ↔ a = b := ⟨ba_inj, fun h => by rw [h]⟩
attribute [simp] ba_eq_iff

theorem below_rel {w w' : World} {j : Js} {σ : List Blk} (hb : Below w.heap.size w w') (hS : RelS w j σ) : RelS w' j σ ∧ Ev j w j w' := by
  have hk := hb.block
  have he : Ev j w j w' := ⟨hb.size, fun b h _ => hk b h, fun _ _ h => h, fun b h => by simp [World.shape?, hk b h], fun a h => by simp [World.frozen?, hk _ h], hb.os, hb.tape, hb.output,
    fun b r h => ⟨r, by rw [hk b (Array.getElem?_eq_some_iff.1 h).1]; exact h⟩⟩
  refine ⟨⟨hS.len, fun b cb h => Nat.lt_of_lt_of_le (hS.lt b cb h) hb.size, hS.inj, fun b x hx => ?_⟩, he⟩
  obtain ⟨o, ho, hB⟩ := hS.blk b x hx
  exact ⟨o, ho, hB.mono he hS.lt (.refl _ _) fun cb h => hk cb (hS.lt b cb (by rw [ho, h]))⟩

theorem CSF.of_calls {P : Program} {f : FuncId} {args : List AV} {σ : List Blk} {r : Value} (hen : entersB P f = true) (vals : Array Value) (hargs : ∀ w j vs, Rs w j args vs → vs = vals)
    (h : ∀ w j, RelS w j σ → Calls P f vals w fun e w' => e = .returned r ∧ Below w.heap.size w w') : CSF P f args σ (.d (.v r)) := by
  refine ⟨hen, fun j w vs hs hr => ?_⟩
  rw [hargs w j vs hr]
  refine (h w j hs).mono fun e w' ⟨he, hb⟩ => ?_
  obtain ⟨h1, h2⟩ := below_rel hb hs
  exact ⟨r, .d (.v r), σ, j, [], he, h1, .d (.v r), h2, Nat.le_refl _, .refl _ _, rfl, rfl, rfl⟩

theorem rs_vals1 {w : World} {j : Js} {a : AV} {v : Value} {vs : Array Value} (h : Rs w j [a] vs) (ha : ∀ u, R w j a u → u = v) : vs = #[v] := by
  have h0 := ha _ (by simpa using h.2 0 (by simp))
  apply Array.ext
  · simpa using h.1
  · intro i h1 h2
    have hi : i = 0 := by simpa using h2
    subst hi
    simp only [Array.getD_eq_getD_getElem?, h1, Array.getElem?_eq_getElem, Option.getD_some] at h0
    simpa using h0

theorem rs_vals2 {w : World} {j : Js} {a b : AV} {v u : Value} {vs : Array Value} (h : Rs w j [a, b] vs) (ha : ∀ x, R w j a x → x = v) (hb : ∀ x, R w j b x → x = u) : vs = #[v, u] := by
  have h0 := ha _ (by simpa using h.2 0 (by simp))
  have h1 := hb _ (by simpa using h.2 1 (by simp))
  have hs : vs.size = 2 := by simpa using h.1
  apply Array.ext
  · simpa using hs
  · intro i h2 h3
    simp only [Array.getD_eq_getD_getElem?, show 0 < vs.size by omega, show 1 < vs.size by omega, Array.getElem?_eq_getElem, Option.getD_some] at h0 h1
    have hi : i = 0 ∨ i = 1 := by simp at h3; omega
    rcases hi with rfl | rfl
    · simpa using h0
    · simpa using h1

/-- a contract at arguments that hold the same -/
theorem CS.sub {P : Program} {f : FuncId} {args args' : List AV} {σ : List Blk} {Q : AV → List Blk → List Nat → Prop} (h : CS P f args' σ Q) (hs : sameL args args') : CS P f args σ Q := by
  obtain ⟨h1, h2⟩ := sameL_spec hs
  exact ⟨h.1, fun j w vs hS hr => h.2 j w vs hS ⟨by rw [h1]; exact hr.1, fun k hk => h2 k (by rw [← h1]; exact hk) _ _ _ (hr.2 k (by rw [← h1]; exact hk))⟩⟩
theorem CSF.sub {P : Program} {f : FuncId} {args args' : List AV} {σ : List Blk} {r : AV} (h : CSF P f args' σ r) (hs : sameL args args') : CSF P f args σ r := CS.sub h hs

/-- a cell of a global variable that is read -/
theorem loc_cell {w : World} {j : Js} {σ : List Blk} (hS : RelS w j σ) {b c : Nat} (h : σ[b]? = some (.loc c)) : ∃ m, w.cell? ⟨c, 0, none⟩ = some (.int .i64 m) := by
  obtain ⟨o, _, hB⟩ := hS.blk b _ h
  cases o <;> exact hB.2.2.2

theorem loc_app {σ τ : List Blk} {b : Nat} {x : Blk} (h : σ[b]? = some x) : (σ ++ τ)[b]? = some x := by
  rw [List.getElem?_append_left (List.getElem?_eq_some_iff.1 h).1]; exact h

end Go.Abs

/-! Od -/
namespace Go.Abs
open Go.RowKit
set_option linter.unusedVariables false
set_option linter.unusedSimpArgs false

theorem RD.none {w : World} {d : D} {v : Value} (h : RD w [] d v) : RD w [none] d v := by
  induction h with
  | v x => exact .v x
  | sl a c val h1 h2 h3 h4 h5 h6 h7 h8 ih => exact .sl a c val h1 h2 h3 h4 (by simp) h6 h7 ih
  | zero p c h1 h2 => exact .zero p c h1 h2

theorem R.none_d {w : World} {d : D} {v : Value} (h : R w [] (.d d) v) : R w [none] (.d d) v := by
  cases h with | d h => exact .d h.none
theorem R.none_agg {w : World} {ds : List D} {v : Value} (h : R w [] (.agg (ds.map .d)) v) : R w [none] (.agg (ds.map .d)) v := by
  cases h with
  | agg vs hs h =>
    refine .agg vs hs fun k hk => ?_
    have := h k hk
    have hk' : k < ds.length := by simpa using hk
    have e : (ds.map AV.d).getD k .undef = .d (ds[k]'hk') := by simp [List.getD_eq_getElem?_getD, hk']
    rw [e] at this ⊢
    exact this.none_d

theorem rsN_nil (w : World) : Rs w [none] [] #[] := ⟨rfl, by simp⟩
theorem RsN.cons {w : World} {x : AV} {v : Value} {xs : List AV} {vs : List Value} (h : R w [none] x v) (t : Rs w [none] xs vs.toArray) : Rs w [none] (x :: xs) (v :: vs).toArray :=
  ⟨by have := t.1; simpa using this, fun k hk => by
    cases k with
    | zero => simpa using h
    | succ k => have := t.2 k (by simpa using hk); simpa using this⟩

/-- a law that returns true, as the row wants it, where the cell at c is read -/
theorem law_callsN {P : Program} {f : FuncId} {avs : List AV} {args : Array Value} {w : World} {c : Nat} (h : CSF P f avs [.loc c] (.d (.v (.bool true)))) (hm : ∃ m, w.cell? ⟨c, 0, none⟩ = some (.int .i64 m)) (hr : Rs w [none] avs args) : Calls P f args w fun e w' => e = .returned (.bool true) ∧ Below w.heap.size w w' := by
  have hc : c < w.heap.size := by
    obtain ⟨m, hm⟩ := hm
    apply Classical.byContradiction
    intro hn
    have : w.heap[c]? = none := by simp; omega
    simp [World.cell?, this] at hm
  have hS : RelS w [none] [.loc c] := ⟨rfl, fun b cb hb => by
      cases b with
      | zero => simp at hb
      | succ b => simp at hb, fun b b' cb hb => by
      cases b with
      | zero => simp at hb
      | succ b => simp at hb, fun b x hx => by
      cases b with
      | zero =>
        simp at hx
        subst hx
        exact ⟨none, rfl, rfl, hc, by simp, hm⟩
      | succ b => simp at hx⟩
  refine (h.2 [none] w args hS hr).mono ?_
  rintro e w' ⟨v, r, σ', j', X, rfl, h1, h2, h3, h4, h5, rfl, rfl, rfl⟩
  cases h2 with
  | d h2 =>
    cases h2
    exact ⟨rfl, ⟨h3.os, h3.tape, h3.output, h3.size, fun k hk => h3.keep k hk (by simp)⟩⟩

end Go.Abs

/-! Azs -/
namespace Go.Abs
set_option linter.unusedVariables false
set_option linter.unusedSimpArgs false
open Go.Sort Go.Proofs

theorem onCells_eq {w : World} {blk : Nat} {C : Array Value} {e : TypeId} {f : Nat × Nat} (h : w.heap[blk]? = some (.cells C e f)) (g : Array Value → Array Value) (b : Nat) : (mapBlock w blk g).heap[b]? = if b = blk then some (.cells (g C) e f) else w.heap[b]? := by
  unfold mapBlock
  simp only [Array.getElem?_modify]
  by_cases hb : b = blk
  · subst hb; simp [h, onCells]
  · simp [hb, Ne.symm hb]

section
variable {α : Type} [Inhabited α] {enc : α → List Value} {k : Nat}

theorem holds_of {w : World} {j : Js} {σ : List Blk} (hS : RelS w j σ) {b cb n : Nat} {row : Nat → List D} {x : Nat → α} (hj : j[b]? = some (some cb)) (hb : σ[b]? = some (.arr k n row)) (hrow : ∀ i, i < n → row i = (enc (x i)).map .v) (hk : ∀ y, (enc y).length = k) : HoldsK enc k w cb 0 (lst n x).toArray := by
  obtain ⟨o, ho, hB⟩ := hS.blk b _ hb
  rw [hj] at ho; cases ho
  obtain ⟨C, e, hC, hcs, hrel⟩ := hB
  intro t ht
  simp only [size_flatK, List.size_toArray, lst_length] at ht
  have k0 : 0 < k := by rcases Nat.eq_zero_or_pos k with h | h; (subst h; simp at ht); exact h
  have hi : t / k < n := Nat.div_lt_of_lt_mul (by rwa [Nat.mul_comm] at ht)
  have hm : t % k < k := Nat.mod_lt _ k0
  have hr := (hrel (t / k) hi).2 (t % k) hm
  rw [hrow _ hi] at hr
  have hdm : t / k * k + t % k = t := Nat.div_add_mod' t k
  rw [hdm] at hr
  have hlt : t < C.size := by omega
  have e0 : ((enc (x (t / k))).map D.v).getD (t % k) default = D.v ((enc (x (t / k)))[t % k]!) := by
    have : t % k < (enc (x (t / k))).length := by rw [hk]; exact hm
    simp [List.getD_eq_getElem?_getD, this]
  rw [e0] at hr
  have hv : C.getD t Go.undef = (enc (x (t / k)))[t % k]! := by
    generalize C.getD t Go.undef = u at hr
    cases hr; rfl
  refine ⟨?_, ?_⟩
  · rw [cell_of hC, Nat.zero_add, get_flatK _ _ _ _ (by simpa [lst_length] using ht)]
    have e1 : (lst n x).toArray[t / k]! = x (t / k) := by
      simp [lst, hi]
    rw [e1, id, ← hv]
    simp [Array.getD_eq_getD_getElem?, hlt]
  · simp [World.frozen?, hC]

theorem sorted_rel {w : World} {j : Js} {σ : List Blk} (hS : RelS w j σ) {b cb n m : Nat} {row : Nat → List D} {d : Array α} {os : Array Obj} (hj : j[b]? = some (some cb)) (hb : σ[b]? = some (.arr k n row)) {row' : Nat → List D} (hrow : ∀ i, i < n → row' i = (enc (d[i]!)).map .v) (hk : ∀ y, (enc y).length = k) (hd : d.size = n) :
    RelS (sortWorldK enc k w cb 0 m d os) j (σ.set b (.arr k n row')) ∧ Ev j w j (sortWorldK enc k w cb 0 m d os) := by
  obtain ⟨o, ho, hB⟩ := hS.blk b _ hb
  rw [hj] at ho; cases ho
  obtain ⟨C, e, hC, hcs, hrel⟩ := hB
  have hcb : cb < w.heap.size := hS.lt b cb hj
  have hheap : ∀ c, c < w.heap.size → (sortWorldK enc k w cb 0 m d os).heap[c]? = if c = cb then some (.cells (putCells id 0 (flatK enc k d) C) e (0, 0)) else w.heap[c]? := by
    intro c hc
    unfold sortWorldK grow putRowK putRow
    simp only
    rw [Array.getElem?_append_left (by show c < (mapBlock _ _ _).heap.size; simpa [mapBlock, Go.Sort.ahead] using hc)]
    exact onCells_eq (w := Go.Sort.ahead w m) (blk := cb) (C := C) (e := e) (f := (0, 0)) hC (putCells id 0 (flatK enc k d)) c
  have hsz : (putCells id 0 (flatK enc k d) C).size = C.size := by simp [putCells]
  have hsize : w.heap.size ≤ (sortWorldK enc k w cb 0 m d os).heap.size := by
    unfold sortWorldK grow putRowK putRow mapBlock Go.Sort.ahead; simp
  have he : Ev j w j (sortWorldK enc k w cb 0 m d os) := by
    refine ⟨hsize, fun c hc hn => ?_, fun _ _ h => h, fun c hc => ?_, fun a ha => ?_, rfl, rfl, rfl, fun c r hr => ?_⟩
    · rw [hheap c hc, if_neg (fun h : c = cb => hn (by rw [h]; exact List.mem_of_getElem? hj))]
    · unfold World.shape?
      rw [hheap c hc]
      by_cases h : c = cb
      · subst h; simp [hC, hsz]
      · simp [h]
    · unfold World.frozen?
      rw [hheap a.block ha]
      by_cases h : a.block = cb
      · simp [h, hC]
      · simp [h]
    · have hc : c < w.heap.size := (Array.getElem?_eq_some_iff.1 hr).1
      refine ⟨r, ?_⟩
      rw [hheap c hc, if_neg (fun h : c = cb => by subst h; rw [hC] at hr; cases hr)]; exact hr
  refine ⟨⟨by simp [hS.len], fun c q hc => Nat.lt_of_lt_of_le (hS.lt c q hc) hsize, hS.inj, fun c y hy => ?_⟩, he⟩
  rw [List.getElem?_set] at hy
  split at hy
  · rename_i hbc
    subst hbc
    split at hy
    · simp only [Option.some.injEq] at hy
      subst hy
      refine ⟨some cb, hj, putCells id 0 (flatK enc k d) C, e, by rw [hheap cb hcb]; simp, by rw [hsz]; exact hcs, fun i hi => ⟨by rw [hrow i hi]; simp [hk], fun q hq => ?_⟩⟩
      rw [hrow i hi]
      have hlt : i * k + q < n * k := by
        have : (i + 1) * k ≤ n * k := Nat.mul_le_mul_right k hi
        rw [Nat.add_mul, Nat.one_mul] at this; omega
      have e1 : (i * k + q) / k = i := (blk_iff k i _ (by omega)).1 ⟨by omega, by omega⟩
      have e2 : (i * k + q) % k = q := by rw [Nat.mod_eq_sub_div_mul, e1]; omega
      have e3 : (putCells id 0 (flatK enc k d) C).getD (i * k + q) Go.undef = (enc d[i]!)[q]! := by
        have h1 : i * k + q < C.size := by omega
        have h2 := get_flatK enc k d (i * k + q) (by rw [hd]; exact hlt)
        rw [e1, e2, getElem!_pos _ _ (by simp [hd, hlt])] at h2
        rw [← h2]
        simp [putCells, Array.getD_eq_getD_getElem?, h1, hd, hlt]
      have e4 : ((enc d[i]!).map D.v).getD q default = D.v ((enc d[i]!)[q]!) := by
        have : q < (enc d[i]!).length := by rw [hk]; exact hq
        simp [List.getD_eq_getElem?_getD, this]
      rw [e3, e4]; exact .v _
    · simp at hy
  · rename_i hbc
    obtain ⟨o, ho, hB⟩ := hS.blk c y hy
    refine ⟨o, ho, hB.mono he hS.lt (.refl _ _) fun cb' hcb' => ?_⟩
    subst hcb'
    have hne : cb' ≠ cb := fun h => hbc (hS.inj _ _ _ hj (h ▸ ho))
    rw [hheap cb' (hS.lt c cb' ho), if_neg hne]

end
end Go.Abs

/-! Azt -/
namespace Go.Abs
set_option linter.unusedVariables false
set_option linter.unusedSimpArgs false

section
variable {P : Program} {c : Code} {Q : Exit → St → Prop} {N : Nat} {t t' : List (Nat × AV)} {σ σ' : List Blk} {mv : List Nat}

/-- the capacity of a slice in a temporary is told -/
theorem awp_mc (k : Nat) {b sz lo n : Nat} (hk : get t k = some (.ms b sz lo n)) (h : ∀ q, n ≤ q → AWP P c Q ⟨N, put t k (.mc b sz lo n q), σ, mv⟩) : AWP P c Q ⟨N, t, σ, mv⟩ := by
  intro j0 j a w hr
  obtain ⟨hkN, hv⟩ := hr.tmp k _ hk
  have key : ∃ (p : Option Addr) (q : Nat), a.tmps.getD k Go.undef = .slice p n q ∧ n ≤ q := by
    revert hv
    generalize a.tmps.getD k Go.undef = v
    intro hv
    cases hv with
    | ms q e m h1 h2 h3 h4 => exact ⟨_, q, rfl, h3⟩
    | ms0 p h1 => exact ⟨p, 0, rfl, Nat.le_refl _⟩
    | msE p e m h1 h2 h3 h4 => exact ⟨p, 0, rfl, Nat.le_refl _⟩
  obtain ⟨p, q, hq, hn⟩ := key
  refine h q hn j0 j a w ⟨hr.defers, hr.rdok, hr.size, fun k' av hk' => ?_, hr.sto, hr.len0, hr.ag⟩
  simp only at hk'
  rw [get_put] at hk'
  split at hk'
  · rename_i e
    subst e
    simp only [Option.some.injEq] at hk'
    subst hk'
    exact ⟨hkN, .mc hv p hq⟩
  · exact hr.tmp k' av hk'

/-- the rows of a block up to the slice's capacity -/
theorem awp_room (k : Nat) {b sz lo n q n' : Nat} {row : Nat → List D} (hk : get t k = some (.mc b sz lo n q)) (hb : σ[b]? = some (.arr sz n' row)) (hn : n' ≤ lo + q) (h : ∀ row', (∀ i, i < n' → row' i = row i) → AWP P c Q ⟨N, t, σ.set b (.arr sz (lo + q) row'), mv⟩) : AWP P c Q ⟨N, t, σ, mv⟩ := by
  intro j0 j a w hr
  obtain ⟨hkN, hv⟩ := hr.tmp k _ hk
  obtain ⟨o, ho, hB⟩ := hr.sto.blk b _ hb
  have key : ∃ row', (∀ i, i < n' → row' i = row i) ∧ RB w j (.arr sz (lo + q) row') o := by
    revert hv
    generalize a.tmps.getD k Go.undef = v
    intro hv
    cases hv with | mc hv p hp =>
    have fin : ∀ cb e m, j[b]? = some (some cb) → w.shape? cb = some (e, m) → (lo + q) * sz = m → ∃ row', (∀ i, i < n' → row' i = row i) ∧ RB w j (.arr sz (lo + q) row') o := by
      intro cb e m hj hs hm
      rw [hj] at ho
      cases ho
      obtain ⟨C, e', hC, hCs, hCr⟩ := hB
      have hm' : C.size = m := by rw [shape_of hC] at hs; simp at hs; exact hs.2
      refine ⟨fun i => if i < n' then row i else (List.range sz).map fun r => .v (C.getD (i * sz + r) Go.undef), fun i hi => by simp [hi], C, e', hC, by omega, fun i hi => ?_⟩
      by_cases hin : i < n'
      · simp only [hin, if_true]; exact hCr i hin
      · simp only [hin, if_false]
        refine ⟨by simp, fun r hr => ?_⟩
        have e1 : ((List.range sz).map fun r => D.v (C.getD (i * sz + r) Go.undef)).getD r default = .v (C.getD (i * sz + r) Go.undef) := by
          simp [List.getD_eq_getElem?_getD, hr]
        rw [e1]; exact .v _
    cases hv with
    | @ms _ _ _ _ cb q' e m h1 h2 h3 h4 => cases hp; exact fin cb e m h1 h2 h4
    | ms0 p' h1 =>
      cases hp
      rw [h1] at ho
      cases ho
      have : n' = 0 := hB
      exact ⟨row, fun _ _ => rfl, rfl⟩
    | @msE _ _ _ cb p' e m h1 h2 h3 h4 => cases hp; exact fin cb e m h1 h2 (by simpa using h4)
  obtain ⟨row', h1, h2⟩ := key
  refine h row' h1 j0 j a w ⟨hr.defers, hr.rdok, hr.size, hr.tmp, ⟨by simp [hr.sto.len], hr.sto.lt, hr.sto.inj, fun b' x hx => ?_⟩, hr.len0, hr.ag⟩
  rw [List.getElem?_set] at hx
  split at hx
  · rename_i e
    subst e
    split at hx <;> simp at hx
    subst hx
    exact ⟨o, ho, h2⟩
  · exact hr.sto.blk b' x hx

theorem relS_dead {w : World} {j : Js} (hS : RelS w j σ) (b : Nat) : RelS w (j.set b none) ((σ.map (scrubV [b])).set b .dead) ∧ Ev j w (j.set b none) w ∧ Ag j (j.set b none) [b] := by
  have he : Ev j w (j.set b none) w := ⟨Nat.le_refl _, fun _ _ _ => rfl, fun c _ hm => set_none_sub hm, fun _ _ => rfl, fun _ _ => rfl, rfl, rfl, rfl, fun _ r h => ⟨r, h⟩⟩
  have hag : Ag j (j.set b none) [b] := fun q hq hn => by
    simp at hn
    rw [List.getElem?_set_ne (by omega)]
  refine ⟨⟨by simp [hS.len], fun q cb hq => ?_, fun q q' cb hq hq' => ?_, fun q y hy => ?_⟩, he, hag⟩
  · rw [List.getElem?_set] at hq
    split at hq
    · split at hq <;> simp at hq
    · exact hS.lt q cb hq
  · rw [List.getElem?_set] at hq hq'
    split at hq
    · split at hq <;> simp at hq
    · split at hq'
      · split at hq' <;> simp at hq'
      · exact hS.inj q q' cb hq hq'
  · rw [List.getElem?_set] at hy
    split at hy
    · rename_i e
      subst e
      simp only [List.length_map] at hy
      split at hy <;> simp at hy
      rename_i hlt
      subst hy
      exact ⟨none, by rw [List.getElem?_set]; simp [hS.len, hlt], trivial⟩
    · rename_i e
      simp only [List.getElem?_map, Option.map_eq_some_iff] at hy
      obtain ⟨y', hy', rfl⟩ := hy
      obtain ⟨o, ho, hB⟩ := hS.blk q y' hy'
      exact ⟨o, by rw [List.getElem?_set]; simp [e, ho], hB.monoX he hS.lt hag fun _ _ => rfl⟩

/-- a block is given up: what speaks of it is forgotten -/
theorem awp_kill (b : Nat) (ht : scrub' [b] t = t') (hσ : (σ.map (scrubV [b])).set b .dead = σ') (h : AWP P c Q ⟨N, t', σ', mv ++ [b]⟩) : AWP P c Q ⟨N, t, σ, mv⟩ := by
  subst ht hσ
  refine awp_sub (s' := ⟨N, scrub' [b] t, (σ.map (scrubV [b])).set b .dead, mv ++ [b]⟩) ?_ h
  intro j0 j a w hr
  obtain ⟨h1, h2, h3⟩ := relS_dead hr.sto b
  exact ⟨_, hr.after h2 h1 (by simp) h3, h2⟩

/-- a block is given up: the temporaries that hold slices of it hold data -/
theorem awp_dead (b : Nat) {sz n' : Nat} {row : Nat → List D} (hb : σ[b]? = some (.arr sz n' row)) (ht : frzM b sz n' row t = t') (hσ : (σ.map (scrubV [b])).set b .dead = σ') (h : AWP P c Q ⟨N, t', σ', mv ++ [b]⟩) : AWP P c Q ⟨N, t, σ, mv⟩ := by
  subst ht hσ
  refine awp_sub (s' := ⟨N, frzM b sz n' row t, (σ.map (scrubV [b])).set b .dead, mv ++ [b]⟩) ?_ h
  intro j0 j a w hr
  obtain ⟨h1, h2, h3⟩ := relS_dead hr.sto b
  refine ⟨_, ⟨hr.defers.mono h2, hr.rdok, hr.size, fun k av hk => ?_, h1, by simpa using hr.len0, hr.ag.trans hr.len0 h3⟩, h2⟩
  obtain ⟨x, hx, rfl⟩ := frzM_get hk
  exact ⟨(hr.tmp k x hx).1, (hr.tmp k x hx).2.frzT hr.sto hb⟩

/-- a map told in other words: the same keys, elements that read as the others do -/
theorem awp_map (b : Nat) {d : Bool} {ks ks' : List Key} {f f' : Key → AV} (hb : σ[b]? = some (.mp d ks f)) (hk : ks.Perm ks') (hf : ∀ k ∈ ks, Same (f k) (f' k)) (hfree : ∀ k, (f' k).free = true) (hσ : σ.set b (.mp d ks' f') = σ') (h : AWP P c Q ⟨N, t, σ', mv⟩) : AWP P c Q ⟨N, t, σ, mv⟩ := by
  subst hσ
  refine awp_sub (s' := ⟨N, t, σ.set b (.mp d ks' f'), mv⟩) ?_ h
  intro j0 j a w hr
  obtain ⟨o, ho, hB⟩ := hr.sto.blk b _ hb
  cases o with
  | none => exact hB.elim
  | some cb =>
  obtain ⟨es, cl, h1, h2⟩ := hB
  refine ⟨j, ⟨hr.defers, hr.rdok, hr.size, hr.tmp, ⟨by simp [hr.sto.len], hr.sto.lt, hr.sto.inj, fun b' x hx => ?_⟩, hr.len0, hr.ag⟩, .refl _ _⟩
  rw [List.getElem?_set] at hx
  split at hx
  · rename_i e
    subst e
    split at hx <;> simp at hx
    subst hx
    refine ⟨some cb, ho, es, cl, h1, h2.stamped, h2.keys.trans (hk.map _), fun k hk' => h2.kind k (hk.mem_iff.2 hk'), hfree, fun e he k hke => ?_⟩
    exact hf k (h2.mem.2 ⟨e, he, hke⟩) w j _ (h2.rel e he k hke)
  · exact hr.sto.blk b' x hx

/-- an iterator told in other words -/
theorem awp_iter (b : Nat) {left left' : List Key} {cur : Option Key} {f f' : Key → AV} (hb : σ[b]? = some (.it left cur f)) (hk : left.Perm left') (hf : ∀ k, Same (f k) (f' k)) (hfree : ∀ k, (f' k).free = true) (hσ : σ.set b (.it left' cur f') = σ') (h : AWP P c Q ⟨N, t, σ', mv⟩) : AWP P c Q ⟨N, t, σ, mv⟩ := by
  subst hσ
  refine awp_sub (s' := ⟨N, t, σ.set b (.it left' cur f'), mv⟩) ?_ h
  intro j0 j a w hr
  obtain ⟨o, ho, hB⟩ := hr.sto.blk b _ hb
  cases o with
  | none => exact hB.elim
  | some cb =>
  obtain ⟨mb, es, cl, seen, h1, h2⟩ := hB
  refine ⟨j, ⟨hr.defers, hr.rdok, hr.size, hr.tmp, ⟨by simp [hr.sto.len], hr.sto.lt, hr.sto.inj, fun b' x hx => ?_⟩, hr.len0, hr.ag⟩, .refl _ _⟩
  rw [List.getElem?_set] at hx
  split at hx
  · rename_i e
    subst e
    split at hx <;> simp at hx
    subst hx
    exact ⟨some cb, ho, mb, es, cl, seen, h1, h2.lt, h2.own, h2.heap, h2.stamped, h2.keys.trans (hk.map _), h2.cur, hfree, fun e he k hke => hf k w j _ (h2.rel e he k hke)⟩
  · exact hr.sto.blk b' x hx

end

theorem Same.op_el {cs : List D} : Same (.el cs) (.op true cs) := fun w j v h => .op (fun _ => h) (fun h => by cases h)
theorem Same.op_nil {cs : List D} : Same (.d (.v (.pointer none))) (.op false cs) := fun w j v h => .op (fun h => by cases h) (fun _ => R_v h)
theorem Same.agg {xs ys : List AV} (hl : xs.length = ys.length) (h : ∀ k, k < xs.length → Same (xs.getD k .undef) (ys.getD k .undef)) : Same (.agg xs) (.agg ys) := fun w j v hr => by
  cases hr with
  | agg vs hs hv => exact .agg vs (by rw [hs, hl]) fun k hk => h k (by omega) w j _ (hv k (by omega))

theorem scrubV_idem (X : List Nat) (x : Blk) : scrubV X (scrubV X x) = scrubV X x := by
  cases x with
  | var cs =>
    simp only [scrubV, List.map_map, Blk.var.injEq]
    apply List.map_congr_left
    intro c _
    simp only [Function.comp]
    split
    · rename_i h; simp [h]
    · simp [AV.avoids]
  | lp L st pd =>
    simp only [scrubV, Blk.lp.injEq, and_true]
    rw [scrub'_id fun k av h => (scrub'_mem h).2]
  | _ => rfl
theorem scrubV_comp (X : List Nat) : scrubV X ∘ scrubV X = scrubV X := by funext x; exact scrubV_idem X x
theorem map_scrub_idem (X : List Nat) (σ : List Blk) : (σ.map (scrubV X)).map (scrubV X) = σ.map (scrubV X) := by rw [List.map_map, scrubV_comp]

/-- one block is given up, those about it are scrubbed -/
theorem leaves_dead {σ τ : List Blk} {x : Blk} (y : Blk) (Y : List Nat) : Leaves (σ ++ x :: y :: τ) (σ.map (scrubV Y) ++ .dead :: y :: τ.map (scrubV Y)) := by
  refine ⟨by simp, fun b z hz => ?_⟩
  rw [List.getElem?_append] at hz ⊢
  simp only [List.length_map] at hz
  split at hz
  · rename_i hb
    rw [if_pos hb]
    simp only [List.getElem?_map, Option.map_eq_some_iff] at hz
    obtain ⟨y', h1, rfl⟩ := hz
    exact .inr (.inr ⟨Y, y', h1, rfl⟩)
  · rename_i hb
    rw [if_neg hb]
    generalize b - σ.length = k at hz
    rcases k with _ | _ | k
    · simp at hz; subst hz; exact .inr (.inl trivial)
    · simp at hz; subst hz; exact .inl rfl
    · simp only [List.getElem?_cons_succ, List.getElem?_map, Option.map_eq_some_iff] at hz ⊢
      obtain ⟨y', h1, rfl⟩ := hz
      exact .inr (.inr ⟨Y, y', h1, rfl⟩)

theorem WfS.parts {σ τ : List Blk} {x : Blk} (h : WfS (σ ++ x :: τ)) (k : Nat) : σ.map (scrubV [(σ ++ x :: τ).length + k]) = σ ∧ τ.map (scrubV [(σ ++ x :: τ).length + k]) = τ := by
  have := h.one k
  rw [List.map_append, List.map_cons] at this
  obtain ⟨h1, h2⟩ := List.append_inj this (by simp)
  simp only [List.cons.injEq] at h2
  exact ⟨h1, h2.2⟩

end Go.Abs

/-! Ba -/
namespace Go.Proofs.YtnbokgmimbeihaaGreatDoor
open Go.Abs
@[go_sem] theorem T.arA_177 : arA Tryz.prog 177 = some (32, 1) := by kernel_rfl
@[go_sem] theorem T.arA_178 : arA Tryz.prog 178 = some (64, 1) := by kernel_rfl
@[go_sem] theorem T.boolT_4 : boolT Tryz.prog 4 = true := by kernel_rfl
@[go_sem] theorem T.eqA_30 : eqA Tryz.prog 30 = some [.i, .i] := by kernel_rfl
@[go_sem] theorem T.eqA_47 : eqA Tryz.prog 47 = some [.i, .i, .s] := by kernel_rfl
@[go_sem] theorem T.fieldA_107_0 : fieldA Tryz.prog 107 0 = some 0 := by kernel_rfl
@[go_sem] theorem T.fieldA_107_1 : fieldA Tryz.prog 107 1 = some 1 := by kernel_rfl
@[go_sem] theorem T.fieldA_119_0 : fieldA Tryz.prog 119 0 = some 0 := by kernel_rfl
@[go_sem] theorem T.fieldA_119_1 : fieldA Tryz.prog 119 1 = some 1 := by kernel_rfl
@[go_sem] theorem T.fieldA_24_0 : fieldA Tryz.prog 24 0 = some 0 := by kernel_rfl
@[go_sem] theorem T.fieldA_24_1 : fieldA Tryz.prog 24 1 = some 1 := by kernel_rfl
@[go_sem] theorem T.fieldA_24_2 : fieldA Tryz.prog 24 2 = some 2 := by kernel_rfl
@[go_sem] theorem T.fieldA_24_3 : fieldA Tryz.prog 24 3 = some 3 := by kernel_rfl
@[go_sem] theorem T.fieldA_28_0 : fieldA Tryz.prog 28 0 = some 0 := by kernel_rfl
@[go_sem] theorem T.fieldA_28_1 : fieldA Tryz.prog 28 1 = some 1 := by kernel_rfl
@[go_sem] theorem T.fieldA_28_2 : fieldA Tryz.prog 28 2 = some 2 := by kernel_rfl
@[go_sem] theorem T.fieldA_28_3 : fieldA Tryz.prog 28 3 = some 3 := by kernel_rfl
@[go_sem] theorem T.fieldA_28_4 : fieldA Tryz.prog 28 4 = some 4 := by kernel_rfl
@[go_sem] theorem T.fieldA_30_0 : fieldA Tryz.prog 30 0 = some 0 := by kernel_rfl
@[go_sem] theorem T.fieldA_30_1 : fieldA Tryz.prog 30 1 = some 1 := by kernel_rfl
@[go_sem] theorem T.fieldA_47_0 : fieldA Tryz.prog 47 0 = some 0 := by kernel_rfl
@[go_sem] theorem T.fieldA_47_1 : fieldA Tryz.prog 47 1 = some 1 := by kernel_rfl
@[go_sem] theorem T.fieldA_47_2 : fieldA Tryz.prog 47 2 = some 2 := by kernel_rfl
@[go_sem] theorem T.fieldA_60_0 : fieldA Tryz.prog 60 0 = some 0 := by kernel_rfl
@[go_sem] theorem T.fieldA_60_1 : fieldA Tryz.prog 60 1 = some 1 := by kernel_rfl
@[go_sem] theorem T.fieldA_62_0 : fieldA Tryz.prog 62 0 = some 0 := by kernel_rfl
@[go_sem] theorem T.fieldA_62_1 : fieldA Tryz.prog 62 1 = some 1 := by kernel_rfl
@[go_sem] theorem T.fieldA_62_2 : fieldA Tryz.prog 62 2 = some 2 := by kernel_rfl
@[go_sem] theorem T.fieldA_62_3 : fieldA Tryz.prog 62 3 = some 3 := by kernel_rfl
@[go_sem] theorem T.fieldA_62_4 : fieldA Tryz.prog 62 4 = some 5 := by kernel_rfl
@[go_sem] theorem T.fieldA_62_5 : fieldA Tryz.prog 62 5 = some 6 := by kernel_rfl
@[go_sem] theorem T.fieldVA_119_0 : fieldVA Tryz.prog 119 0 = some (0, false, 1) := by kernel_rfl
@[go_sem] theorem T.intT_100 : intT Tryz.prog 100 = some .u64 := by kernel_rfl
@[go_sem] theorem T.intT_104 : intT Tryz.prog 104 = none := by kernel_rfl
@[go_sem] theorem T.intT_105 : intT Tryz.prog 105 = none := by kernel_rfl
@[go_sem] theorem T.intT_128 : intT Tryz.prog 128 = some .u32 := by kernel_rfl
@[go_sem] theorem T.intT_131 : intT Tryz.prog 131 = some .u64 := by kernel_rfl
@[go_sem] theorem T.intT_141 : intT Tryz.prog 141 = none := by kernel_rfl
@[go_sem] theorem T.intT_166 : intT Tryz.prog 166 = some .u64 := by kernel_rfl
@[go_sem] theorem T.intT_3 : intT Tryz.prog 3 = some .i64 := by kernel_rfl
@[go_sem] theorem T.intT_5 : intT Tryz.prog 5 = some .u8 := by kernel_rfl
@[go_sem] theorem T.intT_9 : intT Tryz.prog 9 = none := by kernel_rfl
@[go_sem] theorem T.isArr_105 : isArr Tryz.prog 105 = false := by kernel_rfl
@[go_sem] theorem T.isArr_177 : isArr Tryz.prog 177 = true := by kernel_rfl
@[go_sem] theorem T.isArr_178 : isArr Tryz.prog 178 = true := by kernel_rfl
@[go_sem] theorem T.isArr_22 : isArr Tryz.prog 22 = false := by kernel_rfl
@[go_sem] theorem T.isArr_25 : isArr Tryz.prog 25 = false := by kernel_rfl
@[go_sem] theorem T.isArr_26 : isArr Tryz.prog 26 = false := by kernel_rfl
@[go_sem] theorem T.isArr_37 : isArr Tryz.prog 37 = false := by kernel_rfl
@[go_sem] theorem T.isArr_79 : isArr Tryz.prog 79 = false := by kernel_rfl
@[go_sem] theorem T.isSlT_100 : isSlT Tryz.prog 100 = false := by kernel_rfl
@[go_sem] theorem T.isSlT_104 : isSlT Tryz.prog 104 = false := by kernel_rfl
@[go_sem] theorem T.isSlT_116 : isSlT Tryz.prog 116 = false := by kernel_rfl
@[go_sem] theorem T.isSlT_117 : isSlT Tryz.prog 117 = false := by kernel_rfl
@[go_sem] theorem T.isSlT_128 : isSlT Tryz.prog 128 = false := by kernel_rfl
@[go_sem] theorem T.isSlT_131 : isSlT Tryz.prog 131 = false := by kernel_rfl
@[go_sem] theorem T.isSlT_150 : isSlT Tryz.prog 150 = false := by kernel_rfl
@[go_sem] theorem T.isSlT_166 : isSlT Tryz.prog 166 = false := by kernel_rfl
@[go_sem] theorem T.isSlT_21 : isSlT Tryz.prog 21 = false := by kernel_rfl
@[go_sem] theorem T.isSlT_25 : isSlT Tryz.prog 25 = true := by kernel_rfl
@[go_sem] theorem T.isSlT_26 : isSlT Tryz.prog 26 = true := by kernel_rfl
@[go_sem] theorem T.isSlT_3 : isSlT Tryz.prog 3 = false := by kernel_rfl
@[go_sem] theorem T.isSlT_30 : isSlT Tryz.prog 30 = false := by kernel_rfl
@[go_sem] theorem T.isSlT_33 : isSlT Tryz.prog 33 = false := by kernel_rfl
@[go_sem] theorem T.isSlT_4 : isSlT Tryz.prog 4 = false := by kernel_rfl
@[go_sem] theorem T.isSlT_47 : isSlT Tryz.prog 47 = false := by kernel_rfl
@[go_sem] theorem T.isSlT_5 : isSlT Tryz.prog 5 = false := by kernel_rfl
@[go_sem] theorem T.isSlT_9 : isSlT Tryz.prog 9 = false := by kernel_rfl
@[go_sem] theorem T.lenT_105 : lenT Tryz.prog 105 = 1 := by kernel_rfl
@[go_sem] theorem T.lenT_22 : lenT Tryz.prog 22 = 1 := by kernel_rfl
@[go_sem] theorem T.lenT_25 : lenT Tryz.prog 25 = 1 := by kernel_rfl
@[go_sem] theorem T.lenT_26 : lenT Tryz.prog 26 = 1 := by kernel_rfl
@[go_sem] theorem T.lenT_3 : lenT Tryz.prog 3 = 0 := by kernel_rfl
@[go_sem] theorem T.lenT_37 : lenT Tryz.prog 37 = 1 := by kernel_rfl
@[go_sem] theorem T.lenT_9 : lenT Tryz.prog 9 = 2 := by kernel_rfl
@[go_sem] theorem T.mapT_115 : mapT Tryz.prog 115 = some (false, .agg [.d (.v (.pointer none)), .d (.v (.pointer none))]) := by kernel_rfl
@[go_sem] theorem T.mapT_75 : mapT Tryz.prog 75 = some (false, .d (.v (.string ⟨#[]⟩))) := by kernel_rfl
@[go_sem] theorem T.mapT_94 : mapT Tryz.prog 94 = some (false, .d (.v (.bool false))) := by kernel_rfl
@[go_sem] theorem T.placesA_119 : placesA Tryz.prog 119 = some ([(0, 1), (1, 1)], [.pointer none, .pointer none]) := by kernel_rfl
@[go_sem] theorem T.placesA_24 : placesA Tryz.prog 24 = some ([(0, 1), (1, 1), (2, 1), (3, 1)], [.int .i64 0, .int .i64 0, .int .i64 0, .slice none 0 0]) := by kernel_rfl
@[go_sem] theorem T.placesA_28 : placesA Tryz.prog 28 = some ([(0, 1), (1, 1), (2, 1), (3, 1), (4, 1)], [.int .i64 0, .int .i64 0, .int .i64 0, .slice none 0 0, .slice none 0 0]) := by kernel_rfl
@[go_sem] theorem T.placesA_30 : placesA Tryz.prog 30 = some ([(0, 1), (1, 1)], [.int .i64 0, .int .i64 0]) := by kernel_rfl
@[go_sem] theorem T.placesA_47 : placesA Tryz.prog 47 = some ([(0, 1), (1, 1), (2, 1)], [.int .i64 0, .int .i64 0, .string ⟨#[]⟩]) := by kernel_rfl
@[go_sem] theorem T.placesA_62 : placesA Tryz.prog 62 = some ([(0, 1), (1, 1), (2, 1), (3, 2), (5, 1), (6, 1)], [.int .i64 0, .int .i64 0, .string ⟨#[]⟩, .int .i64 0, .int .i64 0, .int .i64 0, .string ⟨#[]⟩]) := by kernel_rfl
@[go_sem] theorem T.ptrT_104 : ptrT Tryz.prog 104 = true := by kernel_rfl
@[go_sem] theorem T.ptrT_116 : ptrT Tryz.prog 116 = true := by kernel_rfl
@[go_sem] theorem T.ptrT_117 : ptrT Tryz.prog 117 = true := by kernel_rfl
@[go_sem] theorem T.slA_105 : slA Tryz.prog 105 = some (5, 1) := by kernel_rfl
@[go_sem] theorem T.slA_22 : slA Tryz.prog 22 = some (62, 7) := by kernel_rfl
@[go_sem] theorem T.slA_25 : slA Tryz.prog 25 = some (47, 3) := by kernel_rfl
@[go_sem] theorem T.slA_26 : slA Tryz.prog 26 = some (30, 2) := by kernel_rfl
@[go_sem] theorem T.slA_37 : slA Tryz.prog 37 = some (3, 1) := by kernel_rfl
@[go_sem] theorem T.slA_79 : slA Tryz.prog 79 = some (9, 1) := by kernel_rfl
@[go_sem] theorem T.slB_105 : slB Tryz.prog 105 = some (5, 1, 1, [.int .u8 0]) := by kernel_rfl
@[go_sem] theorem T.slB_22 : slB Tryz.prog 22 = some (62, 7, 72, [.int .i64 0, .int .i64 0, .string ⟨#[]⟩, .int .i64 0, .int .i64 0, .int .i64 0, .string ⟨#[]⟩]) := by kernel_rfl
@[go_sem] theorem T.slB_25 : slB Tryz.prog 25 = some (47, 3, 32, [.int .i64 0, .int .i64 0, .string ⟨#[]⟩]) := by kernel_rfl
@[go_sem] theorem T.slB_26 : slB Tryz.prog 26 = some (30, 2, 16, [.int .i64 0, .int .i64 0]) := by kernel_rfl
@[go_sem] theorem T.slB_37 : slB Tryz.prog 37 = some (3, 1, 8, [.int .i64 0]) := by kernel_rfl
@[go_sem] theorem T.slB_79 : slB Tryz.prog 79 = some (9, 1, 16, [.string ⟨#[]⟩]) := by kernel_rfl
@[go_sem] theorem T.strT_100 : strT Tryz.prog 100 = false := by kernel_rfl
@[go_sem] theorem T.strT_104 : strT Tryz.prog 104 = false := by kernel_rfl
@[go_sem] theorem T.strT_105 : strT Tryz.prog 105 = false := by kernel_rfl
@[go_sem] theorem T.strT_128 : strT Tryz.prog 128 = false := by kernel_rfl
@[go_sem] theorem T.strT_131 : strT Tryz.prog 131 = false := by kernel_rfl
@[go_sem] theorem T.strT_141 : strT Tryz.prog 141 = false := by kernel_rfl
@[go_sem] theorem T.strT_166 : strT Tryz.prog 166 = false := by kernel_rfl
@[go_sem] theorem T.strT_3 : strT Tryz.prog 3 = false := by kernel_rfl
@[go_sem] theorem T.strT_5 : strT Tryz.prog 5 = false := by kernel_rfl
@[go_sem] theorem T.strT_9 : strT Tryz.prog 9 = true := by kernel_rfl
@[go_sem] theorem T.tyA_104 : tyA Tryz.prog 104 = some (false, 1) := by kernel_rfl
@[go_sem] theorem T.tyA_105 : tyA Tryz.prog 105 = some (false, 1) := by kernel_rfl
@[go_sem] theorem T.tyA_116 : tyA Tryz.prog 116 = some (false, 1) := by kernel_rfl
@[go_sem] theorem T.tyA_117 : tyA Tryz.prog 117 = some (false, 1) := by kernel_rfl
@[go_sem] theorem T.tyA_119 : tyA Tryz.prog 119 = some (true, 2) := by kernel_rfl
@[go_sem] theorem T.tyA_166 : tyA Tryz.prog 166 = some (false, 1) := by kernel_rfl
@[go_sem] theorem T.tyA_22 : tyA Tryz.prog 22 = some (false, 1) := by kernel_rfl
@[go_sem] theorem T.tyA_24 : tyA Tryz.prog 24 = some (true, 4) := by kernel_rfl
@[go_sem] theorem T.tyA_25 : tyA Tryz.prog 25 = some (false, 1) := by kernel_rfl
@[go_sem] theorem T.tyA_26 : tyA Tryz.prog 26 = some (false, 1) := by kernel_rfl
@[go_sem] theorem T.tyA_28 : tyA Tryz.prog 28 = some (true, 5) := by kernel_rfl
@[go_sem] theorem T.tyA_3 : tyA Tryz.prog 3 = some (false, 1) := by kernel_rfl
@[go_sem] theorem T.tyA_30 : tyA Tryz.prog 30 = some (true, 2) := by kernel_rfl
@[go_sem] theorem T.tyA_47 : tyA Tryz.prog 47 = some (true, 3) := by kernel_rfl
@[go_sem] theorem T.tyA_5 : tyA Tryz.prog 5 = some (false, 1) := by kernel_rfl
@[go_sem] theorem T.tyA_60 : tyA Tryz.prog 60 = some (true, 2) := by kernel_rfl
@[go_sem] theorem T.tyA_62 : tyA Tryz.prog 62 = some (true, 7) := by kernel_rfl
@[go_sem] theorem T.tyA_9 : tyA Tryz.prog 9 = some (false, 1) := by kernel_rfl
@[go_sem] theorem T.zeroA_107 : zeroA Tryz.prog 107 = some [.pointer none, .slice none 0 0] := by kernel_rfl
@[go_sem] theorem T.zeroA_119 : zeroA Tryz.prog 119 = some [.pointer none, .pointer none] := by kernel_rfl
@[go_sem] theorem T.zeroA_166 : zeroA Tryz.prog 166 = some [.int .u64 0] := by kernel_rfl
@[go_sem] theorem T.zeroA_24 : zeroA Tryz.prog 24 = some [.int .i64 0, .int .i64 0, .int .i64 0, .slice none 0 0] := by kernel_rfl
@[go_sem] theorem T.zeroA_26 : zeroA Tryz.prog 26 = some [.slice none 0 0] := by kernel_rfl
@[go_sem] theorem T.zeroA_28 : zeroA Tryz.prog 28 = some [.int .i64 0, .int .i64 0, .int .i64 0, .slice none 0 0, .slice none 0 0] := by kernel_rfl
@[go_sem] theorem T.zeroA_3 : zeroA Tryz.prog 3 = some [.int .i64 0] := by kernel_rfl
@[go_sem] theorem T.zeroA_30 : zeroA Tryz.prog 30 = some [.int .i64 0, .int .i64 0] := by kernel_rfl
@[go_sem] theorem T.zeroA_47 : zeroA Tryz.prog 47 = some [.int .i64 0, .int .i64 0, .string ⟨#[]⟩] := by kernel_rfl
@[go_sem] theorem T.zeroA_60 : zeroA Tryz.prog 60 = some [.int .i64 0, .int .i64 0] := by kernel_rfl
@[go_sem] theorem T.zeroA_62 : zeroA Tryz.prog 62 = some [.int .i64 0, .int .i64 0, .string ⟨#[]⟩, .int .i64 0, .int .i64 0, .int .i64 0, .string ⟨#[]⟩] := by kernel_rfl
theorem T.en3 : entersB Tryz.prog 3 = true := by kernel_rfl
theorem T.en4 : entersB Tryz.prog 4 = true := by kernel_rfl
theorem T.en5 : entersB Tryz.prog 5 = true := by kernel_rfl
theorem T.en6 : entersB Tryz.prog 6 = true := by kernel_rfl
theorem T.en7 : entersB Tryz.prog 7 = true := by kernel_rfl
theorem T.en8 : entersB Tryz.prog 8 = true := by kernel_rfl
theorem T.en9 : entersB Tryz.prog 9 = true := by kernel_rfl
theorem T.en10 : entersB Tryz.prog 10 = true := by kernel_rfl
theorem T.en11 : entersB Tryz.prog 11 = true := by kernel_rfl
theorem T.en12 : entersB Tryz.prog 12 = true := by kernel_rfl
theorem T.en13 : entersB Tryz.prog 13 = true := by kernel_rfl
theorem T.en14 : entersB Tryz.prog 14 = true := by kernel_rfl
theorem T.en15 : entersB Tryz.prog 15 = true := by kernel_rfl
theorem T.en16 : entersB Tryz.prog 16 = true := by kernel_rfl
theorem T.en17 : entersB Tryz.prog 17 = true := by kernel_rfl
theorem T.en18 : entersB Tryz.prog 18 = true := by kernel_rfl
theorem T.en19 : entersB Tryz.prog 19 = true := by kernel_rfl
theorem T.en20 : entersB Tryz.prog 20 = true := by kernel_rfl
theorem T.en21 : entersB Tryz.prog 21 = true := by kernel_rfl
theorem T.en22 : entersB Tryz.prog 22 = true := by kernel_rfl
theorem T.en23 : entersB Tryz.prog 23 = true := by kernel_rfl
theorem T.en24 : entersB Tryz.prog 24 = true := by kernel_rfl
theorem T.en25 : entersB Tryz.prog 25 = true := by kernel_rfl
theorem T.en26 : entersB Tryz.prog 26 = true := by kernel_rfl
theorem T.en27 : entersB Tryz.prog 27 = true := by kernel_rfl
theorem T.en28 : entersB Tryz.prog 28 = true := by kernel_rfl
theorem T.en29 : entersB Tryz.prog 29 = true := by kernel_rfl
theorem T.en30 : entersB Tryz.prog 30 = true := by kernel_rfl
theorem T.en31 : entersB Tryz.prog 31 = true := by kernel_rfl
theorem T.en32 : entersB Tryz.prog 32 = true := by kernel_rfl
theorem T.en33 : entersB Tryz.prog 33 = true := by kernel_rfl
theorem T.en34 : entersB Tryz.prog 34 = true := by kernel_rfl
theorem T.en35 : entersB Tryz.prog 35 = true := by kernel_rfl
theorem T.en36 : entersB Tryz.prog 36 = true := by kernel_rfl
theorem T.en37 : entersB Tryz.prog 37 = true := by kernel_rfl
theorem T.en38 : entersB Tryz.prog 38 = true := by kernel_rfl
theorem T.en39 : entersB Tryz.prog 39 = true := by kernel_rfl
theorem T.en40 : entersB Tryz.prog 40 = true := by kernel_rfl
theorem T.en41 : entersB Tryz.prog 41 = true := by kernel_rfl
theorem T.en42 : entersB Tryz.prog 42 = true := by kernel_rfl
theorem T.en43 : entersB Tryz.prog 43 = true := by kernel_rfl
theorem T.en44 : entersB Tryz.prog 44 = true := by kernel_rfl
theorem T.en45 : entersB Tryz.prog 45 = true := by kernel_rfl
theorem T.en46 : entersB Tryz.prog 46 = true := by kernel_rfl
theorem T.en47 : entersB Tryz.prog 47 = true := by kernel_rfl
theorem T.en48 : entersB Tryz.prog 48 = true := by kernel_rfl
theorem T.en49 : entersB Tryz.prog 49 = true := by kernel_rfl
theorem T.en50 : entersB Tryz.prog 50 = true := by kernel_rfl
theorem T.en51 : entersB Tryz.prog 51 = true := by kernel_rfl
theorem T.en52 : entersB Tryz.prog 52 = true := by kernel_rfl
theorem T.en53 : entersB Tryz.prog 53 = true := by kernel_rfl
theorem T.en54 : entersB Tryz.prog 54 = true := by kernel_rfl
theorem T.en55 : entersB Tryz.prog 55 = true := by kernel_rfl
theorem T.en56 : entersB Tryz.prog 56 = true := by kernel_rfl
theorem T.en57 : entersB Tryz.prog 57 = true := by kernel_rfl
theorem T.en58 : entersB Tryz.prog 58 = true := by kernel_rfl
theorem T.en59 : entersB Tryz.prog 59 = true := by kernel_rfl
theorem T.en60 : entersB Tryz.prog 60 = true := by kernel_rfl
theorem T.en61 : entersB Tryz.prog 61 = true := by kernel_rfl
theorem T.en62 : entersB Tryz.prog 62 = true := by kernel_rfl
theorem T.en63 : entersB Tryz.prog 63 = true := by kernel_rfl
theorem T.en64 : entersB Tryz.prog 64 = true := by kernel_rfl
theorem T.en65 : entersB Tryz.prog 65 = true := by kernel_rfl
theorem T.en66 : entersB Tryz.prog 66 = true := by kernel_rfl
theorem T.en67 : entersB Tryz.prog 67 = true := by kernel_rfl
theorem T.en68 : entersB Tryz.prog 68 = true := by kernel_rfl
theorem T.en69 : entersB Tryz.prog 69 = true := by kernel_rfl
theorem T.en70 : entersB Tryz.prog 70 = true := by kernel_rfl
theorem T.en71 : entersB Tryz.prog 71 = true := by kernel_rfl
theorem T.en72 : entersB Tryz.prog 72 = true := by kernel_rfl
theorem T.en73 : entersB Tryz.prog 73 = true := by kernel_rfl
theorem T.en74 : entersB Tryz.prog 74 = true := by kernel_rfl
theorem T.en75 : entersB Tryz.prog 75 = true := by kernel_rfl
theorem T.en76 : entersB Tryz.prog 76 = true := by kernel_rfl
theorem T.en77 : entersB Tryz.prog 77 = true := by kernel_rfl
theorem T.en78 : entersB Tryz.prog 78 = true := by kernel_rfl
theorem T.en80 : entersB Tryz.prog 80 = true := by kernel_rfl
theorem T.en81 : entersB Tryz.prog 81 = true := by kernel_rfl
theorem T.en82 : entersB Tryz.prog 82 = true := by kernel_rfl
theorem T.en83 : entersB Tryz.prog 83 = true := by kernel_rfl
theorem T.en84 : entersB Tryz.prog 84 = true := by kernel_rfl
theorem T.en86 : entersB Tryz.prog 86 = true := by kernel_rfl
theorem T.en87 : entersB Tryz.prog 87 = true := by kernel_rfl
theorem T.en89 : entersB Tryz.prog 89 = true := by kernel_rfl
theorem T.en90 : entersB Tryz.prog 90 = true := by kernel_rfl
theorem T.en91 : entersB Tryz.prog 91 = true := by kernel_rfl
theorem T.en92 : entersB Tryz.prog 92 = true := by kernel_rfl
theorem T.en94 : entersB Tryz.prog 94 = true := by kernel_rfl
theorem T.en95 : entersB Tryz.prog 95 = true := by kernel_rfl
theorem T.en97 : entersB Tryz.prog 97 = true := by kernel_rfl
theorem T.en98 : entersB Tryz.prog 98 = true := by kernel_rfl
theorem T.en99 : entersB Tryz.prog 99 = true := by kernel_rfl
theorem T.en100 : entersB Tryz.prog 100 = true := by kernel_rfl
theorem T.en101 : entersB Tryz.prog 101 = true := by kernel_rfl
theorem T.en102 : entersB Tryz.prog 102 = true := by kernel_rfl
theorem T.en103 : entersB Tryz.prog 103 = true := by kernel_rfl
theorem T.en104 : entersB Tryz.prog 104 = true := by kernel_rfl
theorem T.en105 : entersB Tryz.prog 105 = true := by kernel_rfl
theorem T.en112 : entersB Tryz.prog 112 = true := by kernel_rfl
theorem T.en113 : entersB Tryz.prog 113 = true := by kernel_rfl
theorem T.en114 : entersB Tryz.prog 114 = true := by kernel_rfl
theorem T.en115 : entersB Tryz.prog 115 = true := by kernel_rfl
theorem T.en116 : entersB Tryz.prog 116 = true := by kernel_rfl
theorem T.en117 : entersB Tryz.prog 117 = true := by kernel_rfl
theorem T.en118 : entersB Tryz.prog 118 = true := by kernel_rfl
theorem T.en119 : entersB Tryz.prog 119 = true := by kernel_rfl
theorem T.en120 : entersB Tryz.prog 120 = true := by kernel_rfl
theorem T.en121 : entersB Tryz.prog 121 = true := by kernel_rfl
theorem T.en122 : entersB Tryz.prog 122 = true := by kernel_rfl
theorem T.en123 : entersB Tryz.prog 123 = true := by kernel_rfl
theorem T.en124 : entersB Tryz.prog 124 = true := by kernel_rfl
theorem T.en125 : entersB Tryz.prog 125 = true := by kernel_rfl
theorem T.en126 : entersB Tryz.prog 126 = true := by kernel_rfl
theorem T.en127 : entersB Tryz.prog 127 = true := by kernel_rfl
theorem T.en131 : entersB Tryz.prog 131 = true := by kernel_rfl
theorem T.en132 : entersB Tryz.prog 132 = true := by kernel_rfl
theorem T.en133 : entersB Tryz.prog 133 = true := by kernel_rfl
theorem T.en134 : entersB Tryz.prog 134 = true := by kernel_rfl
theorem T.en135 : entersB Tryz.prog 135 = true := by kernel_rfl
theorem T.en136 : entersB Tryz.prog 136 = true := by kernel_rfl
theorem T.en138 : entersB Tryz.prog 138 = true := by kernel_rfl
theorem T.en139 : entersB Tryz.prog 139 = true := by kernel_rfl
theorem T.en140 : entersB Tryz.prog 140 = true := by kernel_rfl
theorem T.en141 : entersB Tryz.prog 141 = true := by kernel_rfl
theorem T.mixed : Tryz.prog.follows .mixedOrders = true := by kernel_rfl
end Go.Proofs.YtnbokgmimbeihaaGreatDoor

/-! Bb -/
namespace Go.Proofs.YtnbokgmimbeihaaGreatDoor
open Go.Abs
set_option linter.unusedVariables false
set_option linter.unusedSimpArgs false
set_option maxRecDepth 100000

theorem idx_lt' {α : Type} (p : α → Bool) (n : Nat) (g : Nat → α) : idxFrom p (lst n g) 0 < n := by
  rcases idx_spec p (lst n g) 0 with ⟨h, _⟩ | ⟨q, h1, h2, _⟩
  · omega
  · rw [lst_length] at h1; omega

theorem lst_ext {α : Type} {n : Nat} {f g : Nat → α} : lst n f = lst n g ↔ ∀ i, i < n → f i = g i := by
  constructor
  · intro h i hi
    have := congrArg (fun l => l[i]?) h
    simpa [lst_get hi] using this
  · intro h; unfold lst; exact List.map_congr_left fun i hi => h i (by simpa using hi)

theorem lst_succ {α : Type} (n : Nat) (f : Nat → α) : lst (n + 1) f = lst n f ++ [f n] := by simp [lst, List.range_succ]

def firstE (e : Nat → Int) (i : Nat) : Nat → Int
  | 0 => 0
  | k + 1 => if e i ≠ 0 then e i else firstE e (i + 1) k

theorem firstE_zero {e : Nat → Int} : ∀ {k i : Nat}, firstE e i k = 0 → ∀ q, i ≤ q → q < i + k → e q = 0
  | 0, i, _, q, h1, h2 => by omega
  | k + 1, i, h, q, h1, h2 => by
    rw [firstE] at h
    by_cases he : e i = 0
    · rw [if_neg (by simp [he])] at h
      by_cases hq : q = i
      · rw [hq]; exact he
      · exact firstE_zero h q (by omega) (by omega)
    · rw [if_pos he] at h; exact absurd h he

theorem firstE_of {e : Nat → Int} : ∀ {k i : Nat}, (∀ q, i ≤ q → q < i + k → e q = 0) → firstE e i k = 0
  | 0, i, _ => rfl
  | k + 1, i, h => by
    rw [firstE, if_neg (by simp [h i (by omega) (by omega)])]
    exact firstE_of fun q h1 h2 => h q (by omega) (by omega)

theorem firstE_at {e : Nat → Int} : ∀ {k i q : Nat}, i ≤ q → q < i + k → e q ≠ 0 → firstE e i k ≠ 0
  | 0, i, q, h1, h2, _ => by omega
  | k + 1, i, q, h1, h2, h3 => by
    rw [firstE]
    by_cases he : e i = 0
    · rw [if_neg (by simp [he])]
      have : q ≠ i := fun h => h3 (h ▸ he)
      exact firstE_at (by omega) (by omega) h3
    · rw [if_pos he]; exact he

def gather {β : Type} (f : Nat → List β) : Nat → List β
  | 0 => []
  | i + 1 => gather f i ++ f i

theorem gather_len {β : Type} {f : Nat → List β} (h : ∀ i, (f i).length ≤ 1) : ∀ i, (gather f i).length ≤ i
  | 0 => by simp [gather]
  | i + 1 => by have := gather_len h i; have := h i; simp only [gather, List.length_append]; omega

def ascB (g : Nat → Int) : Nat → Bool
  | 0 => true
  | 1 => true
  | i + 2 => ascB g (i + 1) && decide (g i < g (i + 1))

theorem ascB_iff (g : Nat → Int) : ∀ n, ascB g n = true ↔ ∀ i, 0 < i → i < n → g (i - 1) < g i
  | 0 => by simp [ascB]
  | 1 => by simp only [ascB, true_iff]; intro i h1 h2; omega
  | n + 2 => by
    rw [ascB, Bool.and_eq_true, ascB_iff g (n + 1)]
    constructor
    · rintro ⟨h1, h2⟩ i hp hi
      by_cases he : i = n + 1
      · subst he; simpa using h2
      · exact h1 i hp (by omega)
    · intro h
      exact ⟨fun i hp hi => h i hp (by omega), by simpa using h (n + 1) (by omega) (by omega)⟩

theorem asc_step {g : Nat → Int} {i : Nat} (hx : ∀ q, 0 < q → q < i → g (q - 1) < g q) (h : 0 < i → g (i - 1) < g i) : ∀ q, 0 < q → q < i + 1 → g (q - 1) < g q := by
  intro q hp hq
  by_cases hqi : q = i
  · subst hqi; exact h hp
  · exact hx q hp (by omega)

theorem asc_yes {g : Nat → Int} {n : Nat} (h : ∀ q, 0 < q → q < n → g (q - 1) < g q) : ascB g n = true := (ascB_iff g n).2 h

theorem asc_no {g : Nat → Int} {n i : Nat} (hi : i < n) (hp : 0 < i) (h : g i ≤ g (i - 1)) : ascB g n = false := by
  cases hb : ascB g n with
  | false => rfl
  | true => have := (ascB_iff g n).1 hb i hp hi; omega

open Classical in
noncomputable def eqL {α : Type} (l m : List α) : Bool := decide (l = m)

theorem eqL_iff {α : Type} {l m : List α} : eqL l m = true ↔ l = m := by unfold eqL; simp

theorem eqL_not {α : Type} {l m : List α} : eqL l m = false ↔ l ≠ m := by rw [← Bool.not_eq_true, eqL_iff]

theorem eqL_len {α : Type} {n m : Nat} {f g : Nat → α} (h : ¬ n = m) : eqL (lst n f) (lst m g) = false := by
  rw [eqL_not]; intro he; have := congrArg List.length he; rw [lst_length, lst_length] at this; exact h this

theorem eqL_at {α : Type} {n m : Nat} {f g : Nat → α} {i : Nat} (h1 : i < n) (h2 : i < m) (h : f i ≠ g i) : eqL (lst n f) (lst m g) = false := by
  rw [eqL_not]; intro he
  have e1 := lst_get (f := f) h1
  rw [he, lst_get h2] at e1
  exact h (Option.some.inj e1).symm

theorem lst_congr {α : Type} {n : Nat} {f g : Nat → α} (h : ∀ q, q < n → f q = g q) : lst n f = lst n g :=
  List.map_congr_left fun q hq => h q (by simpa using hq)

theorem eqL_yes {α : Type} {n m : Nat} {f g : Nat → α} (h : n = m) (hq : ∀ q, q < n → f q = g q) : eqL (lst n f) (lst m g) = true := by
  rw [eqL_iff, ← h]; exact lst_congr hq

theorem eqL_self {α : Type} (l : List α) : eqL l l = true := eqL_iff.2 rfl

theorem gather_le {β : Type} {f : Nat → List β} {m : Nat} : ∀ {i : Nat}, (∀ q, q < i → (f q).length ≤ m) → (gather f i).length ≤ i * m
  | 0, _ => by simp [gather]
  | i + 1, h => by
    have h1 := gather_le (i := i) fun q hq => h q (by omega)
    have h2 := h i (by omega)
    simp only [gather, List.length_append, Nat.add_mul, Nat.one_mul]; omega

theorem lst_map_nth {α β : Type} [Inhabited α] (f : α → β) (L : List α) : lst L.length (fun q => f (nth L q)) = L.map f := by
  have := lst_nth L
  rw [← congrArg (List.map f) this]
  simp [lst]

theorem nth_map {α β : Type} [Inhabited α] [Inhabited β] (f : α → β) {L : List α} {i : Nat} (h : i < L.length) : nth (L.map f) i = f (nth L i) := by simp [nth, h]

theorem mem_gather {β : Type} {f : Nat → List β} {x : β} : ∀ {n : Nat}, x ∈ gather f n ↔ ∃ q, q < n ∧ x ∈ f q
  | 0 => by simp [gather]
  | n + 1 => by
    rw [gather, List.mem_append, mem_gather]
    constructor
    · rintro (⟨q, h1, h2⟩ | h)
      · exact ⟨q, by omega, h2⟩
      · exact ⟨n, by omega, h⟩
    · rintro ⟨q, h1, h2⟩
      rcases Nat.lt_or_eq_of_le (Nat.le_of_lt_succ h1) with h | h
      · exact .inl ⟨q, h, h2⟩
      · exact .inr (h ▸ h2)

theorem nth_mem {α : Type} [Inhabited α] {L : List α} {i : Nat} (h : i < L.length) : nth L i ∈ L := by rw [nth_eq h]; exact List.getElem_mem h

theorem gather_congr {β : Type} {f f' : Nat → List β} : ∀ n, (∀ q, q < n → f q = f' q) → gather f n = gather f' n
  | 0, _ => rfl
  | n + 1, h => by rw [gather, gather, gather_congr n fun q hq => h q (by omega), h n (by omega)]

theorem nth_lst {α : Type} [Inhabited α] {n : Nat} {g : Nat → α} {i : Nat} (h : i < n) : nth (lst n g) i = g i := by simp [nth, lst_get h]

theorem nth_app {α : Type} [Inhabited α] {l : List α} {x : α} {i : Nat} : nth (l ++ [x]) i = if i < l.length then nth l i else if i = l.length then x else default := by
  unfold nth
  by_cases h : i < l.length
  · rw [if_pos h, List.getElem?_append_left h]
  · rw [if_neg h, List.getElem?_append_right (by omega)]
    by_cases e : i = l.length
    · subst e; simp
    · simp [e, List.getElem?_eq_none (show [x].length ≤ i - l.length by simp; omega)]

theorem gather_shift {β : Type} (f : Nat → List β) : ∀ k, gather f (k + 1) = f 0 ++ gather (fun i => f (i + 1)) k
  | 0 => by simp [gather]
  | k + 1 => by rw [gather, gather_shift f k, gather]; simp

end Go.Proofs.YtnbokgmimbeihaaGreatDoor

/-! St -/
namespace Go.Proofs
open Go.Shelf
def Tryz.strContains_ren : Go.Shelf.Ren := ⟨fun | 144 => 103 | 143 => 126 | 219 => 137 | 217 => 142 | 225 => 143 | 224 => 144 | 267 => 145 | 266 => 146 | 314 => 147 | n => n, fun | 9 => 9 | 4 => 4 | 3 => 3 | 5 => 5 | 46 => 100 | 146 => 129 | 51 => 128 | n => n, fun | 1 => 0 | n => n⟩
theorem Tryz.strContains : Go.Proofs.Lays.n144 Tryz.prog Tryz.strContains_ren := {
  mixed := by kernel_rfl
  f143 := Tryz.func126.trans (congrArg some (by kernel_rfl))
  f144 := Tryz.func103.trans (congrArg some (by kernel_rfl))
  f217 := Tryz.func142.trans (congrArg some (by kernel_rfl))
  f219 := Tryz.func137.trans (congrArg some (by kernel_rfl))
  f224 := Tryz.func144.trans (congrArg some (by kernel_rfl))
  f225 := Tryz.func143.trans (congrArg some (by kernel_rfl))
  f266 := Tryz.func146.trans (congrArg some (by kernel_rfl))
  f267 := Tryz.func145.trans (congrArg some (by kernel_rfl))
  f314 := Tryz.func147.trans (congrArg some (by kernel_rfl))
  t3 := Tryz.underlying3
  a3 := Tryz.isAgg3
  z3 := Tryz.sizeOf3
  v3 := Tryz.zeroValue3
  t4 := Tryz.underlying4
  a4 := Tryz.isAgg4
  z4 := Tryz.sizeOf4
  v4 := Tryz.zeroValue4
  t5 := Tryz.underlying5
  a5 := Tryz.isAgg5
  z5 := Tryz.sizeOf5
  v5 := Tryz.zeroValue5
  t9 := Tryz.underlying9
  a9 := Tryz.isAgg9
  z9 := Tryz.sizeOf9
  v9 := Tryz.zeroValue9
  t46 := Tryz.underlying100
  a46 := Tryz.isAgg100
  z46 := Tryz.sizeOf100
  v46 := Tryz.zeroValue100
  t51 := Tryz.underlying128
  a51 := Tryz.isAgg128
  z51 := Tryz.sizeOf128
  v51 := Tryz.zeroValue128
  t146 := Tryz.underlying129
  a146 := Tryz.isAgg129
  z146 := Tryz.sizeOf129
  v146 := Tryz.zeroValue129
  g1 := by kernel_rfl }
def Tryz.strContainsFunc_ren : Go.Shelf.Ren := ⟨fun | 17 => 104 | 15 => 127 | 20 => 138 | n => n, fun | 9 => 9 | 23 => 140 | 4 => 4 | 3 => 3 | 0 => 0 | 21 => 21 | n => n, fun | n => n⟩
theorem Tryz.strContainsFunc : Go.Proofs.LaysGw.n17 Tryz.prog Tryz.strContainsFunc_ren := {
  mixed := by kernel_rfl
  f15 := Tryz.func127.trans (congrArg some (by kernel_rfl))
  f17 := Tryz.func104.trans (congrArg some (by kernel_rfl))
  f20 := Tryz.func138.trans (congrArg some (by kernel_rfl))
  t0 := Tryz.underlying0
  a0 := Tryz.isAgg0
  z0 := Tryz.sizeOf0
  v0 := Tryz.zeroValue0
  i0 := by kernel_rfl
  t3 := Tryz.underlying3
  a3 := Tryz.isAgg3
  z3 := Tryz.sizeOf3
  v3 := Tryz.zeroValue3
  i3 := by kernel_rfl
  t4 := Tryz.underlying4
  a4 := Tryz.isAgg4
  z4 := Tryz.sizeOf4
  v4 := Tryz.zeroValue4
  i4 := by kernel_rfl
  t9 := Tryz.underlying9
  a9 := Tryz.isAgg9
  z9 := Tryz.sizeOf9
  v9 := Tryz.zeroValue9
  i9 := by kernel_rfl
  t21 := Tryz.underlying21
  a21 := Tryz.isAgg21
  z21 := Tryz.sizeOf21
  v21 := Tryz.zeroValue21
  i21 := by kernel_rfl
  t23 := Tryz.underlying140
  a23 := Tryz.isAgg140
  z23 := Tryz.sizeOf140
  v23 := Tryz.zeroValue140
  i23 := by kernel_rfl }
def Tryz.itoa_ren : Go.Shelf.Ren := ⟨fun | 171 => 44 | 243 => 79 | 246 => 96 | 283 => 108 | 284 => 109 | 285 => 110 | 286 => 111 | 129 => 121 | 317 => 128 | 318 => 129 | 319 => 130 | 320 => 131 | 337 => 139 | 338 => 140 | n => n, fun | 3 => 3 | 9 => 9 | 2 => 2 | 4 => 4 | 171 => 144 | 0 => 0 | 53 => 131 | 37 => 105 | 5 => 5 | 173 => 147 | 212 => 164 | 51 => 128 | 20 => 20 | 213 => 165 | 46 => 100 | 232 => 177 | 233 => 178 | n => n, fun | 17 => 1 | 18 => 2 | 19 => 3 | n => n⟩
theorem Tryz.itoa : Go.Proofs.LaysM.n171 Tryz.prog Tryz.itoa_ren := {
  mixed := by kernel_rfl
  f129 := Tryz.func121.trans (congrArg some (by kernel_rfl))
  f171 := Tryz.func44.trans (congrArg some (by kernel_rfl))
  f243 := Tryz.func79.trans (congrArg some (by kernel_rfl))
  f246 := Tryz.func96.trans (congrArg some (by kernel_rfl))
  f283 := Tryz.func108.trans (congrArg some (by kernel_rfl))
  f284 := Tryz.func109.trans (congrArg some (by kernel_rfl))
  f285 := Tryz.func110.trans (congrArg some (by kernel_rfl))
  f286 := Tryz.func111.trans (congrArg some (by kernel_rfl))
  f317 := Tryz.func128.trans (congrArg some (by kernel_rfl))
  f318 := Tryz.func129.trans (congrArg some (by kernel_rfl))
  f319 := Tryz.func130.trans (congrArg some (by kernel_rfl))
  f320 := Tryz.func131.trans (congrArg some (by kernel_rfl))
  f337 := Tryz.func139.trans (congrArg some (by kernel_rfl))
  f338 := Tryz.func140.trans (congrArg some (by kernel_rfl))
  t0 := Tryz.underlying0
  a0 := Tryz.isAgg0
  z0 := Tryz.sizeOf0
  v0 := Tryz.zeroValue0
  t2 := Tryz.underlying2
  a2 := Tryz.isAgg2
  z2 := Tryz.sizeOf2
  v2 := Tryz.zeroValue2
  t3 := Tryz.underlying3
  a3 := Tryz.isAgg3
  z3 := Tryz.sizeOf3
  v3 := Tryz.zeroValue3
  t4 := Tryz.underlying4
  a4 := Tryz.isAgg4
  z4 := Tryz.sizeOf4
  v4 := Tryz.zeroValue4
  t5 := Tryz.underlying5
  a5 := Tryz.isAgg5
  z5 := Tryz.sizeOf5
  v5 := Tryz.zeroValue5
  t9 := Tryz.underlying9
  a9 := Tryz.isAgg9
  z9 := Tryz.sizeOf9
  v9 := Tryz.zeroValue9
  t20 := Tryz.underlying20
  a20 := Tryz.isAgg20
  z20 := Tryz.sizeOf20
  v20 := Tryz.zeroValue20
  t37 := Tryz.underlying105
  a37 := Tryz.isAgg105
  z37 := Tryz.sizeOf105
  v37 := Tryz.zeroValue105
  t46 := Tryz.underlying100
  a46 := Tryz.isAgg100
  z46 := Tryz.sizeOf100
  v46 := Tryz.zeroValue100
  t51 := Tryz.underlying128
  a51 := Tryz.isAgg128
  z51 := Tryz.sizeOf128
  v51 := Tryz.zeroValue128
  t53 := Tryz.underlying131
  a53 := Tryz.isAgg131
  z53 := Tryz.sizeOf131
  v53 := Tryz.zeroValue131
  t171 := Tryz.underlying144
  a171 := Tryz.isAgg144
  z171 := Tryz.sizeOf144
  v171 := Tryz.zeroValue144
  t173 := Tryz.underlying147
  a173 := Tryz.isAgg147
  z173 := Tryz.sizeOf147
  v173 := Tryz.zeroValue147
  t212 := Tryz.underlying164
  a212 := Tryz.isAgg164
  z212 := Tryz.sizeOf164
  v212 := Tryz.zeroValue164
  t213 := Tryz.underlying165
  a213 := Tryz.isAgg165
  z213 := Tryz.sizeOf165
  t232 := Tryz.underlying177
  a232 := Tryz.isAgg177
  z232 := Tryz.sizeOf177
  v232 := Tryz.zeroValue177
  t233 := Tryz.underlying178
  a233 := Tryz.isAgg178
  z233 := Tryz.sizeOf178
  v233 := Tryz.zeroValue178
  g17 := by kernel_rfl
  g18 := by kernel_rfl
  g19 := by kernel_rfl
  i0 := by kernel_rfl
  i2 := by kernel_rfl
  i3 := by kernel_rfl
  i4 := by kernel_rfl
  i5 := by kernel_rfl
  i9 := by kernel_rfl
  i20 := by kernel_rfl
  i37 := by kernel_rfl
  i46 := by kernel_rfl
  i51 := by kernel_rfl
  i53 := by kernel_rfl
  i171 := by kernel_rfl
  i173 := by kernel_rfl
  i212 := by kernel_rfl
  i232 := by kernel_rfl
  i233 := by kernel_rfl
  m17 := by kernel_rfl
  m18 := by kernel_rfl
  m19 := by kernel_rfl }
def Tryz.strRepeat_ren : Go.Shelf.Ren := ⟨fun | 105 => 37 | 212 => 71 | 99 => 72 | 165 => 73 | 166 => 74 | 170 => 75 | 169 => 76 | 263 => 91 | 264 => 92 | 206 => 93 | 240 => 94 | 241 => 95 | 276 => 106 | 277 => 107 | n => n, fun | 9 => 9 | 3 => 3 | 4 => 4 | 20 => 20 | 0 => 0 | 46 => 100 | 109 => 101 | 5 => 5 | 72 => 107 | 76 => 111 | 51 => 128 | 146 => 129 | 53 => 131 | 148 => 132 | 70 => 104 | 37 => 105 | 75 => 110 | 127 => 134 | 164 => 141 | 80 => 114 | n => n, fun | n => n⟩
theorem Tryz.strRepeat : Go.Proofs.Lays.n105 Tryz.prog Tryz.strRepeat_ren := {
  mixed := by kernel_rfl
  f99 := Tryz.func72.trans (congrArg some (by kernel_rfl))
  f105 := Tryz.func37.trans (congrArg some (by kernel_rfl))
  f165 := Tryz.func73.trans (congrArg some (by kernel_rfl))
  f166 := Tryz.func74.trans (congrArg some (by kernel_rfl))
  f169 := Tryz.func76.trans (congrArg some (by kernel_rfl))
  f170 := Tryz.func75.trans (congrArg some (by kernel_rfl))
  f206 := Tryz.func93.trans (congrArg some (by kernel_rfl))
  f212 := Tryz.func71.trans (congrArg some (by kernel_rfl))
  f240 := Tryz.func94.trans (congrArg some (by kernel_rfl))
  f241 := Tryz.func95.trans (congrArg some (by kernel_rfl))
  f263 := Tryz.func91.trans (congrArg some (by kernel_rfl))
  f264 := Tryz.func92.trans (congrArg some (by kernel_rfl))
  f276 := Tryz.func106.trans (congrArg some (by kernel_rfl))
  f277 := Tryz.func107.trans (congrArg some (by kernel_rfl))
  t0 := Tryz.underlying0
  a0 := Tryz.isAgg0
  z0 := Tryz.sizeOf0
  v0 := Tryz.zeroValue0
  t3 := Tryz.underlying3
  a3 := Tryz.isAgg3
  z3 := Tryz.sizeOf3
  v3 := Tryz.zeroValue3
  t4 := Tryz.underlying4
  a4 := Tryz.isAgg4
  z4 := Tryz.sizeOf4
  v4 := Tryz.zeroValue4
  t5 := Tryz.underlying5
  a5 := Tryz.isAgg5
  z5 := Tryz.sizeOf5
  v5 := Tryz.zeroValue5
  t9 := Tryz.underlying9
  a9 := Tryz.isAgg9
  z9 := Tryz.sizeOf9
  v9 := Tryz.zeroValue9
  t20 := Tryz.underlying20
  a20 := Tryz.isAgg20
  z20 := Tryz.sizeOf20
  v20 := Tryz.zeroValue20
  t37 := Tryz.underlying105
  a37 := Tryz.isAgg105
  z37 := Tryz.sizeOf105
  v37 := Tryz.zeroValue105
  t46 := Tryz.underlying100
  a46 := Tryz.isAgg100
  z46 := Tryz.sizeOf100
  v46 := Tryz.zeroValue100
  t51 := Tryz.underlying128
  a51 := Tryz.isAgg128
  z51 := Tryz.sizeOf128
  v51 := Tryz.zeroValue128
  t53 := Tryz.underlying131
  a53 := Tryz.isAgg131
  z53 := Tryz.sizeOf131
  v53 := Tryz.zeroValue131
  t70 := Tryz.underlying104
  a70 := Tryz.isAgg104
  z70 := Tryz.sizeOf104
  v70 := Tryz.zeroValue104
  t72 := Tryz.underlying107
  a72 := Tryz.isAgg107
  z72 := Tryz.sizeOf107
  v72 := Tryz.zeroValue107
  t75 := Tryz.underlying110
  a75 := Tryz.isAgg110
  z75 := Tryz.sizeOf110
  v75 := Tryz.zeroValue110
  t76 := Tryz.underlying111
  a76 := Tryz.isAgg111
  z76 := Tryz.sizeOf111
  v76 := Tryz.zeroValue111
  t109 := Tryz.underlying101
  a109 := Tryz.isAgg101
  z109 := Tryz.sizeOf101
  v109 := Tryz.zeroValue101
  t127 := Tryz.underlying134
  a127 := Tryz.isAgg134
  z127 := Tryz.sizeOf134
  v127 := Tryz.zeroValue134
  t146 := Tryz.underlying129
  a146 := Tryz.isAgg129
  z146 := Tryz.sizeOf129
  v146 := Tryz.zeroValue129
  t148 := Tryz.underlying132
  a148 := Tryz.isAgg132
  z148 := Tryz.sizeOf132
  v148 := Tryz.zeroValue132
  t164 := Tryz.underlying141
  a164 := Tryz.isAgg141
  z164 := Tryz.sizeOf141
  v164 := Tryz.zeroValue141 }
end Go.Proofs

/-! Pn -/
namespace Go.Arch
set_option linter.unusedVariables false
set_option linter.unusedSimpArgs false

/-- a byte of a string -/
def bt (s : ByteArray) (i : Nat) : Nat := ((s[i]?).getD 0).toNat
theorem bt_lt {s : ByteArray} {i : Nat} (h : i < s.size) : bt s i = (s[i]'h).toNat := by unfold bt; rw [getElem?_pos s i h]; rfl
def outB (c : Nat) : Bool := decide (c < 32) || decide (126 < c)

theorem idx_out (s : ByteArray) : ∀ f pos, s.size ≤ pos + f → (0 ≤ Lib.idxFuncFrom outB true s f pos ↔ ∃ i, pos ≤ i ∧ i < s.size ∧ outB (bt s i) = true)
  | 0, pos, h => by
    simp only [Lib.idxFuncFrom]
    constructor
    · intro h0; omega
    · rintro ⟨i, h1, h2, _⟩; omega
  | f + 1, pos, h => by
    simp only [Lib.idxFuncFrom]
    by_cases hp : pos < s.size
    · rw [if_pos hp]
      by_cases ha : (s[pos]'hp).toNat < 128
      · rw [Go.decode_ascii s pos hp ha]
        simp only
        rw [← bt_lt hp]
        by_cases ho : outB (bt s pos) = true
        · rw [if_pos ho]
          exact ⟨fun _ => ⟨pos, Nat.le_refl _, hp, ho⟩, fun _ => by omega⟩
        · rw [if_neg ho, idx_out s f (pos + 1) (by omega)]
          constructor
          · rintro ⟨i, h1, h2, h3⟩; exact ⟨i, by omega, h2, h3⟩
          · rintro ⟨i, h1, h2, h3⟩
            have : i ≠ pos := fun e => ho (e ▸ h3)
            exact ⟨i, by omega, h2, h3⟩
      · have hd := (Go.decode_high s pos hp (by omega)).1
        have ho : outB (Utf8.decode s pos).1 = true := by unfold outB; simp; omega
        rw [if_pos ho]
        refine ⟨fun _ => ⟨pos, Nat.le_refl _, hp, ?_⟩, fun _ => by omega⟩
        rw [bt_lt hp]; unfold outB; simp; omega
    · rw [if_neg hp]
      constructor
      · intro h0; omega
      · rintro ⟨i, h1, h2, _⟩; omega

theorem idx_two : ∀ (l : List UInt8) (c : UInt8), 0 ≤ Lib.index l [c, c] ↔ ∃ i, l[i]? = some c ∧ l[i + 1]? = some c
  | [], c => by simp [Lib.index]
  | b :: l, c => by
    have ih := idx_two l c
    rw [Lib.index]
    by_cases hp : [c, c].isPrefixOf (b :: l) = true
    · rw [if_pos hp]
      simp only [Int.le_refl, true_iff]
      cases l with
      | nil => simp [List.isPrefixOf] at hp
      | cons d l =>
        simp [List.isPrefixOf] at hp
        exact ⟨0, by simp [hp.1], by simp [hp.2]⟩
    · rw [if_neg hp]
      have hge : ∀ (l : List UInt8) (sub : List UInt8), -1 ≤ Lib.index l sub := by
        intro l sub
        induction l with
        | nil => rw [Lib.index]; split <;> omega
        | cons b l ih => rw [Lib.index]; split; · omega
                         split <;> omega
      have h1 := hge l [c, c]
      have h2 : 0 ≤ (if (Lib.index l [c, c] == -1) = true then (-1 : Int) else Lib.index l [c, c] + 1) ↔ 0 ≤ Lib.index l [c, c] := by
        by_cases he : Lib.index l [c, c] = -1
        · rw [he]; simp
        · rw [if_neg (by simpa using he)]; omega
      rw [h2, ih]
      constructor
      · rintro ⟨i, h3, h4⟩; exact ⟨i + 1, by simpa using h3, by simpa using h4⟩
      · rintro ⟨i, h3, h4⟩
        cases i with
        | zero =>
          exfalso
          apply hp
          simp at h3 h4
          cases l with
          | nil => simp at h4
          | cons d l => simp at h4; subst h3; subst h4; simp [List.isPrefixOf]
        | succ i => exact ⟨i, by simpa using h3, by simpa using h4⟩

theorem bt_list (s : ByteArray) (i : Nat) (hi : i < s.size) (c : UInt8) : s.data.toList[i]? = some c ↔ bt s i = c.toNat := by
  have e : s.data.toList[i]? = some (s[i]'hi) := by
    rw [Array.getElem?_toList]
    have : i < s.data.size := hi
    rw [Array.getElem?_eq_getElem this]; rfl
  rw [e, bt_lt hi, Option.some.injEq]
  exact ⟨fun h => by rw [h], fun h => UInt8.toNat_inj.1 h⟩

theorem contains_two (s : ByteArray) : Lib.contains s.data.toList [32, 32] = true ↔ ∃ i, i + 1 < s.size ∧ bt s i = 32 ∧ bt s (i + 1) = 32 := by
  unfold Lib.contains
  rw [decide_eq_true_iff, idx_two]
  have hs : s.data.toList.length = s.size := by rw [Array.length_toList]; rfl
  constructor
  · rintro ⟨i, h1, h2⟩
    have h3 : i + 1 < s.size := by rw [← hs]; exact (List.getElem?_eq_some_iff.1 h2).1
    exact ⟨i, h3, (bt_list s i (by omega) 32).1 h1, (bt_list s (i + 1) h3 32).1 h2⟩
  · rintro ⟨i, h1, h2, h3⟩
    exact ⟨i, (bt_list s i (by omega) 32).2 h2, (bt_list s (i + 1) h1 32).2 h3⟩

/-- a byte of a name, with the one before -/
def nameAt (s : ByteArray) (i : Nat) : Bool := decide (32 ≤ bt s i) && decide (bt s i ≤ 126) && !(decide (0 < i) && decide (bt s i = 32) && decide (bt s (i - 1) = 32))
def namedB (s : ByteArray) : Bool := decide (1 ≤ s.size) && decide (s.size ≤ 64) && !decide (bt s 0 = 32) && !decide (bt s (s.size - 1) = 32) && (List.range s.size).all (nameAt s)

theorem named_iff (s : ByteArray) : namedB s = true ↔ 1 ≤ s.size ∧ s.size ≤ 64 ∧ bt s 0 ≠ 32 ∧ bt s (s.size - 1) ≠ 32 ∧ (∀ i, i < s.size → nameAt s i = true) := by
  unfold namedB; simp [and_assoc]

theorem named_prog (s : ByteArray) : namedB s = (decide (1 ≤ s.size) && decide (s.size ≤ 64) && !decide (bt s 0 = 32) && !decide (bt s (s.size - 1) = 32) && !Lib.contains s.data.toList [32, 32] && !decide (0 ≤ Lib.idxFunc outB true s)) := by
  have h1 := idx_out s s.size 0 (by omega)
  have h2 := contains_two s
  have key : (List.range s.size).all (nameAt s) = (!Lib.contains s.data.toList [32, 32] && !decide (0 ≤ Lib.idxFunc outB true s)) := by
    rw [Bool.eq_iff_iff]
    simp only [List.all_eq_true, List.mem_range, Bool.and_eq_true, Bool.not_eq_true', decide_eq_false_iff_not]
    unfold Lib.idxFunc
    rw [h1, ← Bool.not_eq_true, h2]
    constructor
    · intro h
      refine ⟨?_, ?_⟩
      · rintro ⟨i, h3, h4, h5⟩
        have := h (i + 1) h3
        simp [nameAt, h4, h5] at this
      · rintro ⟨i, _, h3, h4⟩
        have := h i h3
        simp [nameAt] at this
        simp [outB] at h4
        omega
    · rintro ⟨h3, h4⟩ i hi
      have h5 : ¬ outB (bt s i) = true := fun h => h4 ⟨i, by omega, hi, h⟩
      simp [outB] at h5
      simp only [nameAt, Bool.and_eq_true, decide_eq_true_eq, Bool.not_eq_true', Bool.and_eq_false_iff, decide_eq_false_iff_not]
      refine ⟨⟨by omega, by omega⟩, ?_⟩
      by_cases h0 : 0 < i
      · by_cases h6 : bt s i = 32
        · right; intro h7
          exact h3 ⟨i - 1, by omega, h7, by rw [show i - 1 + 1 = i by omega]; exact h6⟩
        · left; right; exact h6
      · left; left; exact h0
  unfold namedB
  rw [key]
  simp only [Bool.and_assoc]

end Go.Arch

/-! Su -/
namespace Go.Proofs.YtnbokgmimbeihaaGreatDoor
open Go.Abs Go.Arch Go.Shelf Go.RowKit Go.Lib Go.Proofs
set_option linter.unusedVariables false
set_option linter.unusedSimpArgs false
set_option maxRecDepth 100000
set_option maxHeartbeats 400000

abbrev Sb (s : ByteArray) : D := .v (.string s)

theorem strContains_cs (σ : List Blk) (hσ : σ[0]? = some (.loc 0)) (s t : ByteArray) (hs : s.size < 4294967281) : CSF Tryz.prog 103 [.d (Sb s), .d (Sb t)] σ (.d (B (Lib.contains s.data.toList t.data.toList))) := by
  refine CSF.of_calls T.en103 #[.string s, .string t] (fun w j vs hr => rs_vals2 hr (fun _ h => R_v h) (fun _ h => R_v h)) (fun w j hS => ?_)
  obtain ⟨m, hm⟩ := loc_cell hS hσ
  exact (Any.strings_Contains Tryz.strContains s t m w hs hm).mono fun e w' ⟨he, hw⟩ => ⟨he, by rw [hw]; exact Below.refl _ _⟩

set_option maxHeartbeats 1000000 in
theorem isName1_gives (W : World) (x : Nat) (hx : x ≤ 1114111) : FnGives Tryz.prog 105 #[] #[encR x] (.bool (outB x)) W := by
  unfold FnGives encR outB
  go_enter Tryz.func105, Tryz.ntmps105
  go_wp2
  all_goals (go_ret; refine ⟨congrArg Ending.returned (congrArg Value.bool (?_ : _ = _)), 0, rfl⟩; rw [Bool.eq_iff_iff]; simp; omega)

theorem containsOut_cs (σ : List Blk) (s : ByteArray) : CSF Tryz.prog 104 [.d (Sb s), .clo (.func 105) [] []] σ (.d (B (decide (0 ≤ Lib.idxFunc outB true s)))) := by
  refine CSF.of_calls T.en104 #[.string s, .func (.func 105) #[] #[]] (fun w j vs hr => rs_vals2 hr (fun _ h => R_v h) (fun _ h => R_clo0 h)) (fun w j hS => ?_)
  exact Any.strings_ContainsFunc_runes Tryz.strContainsFunc 105 #[] (fun args w => callFunc_enters T.en105 args w) outB s w fun W x hx _ => isName1_gives W x hx

end Go.Proofs.YtnbokgmimbeihaaGreatDoor

/-! Ca -/
namespace Go.Proofs.YtnbokgmimbeihaaGreatDoor
open Go.Abs Go.Arch
set_option linter.unusedVariables false
set_option linter.unusedSimpArgs false
set_option maxRecDepth 100000
set_option maxHeartbeats 1000000

structure Lis where
  Number : Int
  File : Int
  Title : ByteArray
  First : Int
  Last : Int
  Pages : Int
  Digest : ByteArray
instance : Inhabited Lis := ⟨⟨0, 0, ByteArray.empty, 0, 0, 0, ByteArray.empty⟩⟩
def Lis.enc (x : Lis) : List D := [I x.Number, I x.File, Sb x.Title, I x.First, I x.Last, I x.Pages, Sb x.Digest]
structure TL where
  ID : Int
  Office : Int
  Day : Int
  n : Nat
  g : Nat → Lis
def TL.enc (t : TL) : List D := [I t.ID, I t.Office, I t.Day, SL none 7 Lis.enc t.n t.g]
attribute [go_sem] Lis.enc TL.enc
def inB (n lo hi : Int) : Bool := decide (lo ≤ n) && decide (n ≤ hi)
theorem inB_iff {n lo hi : Int} : inB n lo hi = true ↔ lo ≤ n ∧ n ≤ hi := by unfold inB; simp
theorem inB_no {n lo hi : Int} : inB n lo hi = false ↔ n < lo ∨ hi < n := by rw [← Bool.not_eq_true, inB_iff]; omega
def datB (a b : Int) : Bool := decide (0 ≤ a) && decide (a ≤ b) && decide (b ≤ 1048575)
def rangeB (x : Lis) : Bool := inB x.Number 1 9999 && inB x.File 1 1073741824 && inB x.Pages 1 100000 && datB x.First x.Last
theorem rangeB_iff (x : Lis) : rangeB x = true ↔ inB x.Number 1 9999 = true ∧ inB x.File 1 1073741824 = true ∧ inB x.Pages 1 100000 = true ∧ 0 ≤ x.First ∧ x.First ≤ x.Last ∧ x.Last ≤ 1048575 := by unfold rangeB datB; simp [and_assoc]
def lisE0 (x : Lis) : Int := if rangeB x = false then 2 else if namedB x.Title = false then 4 else if x.Digest.size ≠ 32 then 1 else 0
def twiceB (g : Nat → Lis) (i : Nat) : Bool := (lst i fun q => (g q).File).any (· == (g i).File)
def lisE (g : Nat → Lis) (i : Nat) : Int := if lisE0 (g i) ≠ 0 then lisE0 (g i) else if 0 < i ∧ (g i).Number ≤ (g (i - 1)).Number then 5 else if twiceB g i = true then 6 else 0
/-- the first place with a fault, and the fault -/
def firstP (e : Nat → Int) (i : Nat) : Nat → Int × Int
  | 0 => (-1, 0)
  | k + 1 => if e i ≠ 0 then (i, e i) else firstP e (i + 1) k
def tlHead (t : TL) : Bool := inB t.ID 1 1073741824 && inB t.Office 1 1073741824 && inB t.Day 0 1048575
def tlChk (t : TL) : Int × Int := if tlHead t = false then (-1, 2) else if t.n = 0 then (-1, 9) else if 128 < t.n then (-1, 8) else firstP (lisE t.g) 0 t.n
theorem firstP_step {e : Nat → Int} {i n : Nat} (h : i < n) : firstP e i (n - i) = if e i ≠ 0 then ((i : Int), e i) else firstP e (i + 1) (n - (i + 1)) := by
  obtain ⟨k, hk⟩ : ∃ k, n - i = k + 1 := ⟨n - i - 1, by omega⟩
  rw [hk, firstP, show n - (i + 1) = k by omega]
theorem firstP_snd {e : Nat → Int} : ∀ {k i : Nat}, (firstP e i k).2 = 0 ↔ ∀ q, i ≤ q → q < i + k → e q = 0
  | 0, i => by simp [firstP]; omega
  | k + 1, i => by
    rw [firstP]
    by_cases h : e i = 0
    · rw [if_neg (by simp [h]), firstP_snd]
      constructor
      · intro h1 q h2 h3
        by_cases hq : q = i
        · rw [hq]; exact h
        · exact h1 q (by omega) (by omega)
      · intro h1 q h2 h3; exact h1 q (by omega) (by omega)
    · rw [if_pos h]
      constructor
      · intro h1; exact absurd h1 h
      · intro h1; exact absurd (h1 i (Nat.le_refl _) (by omega)) h
theorem firstP_len {e : Nat → Int} : ∀ {k i : Nat}, -1 ≤ (firstP e i k).1 ∧ (firstP e i k).1 < i + k
  | 0, i => by simp [firstP]; omega
  | k + 1, i => by
    rw [firstP]
    split
    · dsimp only; omega
    · have := firstP_len (e := e) (k := k) (i := i + 1); omega
theorem mem_files {g : Nat → Lis} {i : Nat} {x : Int} : Key.i x ∈ (lst i fun q => Key.i (g q).File) ↔ (lst i fun q => (g q).File).any (· == x) = true := by
  simp only [lst, List.mem_map, List.mem_range, List.any_map, List.any_eq_true, Function.comp, beq_iff_eq, Key.i.injEq]
theorem dec_files (g : Nat → Lis) (i : Nat) : decide (Key.i (g i).File ∈ lst i fun q => Key.i (g q).File) = twiceB g i := by
  rw [Bool.eq_iff_iff, decide_eq_true_iff, mem_files]; rfl
theorem updK_const (v : AV) (κ : Key) : updK (fun _ => v) κ v = fun _ => v := by funext k; unfold updK; split <;> rfl
theorem ins_files {g : Nat → Lis} {i : Nat} (h : twiceB g i = false) : insK (Key.i (g i).File) (lst i fun q => Key.i (g q).File) = lst (i + 1) fun q => Key.i (g q).File := by
  unfold insK
  rw [if_neg (by rw [mem_files]; show ¬ twiceB g i = true; simp [h])]
  simp [lst, List.range_succ]
theorem lst_zero {α : Type} (f : Nat → α) : lst 0 f = [] := rfl
theorem named_prog' (s : ByteArray) : namedB s = (decide ((1 : Int) ≤ s.size) && decide ((s.size : Int) ≤ 64) && ((s[0]?.getD 0).toNat : Int) != 32 && ((s[s.size - 1]?.getD 0).toNat : Int) != 32 && !Lib.contains s.data.toList [32, 32] && !decide (0 ≤ Lib.idxFunc outB true s)) := by
  have e1 : decide ((1 : Int) ≤ s.size) = decide (1 ≤ s.size) := by rw [Bool.eq_iff_iff]; simp; omega
  have e2 : decide ((s.size : Int) ≤ 64) = decide (s.size ≤ 64) := by rw [Bool.eq_iff_iff]; simp; omega
  have e3 : ∀ n : Nat, ((n : Int) != 32) = !decide (n = 32) := fun n => by rw [Bool.eq_iff_iff]; simp; omega
  rw [named_prog, e1, e2, e3, e3]; rfl
theorem nameAt_iff (s : ByteArray) (i : Nat) : nameAt s i = true ↔ 32 ≤ bt s i ∧ bt s i ≤ 126 ∧ ¬(0 < i ∧ bt s i = 32 ∧ bt s (i - 1) = 32) := by
  unfold nameAt; rw [Bool.and_eq_true, Bool.and_eq_true, Bool.not_eq_true', ← Bool.not_eq_true]; simp only [Bool.and_eq_true, decide_eq_true_eq, and_assoc]
theorem named_no {s : ByteArray} {i : Nat} (hi : i < s.size) (h : nameAt s i = false) : namedB s = false := by
  cases hb : namedB s with
  | false => rfl
  | true => have := ((named_iff s).1 hb).2.2.2.2 i hi; rw [h] at this; cases this


theorem transfer_within_cs (σ : List Blk) (n lo up : Int) : CSF Tryz.prog 65 [.d (I n), .d (I lo), .d (I up)] σ (.d (B (inB n lo up))) := by
  refine CSF.of_body T.en65 Tryz.func65 rfl (by simp [Tryz.ntmps65]) (by simp [go_sem]) fun hwf => ?_
  refine awp_reg_seq fun K hK => ?_
  simp [go_sem, Tryz.ntmps65]
  repeat refine ⟨by omega, ?_⟩
  refine hK _ ?_; clear hK K
  refine awp_reg_seq fun K hK => ?_
  simp [go_sem]
  repeat refine ⟨by omega, ?_⟩
  refine hK _ ?_; clear hK K
  refine awp_ret ?_
  simp [go_sem, Tryz.results65, inB] <;> omega

theorem accession_within_cs (σ : List Blk) (n lo up : Int) : CSF Tryz.prog 43 [.d (I n), .d (I lo), .d (I up)] σ (.d (B (inB n lo up))) := by
  refine CSF.of_body T.en43 Tryz.func43 rfl (by simp [Tryz.ntmps43]) (by simp [go_sem]) fun hwf => ?_
  refine awp_reg_seq fun K hK => ?_
  simp [go_sem, Tryz.ntmps43]
  repeat refine ⟨by omega, ?_⟩
  refine hK _ ?_; clear hK K
  refine awp_reg_seq fun K hK => ?_
  simp [go_sem]
  repeat refine ⟨by omega, ?_⟩
  refine hK _ ?_; clear hK K
  refine awp_ret ?_
  simp [go_sem, Tryz.results43, inB] <;> omega

theorem ref16_in_cs (σ : List Blk) (n lo up : Int) : CSF Tryz.prog 99 [.d (I n), .d (I lo), .d (I up)] σ (.d (B (inB n lo up))) := by
  refine CSF.of_body T.en99 Tryz.func99 rfl (by simp [Tryz.ntmps99]) (by simp [go_sem]) fun hwf => ?_
  refine awp_reg_seq fun K hK => ?_
  simp [go_sem, Tryz.ntmps99]
  repeat refine ⟨by omega, ?_⟩
  refine hK _ ?_; clear hK K
  refine awp_reg_seq fun K hK => ?_
  simp [go_sem]
  repeat refine ⟨by omega, ?_⟩
  refine hK _ ?_; clear hK K
  refine awp_ret ?_
  simp [go_sem, Tryz.results99, inB, ge_iff_le]

theorem transfer_name_cs (σ : List Blk) (s : ByteArray) (hs : s.size < 4294967281) (hσ : σ[0]? = some (.loc 0)) : CSF Tryz.prog 90 [.d (Sb s)] σ (.d (B (namedB s))) := by
  refine CSF.of_body T.en90 Tryz.func90 rfl (by simp [Tryz.ntmps90]) (by simp [go_sem]) fun hwf => ?_
  refine awp_reg_seq fun K hK => ?_
  simp [go_sem, Tryz.ntmps90]
  repeat refine ⟨by omega, ?_⟩
  refine hK _ ?_; clear hK K
  refine awp_seq ?_
  refine awp_reg_seq fun K hK => ?_
  simp [go_sem]
  try simp (disch := omega) only [wrapI]
  repeat refine ⟨by omega, ?_⟩
  refine CSm.mk (strContains_cs _ hσ s _ hs) ?_
  simp [go_sem]
  try simp (disch := omega) only [wrapI]
  repeat refine ⟨by omega, ?_⟩
  refine hK _ ?_; clear hK K
  refine awp_forget [0, 27] (by simp only [restr, List.contains_cons, List.contains_nil, Nat.reduceBEq, Bool.or_false, Bool.or_true, Bool.true_or, Bool.false_or, if_true, if_false, Bool.false_eq_true]; rfl) ?_
  refine awp_cond rfl (fun c0 => ?_) (fun c0 => ?_)
  · have d0 := c0; try simp at d0
    have hz : namedB s = false := by
      cases hb : namedB s with
      | false => rfl
      | true =>
        rw [named_prog'] at hb
        simp only [Bool.and_eq_true, Bool.not_eq_true', decide_eq_true_eq, bne_iff_ne] at hb
        obtain ⟨⟨⟨⟨⟨h1, h2⟩, h3⟩, h4⟩, h5⟩, h6⟩ := hb
        simp [h5, h3, h4] at c0
        omega
    refine awp_reg_seq fun K hK => ?_
    simp [go_sem, c0, d0]
    repeat refine ⟨by omega, ?_⟩
    refine hK _ ?_; clear hK K
    refine awp_ret ?_
    rw [hz]; simp [go_sem, Tryz.results90]
  · have d0 := c0; try simp at d0
    refine awp_skip ?_
    refine awp_reg_seq fun K hK => ?_
    simp [go_sem, c0, d0]
    repeat refine ⟨by omega, ?_⟩
    refine CSk.mk (containsOut_cs _ s) ?_
    simp [go_sem, c0, d0]
    repeat refine ⟨by omega, ?_⟩
    refine hK _ ?_; clear hK K
    refine awp_ret ?_
    rw [named_prog']; simp [go_sem, Tryz.results90]
    exact fun _ => d0

theorem transfer_item_cs (σ : List Blk) (x : Lis) (hs : x.Title.size < 4294967281) (hσ : σ[0]? = some (.loc 0)) : CSF Tryz.prog 66 [.agg (x.enc.map .d)] σ (.d (I (lisE0 x))) := by
  refine CSF.of_body T.en66 Tryz.func66 rfl (by simp [Tryz.ntmps66]) (by simp [go_sem]) fun hwf => ?_
  refine awp_reg_seq fun K hK => ?_
  simp [go_sem, Tryz.ntmps66]
  repeat refine ⟨by omega, ?_⟩
  refine hK _ ?_; clear hK K
  refine awp_reg_seq fun K hK => ?_
  simp [go_sem]
  repeat refine ⟨by omega, ?_⟩
  refine hK _ ?_; clear hK K
  refine awp_seq ?_
  refine awp_block ?_
  refine awp_reg_seq fun K hK => ?_
  simp [go_sem]
  repeat refine ⟨by omega, ?_⟩
  refine CSk.mk (transfer_within_cs _ x.Number 1 9999) ?_
  simp [go_sem]
  repeat refine ⟨by omega, ?_⟩
  refine CSm.mk (transfer_within_cs _ x.File 1 1073741824) ?_
  simp [go_sem]
  repeat refine ⟨by omega, ?_⟩
  refine CSm.mk (transfer_within_cs _ x.Pages 1 100000) ?_
  simp [go_sem]
  repeat refine ⟨by omega, ?_⟩
  refine hK _ ?_; clear hK K
  refine awp_forget [1, 6] (by simp only [restr, List.contains_cons, List.contains_nil, Nat.reduceBEq, Bool.or_false, Bool.or_true, Bool.true_or, Bool.false_or, if_true, if_false, Bool.false_eq_true]; rfl) ?_
  refine awp_cond rfl (fun c0 => ?_) (fun c0 => ?_)
  · have d0 := c0; try simp at d0
    have hr : rangeB x = false := by
      cases hb : rangeB x with
      | false => rfl
      | true => obtain ⟨h1, h2, h3, h4, h5, h6⟩ := (rangeB_iff x).1 hb; simp [h1, h2, h3] at c0; omega
    have hz : lisE0 x = 2 := by unfold lisE0; rw [if_pos hr]
    refine awp_reg_seq fun K hK => ?_
    simp [go_sem, c0, d0]
    repeat refine ⟨by omega, ?_⟩
    refine hK _ ?_; clear hK K
    refine awp_ret ?_
    rw [hz]; simp [go_sem, Tryz.results66]
  · have d0 := c0; try simp at d0
    have hr : rangeB x = true := (rangeB_iff x).2 ⟨d0.1.1.1.1.1, d0.1.1.1.1.2, d0.1.1.1.2, d0.1.1.2, d0.1.2, d0.2⟩
    refine awp_reg_seq fun K hK => ?_
    simp [go_sem, c0, d0]
    repeat refine ⟨by omega, ?_⟩
    refine CSk.mk (transfer_name_cs _ x.Title hs (loc_app hσ)) ?_
    simp [go_sem, c0, d0]
    repeat refine ⟨by omega, ?_⟩
    refine hK _ ?_; clear hK K
    refine awp_forget [1, 40] (by simp only [restr, List.contains_cons, List.contains_nil, Nat.reduceBEq, Bool.or_false, Bool.or_true, Bool.true_or, Bool.false_or, if_true, if_false, Bool.false_eq_true]; rfl) ?_
    refine awp_cond rfl (fun c1 => ?_) (fun c1 => ?_)
    · have d1 := c1; try simp at d1
      have hz : lisE0 x = 4 := by unfold lisE0; rw [if_neg (by simp [hr]), if_pos d1]
      refine awp_reg_seq fun K hK => ?_
      simp [go_sem, c0, d0, c1, d1]
      repeat refine ⟨by omega, ?_⟩
      refine hK _ ?_; clear hK K
      refine awp_ret ?_
      rw [hz]; simp [go_sem, Tryz.results66]
    · have d1 := c1; try simp at d1
      refine awp_reg_seq fun K hK => ?_
      simp [go_sem, c0, d0, c1, d1]
      repeat refine ⟨by omega, ?_⟩
      refine hK _ ?_; clear hK K
      refine awp_forget [45] (by simp only [restr, List.contains_cons, List.contains_nil, Nat.reduceBEq, Bool.or_false, Bool.or_true, Bool.true_or, Bool.false_or, if_true, if_false, Bool.false_eq_true]; rfl) ?_
      refine awp_cond rfl (fun c2 => ?_) (fun c2 => ?_)
      · have d2 := c2; try simp at d2
        have hz : lisE0 x = 1 := by unfold lisE0; rw [if_neg (by simp [hr]), if_neg (by simp [d1]), if_pos (by omega)]
        refine awp_reg_seq fun K hK => ?_
        simp [go_sem, c0, d0, c1, d1, c2, d2]
        repeat refine ⟨by omega, ?_⟩
        refine hK _ ?_; clear hK K
        refine awp_ret ?_
        rw [hz]; simp [go_sem, Tryz.results66]
      · have d2 := c2; try simp at d2
        have hz : lisE0 x = 0 := by unfold lisE0; rw [if_neg (by simp [hr]), if_neg (by simp [d1]), if_neg (by omega)]
        refine awp_skip ?_
        refine awp_reg_seq fun K hK => ?_
        simp [go_sem, c0, d0, c1, d1, c2, d2]
        repeat refine ⟨by omega, ?_⟩
        refine hK _ ?_; clear hK K
        refine awp_ret ?_
        rw [hz]; simp [go_sem, Tryz.results66]

theorem transfer_Check_cs (σ : List Blk) (t : TL) (hn : t.n < 1000000000) (hN : ∀ i, i < t.n → (t.g i).Title.size < 4294967281) (hσ : σ[0]? = some (.loc 0)) : CSF Tryz.prog 32 [.agg (t.enc.map .d)] σ (.tup [.d (I (tlChk t).1), .d (I (tlChk t).2)]) := by
  refine CSF.of_body T.en32 Tryz.func32 rfl (by simp [Tryz.ntmps32]) (by simp [go_sem]) fun hwf => ?_
  refine awp_reg_seq fun K hK => ?_
  simp [go_sem, Tryz.ntmps32, updK_const, dec_files]
  repeat refine ⟨by omega, ?_⟩
  refine hK _ ?_; clear hK K
  refine awp_seq ?_
  refine awp_block ?_
  refine awp_reg_seq fun K hK => ?_
  simp [go_sem, updK_const, dec_files]
  repeat refine ⟨by omega, ?_⟩
  refine CSk.mk (transfer_within_cs _ t.ID 1 1073741824) ?_
  simp [go_sem, updK_const, dec_files]
  repeat refine ⟨by omega, ?_⟩
  refine CSm.mk (transfer_within_cs _ t.Office 1 1073741824) ?_
  simp [go_sem, updK_const, dec_files]
  repeat refine ⟨by omega, ?_⟩
  refine CSm.mk (transfer_within_cs _ t.Day 0 1048575) ?_
  simp [go_sem, updK_const, dec_files]
  repeat refine ⟨by omega, ?_⟩
  refine hK _ ?_; clear hK K
  refine awp_forget [1, 8] (by simp only [restr, List.contains_cons, List.contains_nil, Nat.reduceBEq, Bool.or_false, Bool.or_true, Bool.true_or, Bool.false_or, if_true, if_false, Bool.false_eq_true]; rfl) ?_
  refine awp_cond rfl (fun c0 => ?_) (fun c0 => ?_)
  · have d0 := c0; try simp at d0
    have hr : tlHead t = false := by
      cases hb : tlHead t with
      | false => rfl
      | true => unfold tlHead at hb; simp at hb; simp [hb] at c0
    have hz : tlChk t = (-1, 2) := by unfold tlChk; rw [if_pos hr]
    refine awp_reg_seq fun K hK => ?_
    simp [go_sem, updK_const, dec_files, c0, d0]
    repeat refine ⟨by omega, ?_⟩
    refine hK _ ?_; clear hK K
    refine awp_ret ?_
    rw [hz]; simp [go_sem, Tryz.results32]
  · have d0 := c0; try simp at d0
    have hr : tlHead t = true := by unfold tlHead; simp [d0]
    refine awp_reg_seq fun K hK => ?_
    simp [go_sem, updK_const, dec_files, c0, d0]
    repeat refine ⟨by omega, ?_⟩
    refine hK _ ?_; clear hK K
    refine awp_forget [1, 25] (by simp only [restr, List.contains_cons, List.contains_nil, Nat.reduceBEq, Bool.or_false, Bool.or_true, Bool.true_or, Bool.false_or, if_true, if_false, Bool.false_eq_true]; rfl) ?_
    refine awp_cond rfl (fun c1 => ?_) (fun c1 => ?_)
    · have d1 := c1; try simp at d1
      have hz : tlChk t = (-1, 9) := by unfold tlChk; rw [if_neg (by simp [hr]), if_pos (by omega)]
      refine awp_reg_seq fun K hK => ?_
      simp [go_sem, updK_const, dec_files, c0, d0, c1, d1]
      repeat refine ⟨by omega, ?_⟩
      refine hK _ ?_; clear hK K
      refine awp_ret ?_
      rw [hz]; simp [go_sem, Tryz.results32]
    · have d1 := c1; try simp at d1
      refine awp_reg_seq fun K hK => ?_
      simp [go_sem, updK_const, dec_files, c0, d0, c1, d1]
      repeat refine ⟨by omega, ?_⟩
      refine hK _ ?_; clear hK K
      refine awp_forget [1, 30] (by simp only [restr, List.contains_cons, List.contains_nil, Nat.reduceBEq, Bool.or_false, Bool.or_true, Bool.true_or, Bool.false_or, if_true, if_false, Bool.false_eq_true]; rfl) ?_
      refine awp_cond rfl (fun c2 => ?_) (fun c2 => ?_)
      · have d2 := c2; try simp at d2
        have hz : tlChk t = (-1, 8) := by unfold tlChk; rw [if_neg (by simp [hr]), if_neg (by omega), if_pos (by omega)]
        refine awp_reg_seq fun K hK => ?_
        simp [go_sem, updK_const, dec_files, c0, d0, c1, d1, c2, d2]
        repeat refine ⟨by omega, ?_⟩
        refine hK _ ?_; clear hK K
        refine awp_ret ?_
        rw [hz]; simp [go_sem, Tryz.results32]
      · have d2 := c2; try simp at d2
        have hz : tlChk t = firstP (lisE t.g) 0 (t.n - 0) := by unfold tlChk; rw [if_neg (by simp [hr]), if_neg (by omega), if_neg (by omega)]; rfl
        refine awp_skip ?_
        refine awp_reg_seq fun K hK => ?_
        simp [go_sem, updK_const, dec_files, c0, d0, c1, d1, c2, d2]
        repeat refine ⟨by omega, ?_⟩
        refine hK _ ?_; clear hK K
        refine awp_seq ?_
        refine awp_map (σ.length + 1) (ks' := lst 0 fun q => Key.i (t.g q).File) (f' := fun _ => .d (B true)) (by simp [go_sem]; first | exact ⟨rfl, rfl, rfl⟩ | exact ⟨rfl, rfl⟩ | rfl) (.refl _) (fun k hk => nomatch hk) (fun _ => rfl) (by first | (simp [go_sem]; rfl) | rfl) ?_
        refine awp_reg_seq fun K hK => ?_
        simp [go_sem, updK_const, dec_files, c0, d0, c1, d1, c2, d2]
        repeat refine ⟨by omega, ?_⟩
        refine hK _ ?_; clear hK K
        refine awp_block ?_
        refine awp_forget [1, 4, 37, 38, 39] (by simp [go_sem, restr]; rfl) ?_
        refine awp_loopU (α := Nat) (fun i => [(39, .d (I i))]) (fun i => σ ++ [.var [.d (I t.ID), .d (I t.Office), .d (I t.Day), .d (SL none 7 Lis.enc t.n t.g)], .mp false (lst i fun q => Key.i (t.g q).File) (fun _ => .d (B true))]) (fun i => i ≤ t.n ∧ tlChk t = firstP (lisE t.g) i (t.n - i)) (fun i => t.n - i) 0 (by simp [go_sem, updK_const, dec_files]) (rfl) (by simpa using hz) ?_
        rintro i ⟨hi, hx⟩
        refine awp_reg_seq fun K hK => ?_
        simp [go_sem, updK_const, dec_files, c0, d0, c1, d1, c2, d2, wrap_pred (i := i) (by omega)]
        repeat refine ⟨by omega, ?_⟩
        refine hK _ ?_; clear hK K
        refine awp_seq ?_
        refine awp_forget [1, 4, 37, 38, 39, 40] (by simp only [restr, List.contains_cons, List.contains_nil, Nat.reduceBEq, Bool.or_false, Bool.or_true, Bool.true_or, Bool.false_or, if_true, if_false, Bool.false_eq_true]; rfl) ?_
        refine awp_cond rfl (fun c3 => ?_) (fun c3 => ?_)
        · have d3 := c3; try simp at d3
          have hst := firstP_step (e := lisE t.g) d3
          refine awp_skip ?_
          refine awp_seq ?_
          refine awp_block ?_
          refine awp_reg_seq fun K hK => ?_
          simp [go_sem, updK_const, dec_files, c0, d0, c1, d1, c2, d2, wrap_pred (i := i) (by omega), c3, d3]
          repeat refine ⟨by omega, ?_⟩
          refine hK _ ?_; clear hK K
          refine awp_seq ?_
          refine awp_reg_seq fun K hK => ?_
          simp [go_sem, updK_const, dec_files, c0, d0, c1, d1, c2, d2, wrap_pred (i := i) (by omega), c3, d3]
          repeat refine ⟨by omega, ?_⟩
          refine CSk.mk (transfer_item_cs _ (t.g i) (hN i d3) (loc_app hσ)) ?_
          simp [go_sem, updK_const, dec_files, c0, d0, c1, d1, c2, d2, wrap_pred (i := i) (by omega), c3, d3]
          repeat refine ⟨by omega, ?_⟩
          refine hK _ ?_; clear hK K
          refine awp_reg_seq fun K hK => ?_
          simp [go_sem, updK_const, dec_files, c0, d0, c1, d1, c2, d2, wrap_pred (i := i) (by omega), c3, d3]
          repeat refine ⟨by omega, ?_⟩
          refine hK _ ?_; clear hK K
          refine awp_forget [1, 4, 5, 6, 7, 37, 38, 39, 47] (by simp only [restr, List.contains_cons, List.contains_nil, Nat.reduceBEq, Bool.or_false, Bool.or_true, Bool.true_or, Bool.false_or, if_true, if_false, Bool.false_eq_true]; rfl) ?_
          refine awp_cond rfl (fun c4 => ?_) (fun c4 => ?_)
          · have d4 := c4; try simp at d4
            have he : lisE t.g i = lisE0 (t.g i) := by unfold lisE; rw [if_pos (by simpa using d4)]
            have hz : tlChk t = ((i : Int), lisE0 (t.g i)) := by rw [hx, hst, he, if_pos (by simpa using d4)]
            refine awp_reg_seq fun K hK => ?_
            simp [go_sem, updK_const, dec_files, c0, d0, c1, d1, c2, d2, wrap_pred (i := i) (by omega), c3, d3, c4, d4]
            repeat refine ⟨by omega, ?_⟩
            refine hK _ ?_; clear hK K
            refine awp_ret ?_
            rw [hz]; simp [go_sem, Tryz.results32]
          · have d4 := c4; try simp at d4
            refine awp_skip ?_
            refine awp_seq ?_
            refine awp_block ?_
            refine awp_draw_seq 15 T.mixed (by kernel_rfl) fun K hK => ?_
            simp [go_sem, updK_const, dec_files, c0, d0, c1, d1, c2, d2, wrap_pred (i := i) (by omega), c3, d3, c4, d4]
            try simp (disch := omega) only [wrapI]
            repeat refine ⟨by omega, ?_⟩
            refine hK _ ?_; clear hK K
            refine awp_forget [1, 4, 5, 6, 37, 38, 39, 50] (by simp only [restr, List.contains_cons, List.contains_nil, Nat.reduceBEq, Bool.or_false, Bool.or_true, Bool.true_or, Bool.false_or, if_true, if_false, Bool.false_eq_true]; rfl) ?_
            refine awp_cond rfl (fun c5 => ?_) (fun c5 => ?_)
            · have d5 := c5; try simp at d5
              have he : lisE t.g i = 5 := by unfold lisE; rw [if_neg (by simp [d4]), if_pos (by omega)]
              have hz : tlChk t = ((i : Int), 5) := by rw [hx, hst, he, if_pos (by decide)]
              refine awp_reg_seq fun K hK => ?_
              simp [go_sem, updK_const, dec_files, c0, d0, c1, d1, c2, d2, wrap_pred (i := i) (by omega), c3, d3, c4, d4, c5, d5]
              repeat refine ⟨by omega, ?_⟩
              refine hK _ ?_; clear hK K
              refine awp_ret ?_
              rw [hz]; simp [go_sem, Tryz.results32]
            · have d5 := c5; try simp at d5
              refine awp_reg_seq fun K hK => ?_
              simp [go_sem, updK_const, dec_files, c0, d0, c1, d1, c2, d2, wrap_pred (i := i) (by omega), c3, d3, c4, d4, c5, d5]
              repeat refine ⟨by omega, ?_⟩
              refine hK _ ?_; clear hK K
              refine awp_forget [1, 4, 5, 6, 37, 38, 39, 66] (by simp only [restr, List.contains_cons, List.contains_nil, Nat.reduceBEq, Bool.or_false, Bool.or_true, Bool.true_or, Bool.false_or, if_true, if_false, Bool.false_eq_true]; rfl) ?_
              refine awp_cond rfl (fun c6 => ?_) (fun c6 => ?_)
              · have d6 := c6; try simp at d6
                have he : lisE t.g i = 6 := by unfold lisE; rw [if_neg (by simp [d4]), if_neg (by omega), if_pos d6]
                have hz : tlChk t = ((i : Int), 6) := by rw [hx, hst, he, if_pos (by decide)]
                refine awp_reg_seq fun K hK => ?_
                simp [go_sem, updK_const, dec_files, c0, d0, c1, d1, c2, d2, wrap_pred (i := i) (by omega), c3, d3, c4, d4, c5, d5, c6, d6]
                repeat refine ⟨by omega, ?_⟩
                refine hK _ ?_; clear hK K
                refine awp_ret ?_
                rw [hz]; simp [go_sem, Tryz.results32]
              · have d6 := c6; try simp at d6
                have he : lisE t.g i = 0 := by unfold lisE; rw [if_neg (by simp [d4]), if_neg (by omega), if_neg (by simp [d6])]
                have hnx : firstP (lisE t.g) i (t.n - i) = firstP (lisE t.g) (i + 1) (t.n - (i + 1)) := by rw [hst, if_neg (by simp [he])]
                have hins := ins_files (g := t.g) (i := i) d6
                refine awp_skip ?_
                refine awp_reg_end fun K hK => ?_
                simp [go_sem, updK_const, dec_files, c0, d0, c1, d1, c2, d2, wrap_pred (i := i) (by omega), c3, d3, c4, d4, c5, d5, c6, d6, hins]
                repeat refine ⟨by omega, ?_⟩
                refine hK _ ?_; clear hK K
                refine awp_reg_end fun K hK => ?_
                simp [go_sem, updK_const, dec_files, c0, d0, c1, d1, c2, d2, wrap_pred (i := i) (by omega), c3, d3, c4, d4, c5, d5, c6, d6, hins]
                try simp (disch := omega) only [wrapI]
                repeat refine ⟨by omega, ?_⟩
                refine hK _ ?_; clear hK K
                refine ⟨i + 1, back_of' (by simp [go_sem, wrap_succ (i := i) (by omega), updK_const, dec_files, c0, d0, c1, d1, c2, d2, wrap_pred (i := i) (by omega), c3, d3, c4, d4, c5, d5, c6, d6, hins]) ((leaves_app (by simp [go_sem]))) (by (simp [go_sem, wrap_succ (i := i) (by omega), updK_const, dec_files, c0, d0, c1, d1, c2, d2, wrap_pred (i := i) (by omega), c3, d3, c4, d4, c5, d5, c6, d6, hins] <;> omega)), ⟨by omega, by rw [hx]; exact hnx⟩, by first | omega | (dsimp only; omega)⟩
        · have d3 := c3; try simp at d3
          have hz : tlChk t = (-1, 0) := by rw [hx, show t.n - i = 0 by omega]; rfl
          refine awp_exit ?_
          refine awp_reg_seq fun K hK => ?_
          simp [go_sem, updK_const, dec_files, c0, d0, c1, d1, c2, d2, wrap_pred (i := i) (by omega), c3, d3]
          repeat refine ⟨by omega, ?_⟩
          refine hK _ ?_; clear hK K
          refine awp_ret ?_
          rw [hz]; simp [go_sem, Tryz.results32]

end Go.Proofs.YtnbokgmimbeihaaGreatDoor

/-! Cb -/
namespace Go.Proofs.YtnbokgmimbeihaaGreatDoor
open Go.Abs Go.Arch
set_option linter.unusedVariables false
set_option linter.unusedSimpArgs false
set_option maxRecDepth 100000
set_option maxHeartbeats 1000000

def Lis.zero : Lis := ⟨0, 0, ⟨#[]⟩, 0, 0, 0, ⟨#[]⟩⟩
def findI (n : Nat) (g : Nat → Lis) (u : Int) : Int := idxFrom (fun r => r.Number == u) (lst n g) 0
def findL (n : Nat) (g : Nat → Lis) (u : Int) : Lis × Bool := if findI n g u < 0 then (Lis.zero, false) else (g (findI n g u).toNat, true)
theorem findI_lt (n : Nat) (g : Nat → Lis) (u : Int) : findI n g u < n := idx_lt' _ n g
theorem twice_iff (g : Nat → Lis) (i : Nat) : twiceB g i = true ↔ ∃ q, q < i ∧ (g q).File = (g i).File := by
  unfold twiceB
  simp only [lst, List.any_map, List.any_eq_true, List.mem_range, Function.comp, beq_iff_eq]
def few16 (t : TL) : Bool := (decide (t.n ≤ 12) || decide (t.n = 129)) && (lst t.n t.g).all fun x => decide (x.Title.size ≤ 100) && decide (x.Digest.size ≤ 100)
theorem few16_iff (t : TL) : few16 t = true ↔ (t.n ≤ 12 ∨ t.n = 129) ∧ ∀ i, i < t.n → (t.g i).Title.size ≤ 100 ∧ (t.g i).Digest.size ≤ 100 := by
  unfold few16; simp [lst]


theorem indexLis_cs (σ : List Blk) (c : Option Nat) (n : Nat) (g : Nat → Lis) (f : FuncId) (cap : List AV) (p : Lis → Bool) (hn : n < 1000000000) (hf : ∀ i, i < n → CSF Tryz.prog f (.agg ((g i).enc.map .d) :: cap) σ (.d (B (p (g i))))) : CSF Tryz.prog 67 [.d (SL c 7 Lis.enc n g), .clo (.func f) [] cap] σ (.d (I (idxFrom p (lst n g) 0))) := by
  refine CSF.of_body T.en67 Tryz.func67 rfl (by simp [Tryz.ntmps67]) (by simp [go_sem]) fun hwf => ?_
  refine awp_reg_seq fun K hK => ?_
  simp [go_sem, Tryz.ntmps67]
  repeat refine ⟨by omega, ?_⟩
  refine hK _ ?_; clear hK K
  refine awp_seq ?_
  refine awp_reg_seq fun K hK => ?_
  simp [go_sem]
  repeat refine ⟨by omega, ?_⟩
  refine hK _ ?_; clear hK K
  refine awp_block ?_
  refine awp_forget [0, 1, 7, 8] (by simp [go_sem, restr]; rfl) ?_
  refine awp_loopU (α := Nat) (fun i => [(8, .d (I i))]) (fun i => _) (fun i => i ≤ n ∧ idxFrom p (lst n g) 0 = idxFrom p ((lst n g).drop i) i) (fun i => n - i) 0 (by simp [go_sem]) (rfl) (by simp) ?_
  rintro i ⟨hi, hx⟩
  refine awp_reg_seq fun K hK => ?_
  simp [go_sem]
  repeat refine ⟨by omega, ?_⟩
  refine hK _ ?_; clear hK K
  refine awp_seq ?_
  refine awp_forget [0, 1, 7, 8, 9] (by simp only [restr, List.contains_cons, List.contains_nil, Nat.reduceBEq, Bool.or_false, Bool.or_true, Bool.true_or, Bool.false_or, if_true, if_false, Bool.false_eq_true]; rfl) ?_
  refine awp_cond rfl (fun c0 => ?_) (fun c0 => ?_)
  · have d0 := c0; try simp at d0
    rw [drop_lst d0, idxFrom] at hx
    refine awp_skip ?_
    refine awp_seq ?_
    refine awp_block ?_
    refine awp_reg_seq fun K hK => ?_
    simp [go_sem, c0, d0]
    repeat refine ⟨by omega, ?_⟩
    refine hK _ ?_; clear hK K
    refine awp_reg_seq fun K hK => ?_
    simp [go_sem, c0, d0]
    repeat refine ⟨by omega, ?_⟩
    refine CSk.mk (hf i d0) ?_
    simp [go_sem, c0, d0]
    repeat refine ⟨by omega, ?_⟩
    refine hK _ ?_; clear hK K
    refine awp_forget [0, 1, 5, 7, 8, 16] (by simp only [restr, List.contains_cons, List.contains_nil, Nat.reduceBEq, Bool.or_false, Bool.or_true, Bool.true_or, Bool.false_or, if_true, if_false, Bool.false_eq_true]; rfl) ?_
    refine awp_cond rfl (fun c1 => ?_) (fun c1 => ?_)
    · have d1 := c1; try simp at d1
      refine awp_reg_seq fun K hK => ?_
      simp [go_sem, c0, d0, c1, d1]
      repeat refine ⟨by omega, ?_⟩
      refine hK _ ?_; clear hK K
      refine awp_ret ?_
      simp [go_sem, Tryz.results67, hx, c0, d0, c1, d1] <;> omega
    · have d1 := c1; try simp at d1
      refine awp_skip ?_
      refine awp_reg_end fun K hK => ?_
      simp [go_sem, c0, d0, c1, d1]
      try simp (disch := omega) only [wrapI]
      repeat refine ⟨by omega, ?_⟩
      refine hK _ ?_; clear hK K
      refine ⟨i + 1, back_of' (by simp) (.refl _) (by (simp [go_sem, wrap_succ (i := i) (by omega), c0, d0, c1, d1] <;> omega)), ⟨by omega, by rw [hx, c1]; simp⟩, by first | omega | (dsimp only; omega)⟩
  · have d0 := c0; try simp at d0
    rw [drop_all d0, idxFrom] at hx
    refine awp_exit ?_
    refine awp_reg_seq fun K hK => ?_
    simp [go_sem, c0, d0]
    repeat refine ⟨by omega, ?_⟩
    refine hK _ ?_; clear hK K
    refine awp_ret ?_
    simp [go_sem, Tryz.results67, hx, c0, d0] <;> omega

theorem transfer_Find_1_cs (σ : List Blk) (τ : List Blk) (r : Lis) (u : Int) : CSF Tryz.prog 68 [.agg (r.enc.map .d), .ptr σ.length 0] (σ ++ .var [.d (I u)] :: τ) (.d (B (r.Number == u))) := by
  refine CSF.of_body T.en68 Tryz.func68 rfl (by simp [Tryz.ntmps68]) (by simp [go_sem]) fun hwf => ?_
  refine awp_reg_seq fun K hK => ?_
  simp [go_sem, Tryz.ntmps68]
  repeat refine ⟨by omega, ?_⟩
  refine hK _ ?_; clear hK K
  refine awp_reg_seq fun K hK => ?_
  simp [go_sem]
  repeat refine ⟨by omega, ?_⟩
  refine hK _ ?_; clear hK K
  refine awp_ret ?_
  simp [go_sem, Tryz.results68] <;> omega

theorem transfer_Find_cs (σ : List Blk) (t : TL) (u : Int) (hn : t.n < 1000000000) : CSF Tryz.prog 34 [.agg (t.enc.map .d), .d (I u)] σ (.tup [.agg ((findL t.n t.g u).1.enc.map .d), .d (B (findL t.n t.g u).2)]) := by
  have hlt := findI_lt t.n t.g u
  unfold findI at hlt
  refine CSF.of_body T.en34 Tryz.func34 rfl (by simp [Tryz.ntmps34]) (by simp [go_sem]) fun hwf => ?_
  refine awp_reg_seq fun K hK => ?_
  simp [go_sem, Tryz.ntmps34]
  repeat refine ⟨by omega, ?_⟩
  refine hK _ ?_; clear hK K
  refine awp_reg_seq fun K hK => ?_
  simp [go_sem]
  repeat refine ⟨by omega, ?_⟩
  refine CSk.mk (indexLis_cs _ none t.n t.g _ _ (fun r => r.Number == u) (by omega) (fun i hi => by have h := transfer_Find_1_cs (σ ++ [.var (t.enc.map .d)]) [.var [.d (I 0), .d (I 0), .d (.v (.string ⟨#[]⟩)), .d (I 0), .d (I 0), .d (I 0), .d (.v (.string ⟨#[]⟩))]] (t.g i) u; simp only [List.append_assoc, List.cons_append, List.nil_append, List.length_append, List.length_cons, List.length_nil, Nat.zero_add, Nat.reduceAdd] at h; exact h)) ?_
  simp [go_sem]
  repeat refine ⟨by omega, ?_⟩
  refine hK _ ?_; clear hK K
  refine awp_seq ?_
  refine awp_reg_seq fun K hK => ?_
  simp [go_sem]
  repeat refine ⟨by omega, ?_⟩
  refine hK _ ?_; clear hK K
  refine awp_forget [2, 4, 6, 12] (by simp only [restr, List.contains_cons, List.contains_nil, Nat.reduceBEq, Bool.or_false, Bool.or_true, Bool.true_or, Bool.false_or, if_true, if_false, Bool.false_eq_true]; rfl) ?_
  refine awp_cond rfl (fun c0 => ?_) (fun c0 => ?_)
  · have d0 := c0; try simp at d0
    have hz : findL t.n t.g u = (Lis.zero, false) := by unfold findL findI; rw [if_pos d0]
    refine awp_reg_seq fun K hK => ?_
    simp [go_sem, c0, d0]
    repeat refine ⟨by omega, ?_⟩
    refine hK _ ?_; clear hK K
    refine awp_ret ?_
    rw [hz]; simp [go_sem, Tryz.results34, Lis.zero]
  · have d0 := c0; try simp at d0
    have hz : findL t.n t.g u = (t.g (findI t.n t.g u).toNat, true) := by unfold findL findI; rw [if_neg (by omega)]
    unfold findI at hz
    refine awp_skip ?_
    refine awp_reg_seq fun K hK => ?_
    simp [go_sem, c0, d0]
    repeat refine ⟨by omega, ?_⟩
    refine hK _ ?_; clear hK K
    refine awp_ret ?_
    rw [hz]; simp [go_sem, Tryz.results34]

theorem ref16_Find_cs (σ : List Blk) (t : TL) (u : Int) (hn : t.n < 1000000000) : CSF Tryz.prog 78 [.agg (t.enc.map .d), .d (I u)] σ (.tup [.agg ((findL t.n t.g u).1.enc.map .d), .d (B (findL t.n t.g u).2)]) := by
  refine CSF.of_body T.en78 Tryz.func78 rfl (by simp [Tryz.ntmps78]) (by simp [go_sem]) fun hwf => ?_
  refine awp_reg_seq fun K hK => ?_
  simp [go_sem, Tryz.ntmps78]
  repeat refine ⟨by omega, ?_⟩
  refine hK _ ?_; clear hK K
  refine awp_seq ?_
  refine awp_reg_seq fun K hK => ?_
  simp [go_sem]
  repeat refine ⟨by omega, ?_⟩
  refine hK _ ?_; clear hK K
  refine awp_block ?_
  refine awp_forget [1, 2, 4, 6] (by simp [go_sem, restr]; rfl) ?_
  refine awp_loopU (α := Nat) (fun i => [(6, .d (I i))]) (fun i => _) (fun i => i ≤ t.n ∧ findI t.n t.g u = idxFrom (fun r => r.Number == u) ((lst t.n t.g).drop i) i) (fun i => t.n - i) 0 (by simp [go_sem]) (rfl) (by simp [findI]) ?_
  rintro i ⟨hi, hx⟩
  refine awp_seq ?_
  refine awp_reg_seq fun K hK => ?_
  simp [go_sem]
  repeat refine ⟨by omega, ?_⟩
  refine hK _ ?_; clear hK K
  refine awp_forget [1, 2, 4, 6, 11] (by simp only [restr, List.contains_cons, List.contains_nil, Nat.reduceBEq, Bool.or_false, Bool.or_true, Bool.true_or, Bool.false_or, if_true, if_false, Bool.false_eq_true]; rfl) ?_
  refine awp_cond rfl (fun c0 => ?_) (fun c0 => ?_)
  · have d0 := c0; try simp at d0
    rw [drop_lst d0, idxFrom] at hx
    refine awp_skip ?_
    refine awp_seq ?_
    refine awp_block ?_
    refine awp_reg_seq fun K hK => ?_
    simp [go_sem, c0, d0]
    repeat refine ⟨by omega, ?_⟩
    refine hK _ ?_; clear hK K
    refine awp_forget [1, 2, 4, 6, 21] (by simp only [restr, List.contains_cons, List.contains_nil, Nat.reduceBEq, Bool.or_false, Bool.or_true, Bool.true_or, Bool.false_or, if_true, if_false, Bool.false_eq_true]; rfl) ?_
    refine awp_cond rfl (fun c1 => ?_) (fun c1 => ?_)
    · have d1 := c1; try simp at d1
      have hf : findI t.n t.g u = i := by rw [hx, if_pos (by simpa using d1)]
      have hz : findL t.n t.g u = (t.g i, true) := by unfold findL; rw [hf, if_neg (by omega), Int.toNat_natCast]
      refine awp_reg_seq fun K hK => ?_
      simp [go_sem, c0, d0, c1, d1]
      repeat refine ⟨by omega, ?_⟩
      refine hK _ ?_; clear hK K
      refine awp_ret ?_
      rw [hz]; simp [go_sem, Tryz.results78]
      exact d1.symm
    · have d1 := c1; try simp at d1
      refine awp_skip ?_
      refine awp_reg_end fun K hK => ?_
      simp [go_sem, c0, d0, c1, d1]
      try simp (disch := omega) only [wrapI]
      repeat refine ⟨by omega, ?_⟩
      refine hK _ ?_; clear hK K
      refine ⟨i + 1, back_of' (by simp) (.refl _) (by (simp [go_sem, wrap_succ (i := i) (by omega), c0, d0, c1, d1] <;> omega)), ⟨by omega, by rw [hx, if_neg (by simpa using d1)]⟩, by first | omega | (dsimp only; omega)⟩
  · have d0 := c0; try simp at d0
    rw [drop_all d0, idxFrom] at hx
    refine awp_exit ?_
    refine awp_reg_seq fun K hK => ?_
    simp [go_sem, c0, d0]
    repeat refine ⟨by omega, ?_⟩
    refine hK _ ?_; clear hK K
    refine awp_ret ?_
    have hz : findL t.n t.g u = (Lis.zero, false) := by unfold findL; rw [hx, if_pos (by omega)]
    rw [hz]; simp [go_sem, Tryz.results78, Lis.zero]

theorem ref16_IsDating_cs (σ : List Blk) (a b : Int) : CSF Tryz.prog 122 [.agg [.d (I a), .d (I b)]] σ (.d (B (datB a b))) := by
  refine CSF.of_body T.en122 Tryz.func122 rfl (by simp [Tryz.ntmps122]) (by simp [go_sem]) fun hwf => ?_
  refine awp_reg_seq fun K hK => ?_
  simp [go_sem, Tryz.ntmps122]
  repeat refine ⟨by omega, ?_⟩
  refine hK _ ?_; clear hK K
  refine awp_reg_seq fun K hK => ?_
  simp [go_sem]
  repeat refine ⟨by omega, ?_⟩
  refine hK _ ?_; clear hK K
  refine awp_ret ?_
  simp [go_sem, Tryz.results122, datB, ge_iff_le]

theorem ref16_IsName_cs (σ : List Blk) (s : ByteArray) (hs : s.size < 4294967281) : CSF Tryz.prog 123 [.d (Sb s)] σ (.d (B (namedB s))) := by
  refine CSF.of_body T.en123 Tryz.func123 rfl (by simp [Tryz.ntmps123]) (by simp [go_sem]) fun hwf => ?_
  refine awp_reg_seq fun K hK => ?_
  simp [go_sem, Tryz.ntmps123]
  repeat refine ⟨by omega, ?_⟩
  refine hK _ ?_; clear hK K
  refine awp_seq ?_
  refine awp_reg_seq fun K hK => ?_
  simp [go_sem]
  try simp (disch := omega) only [wrapI]
  repeat refine ⟨by omega, ?_⟩
  refine hK _ ?_; clear hK K
  refine awp_forget [0, 24] (by simp only [restr, List.contains_cons, List.contains_nil, Nat.reduceBEq, Bool.or_false, Bool.or_true, Bool.true_or, Bool.false_or, if_true, if_false, Bool.false_eq_true]; rfl) ?_
  refine awp_cond rfl (fun c0 => ?_) (fun c0 => ?_)
  · have d0 := c0; try simp at d0
    have hz : namedB s = false := by
      cases hb : namedB s with
      | false => rfl
      | true => have h := (named_iff s).1 hb; unfold bt at h; omega
    refine awp_reg_seq fun K hK => ?_
    simp [go_sem, c0, d0]
    repeat refine ⟨by omega, ?_⟩
    refine hK _ ?_; clear hK K
    refine awp_ret ?_
    rw [hz]; simp [go_sem, Tryz.results123]
  · have d0 := c0; try simp at d0
    refine awp_skip ?_
    refine awp_seq ?_
    refine awp_reg_seq fun K hK => ?_
    simp [go_sem, c0, d0]
    repeat refine ⟨by omega, ?_⟩
    refine hK _ ?_; clear hK K
    refine awp_block ?_
    refine awp_forget [0, 3] (by simp [go_sem, restr]; rfl) ?_
    refine awp_loopU (α := Nat) (fun i => [(3, .d (I i))]) (fun i => _) (fun i => i ≤ s.size ∧ ∀ q, q < i → nameAt s q = true) (fun i => s.size - i) 0 (by simp [go_sem]) (rfl) (by simp) ?_
    rintro i ⟨hi, hx⟩
    refine awp_seq ?_
    refine awp_reg_seq fun K hK => ?_
    simp [go_sem, c0, d0, wrap_pred (i := i) (by omega)]
    repeat refine ⟨by omega, ?_⟩
    refine hK _ ?_; clear hK K
    refine awp_forget [0, 3, 28] (by simp only [restr, List.contains_cons, List.contains_nil, Nat.reduceBEq, Bool.or_false, Bool.or_true, Bool.true_or, Bool.false_or, if_true, if_false, Bool.false_eq_true]; rfl) ?_
    refine awp_cond rfl (fun c1 => ?_) (fun c1 => ?_)
    · have d1 := c1; try simp at d1
      refine awp_skip ?_
      refine awp_seq ?_
      refine awp_block ?_
      refine awp_reg_seq fun K hK => ?_
      simp [go_sem, c0, d0, wrap_pred (i := i) (by omega), c1, d1]
      try simp (disch := omega) only [wrapI]
      repeat refine ⟨by omega, ?_⟩
      refine hK _ ?_; clear hK K
      refine awp_forget [0, 3, 57] (by simp only [restr, List.contains_cons, List.contains_nil, Nat.reduceBEq, Bool.or_false, Bool.or_true, Bool.true_or, Bool.false_or, if_true, if_false, Bool.false_eq_true]; rfl) ?_
      refine awp_cond rfl (fun c2 => ?_) (fun c2 => ?_)
      · have d2 := c2; try simp at d2
        have hz : namedB s = false := named_no d1 (by
          rw [← Bool.not_eq_true, nameAt_iff, bt_lt d1]; unfold bt; omega)
        refine awp_reg_seq fun K hK => ?_
        simp [go_sem, c0, d0, wrap_pred (i := i) (by omega), c1, d1, c2, d2]
        repeat refine ⟨by omega, ?_⟩
        refine hK _ ?_; clear hK K
        refine awp_ret ?_
        rw [hz]; simp [go_sem, Tryz.results123]
      · have d2 := c2; try simp at d2
        have hnx : nameAt s i = true := by
          rw [nameAt_iff, bt_lt d1]; unfold bt; omega
        refine awp_skip ?_
        refine awp_reg_end fun K hK => ?_
        simp [go_sem, c0, d0, wrap_pred (i := i) (by omega), c1, d1, c2, d2]
        try simp (disch := omega) only [wrapI]
        repeat refine ⟨by omega, ?_⟩
        refine hK _ ?_; clear hK K
        refine ⟨i + 1, back_of' (by simp) (.refl _) (by (simp [go_sem, wrap_succ (i := i) (by omega), c0, d0, wrap_pred (i := i) (by omega), c1, d1, c2, d2] <;> omega)), ⟨by omega, fun q hq => by rcases Nat.lt_or_eq_of_le (Nat.le_of_lt_succ hq) with h | h; exact hx q h; rw [h]; exact hnx⟩, by first | omega | (dsimp only; omega)⟩
    · have d1 := c1; try simp at d1
      have hin : i = s.size := by omega
      rw [hin] at hx
      have hz : namedB s = true := (named_iff s).2 ⟨by omega, by omega, by unfold bt; omega, by unfold bt; omega, hx⟩
      refine awp_exit ?_
      refine awp_reg_seq fun K hK => ?_
      simp [go_sem, c0, d0, wrap_pred (i := i) (by omega), c1, d1]
      repeat refine ⟨by omega, ?_⟩
      refine hK _ ?_; clear hK K
      refine awp_ret ?_
      rw [hz]; simp [go_sem, Tryz.results123]

theorem ref16_item_cs (σ : List Blk) (t : TL) (i : Nat) (hi : i < t.n) (hn : t.n < 1000000000) (hN : (t.g i).Title.size < 4294967281) : CSF Tryz.prog 100 [.agg (t.enc.map .d), .d (I i)] σ (.d (I (lisE t.g i))) := by
  refine CSF.of_body T.en100 Tryz.func100 rfl (by simp [Tryz.ntmps100]) (by simp [go_sem]) fun hwf => ?_
  refine awp_reg_seq fun K hK => ?_
  simp [go_sem, Tryz.ntmps100, hi, wrap_pred (i := i) (by omega)]
  repeat refine ⟨by omega, ?_⟩
  refine hK _ ?_; clear hK K
  refine awp_reg_seq fun K hK => ?_
  simp [go_sem, hi, wrap_pred (i := i) (by omega)]
  repeat refine ⟨by omega, ?_⟩
  refine hK _ ?_; clear hK K
  refine awp_seq ?_
  refine awp_block ?_
  refine awp_reg_seq fun K hK => ?_
  simp [go_sem, hi, wrap_pred (i := i) (by omega)]
  repeat refine ⟨by omega, ?_⟩
  refine CSk.mk (ref16_in_cs _ (t.g i).Number 1 9999) ?_
  simp [go_sem, hi, wrap_pred (i := i) (by omega)]
  repeat refine ⟨by omega, ?_⟩
  refine CSm.mk (ref16_in_cs _ (t.g i).File 1 1073741824) ?_
  simp [go_sem, hi, wrap_pred (i := i) (by omega)]
  repeat refine ⟨by omega, ?_⟩
  refine CSm.mk (ref16_in_cs _ (t.g i).Pages 1 100000) ?_
  simp [go_sem, hi, wrap_pred (i := i) (by omega)]
  repeat refine ⟨by omega, ?_⟩
  refine CSm.mk (ref16_IsDating_cs _ (t.g i).First (t.g i).Last) ?_
  simp [go_sem, hi, wrap_pred (i := i) (by omega)]
  repeat refine ⟨by omega, ?_⟩
  refine hK _ ?_; clear hK K
  refine awp_forget [1, 2, 5, 12] (by simp only [restr, List.contains_cons, List.contains_nil, Nat.reduceBEq, Bool.or_false, Bool.or_true, Bool.true_or, Bool.false_or, if_true, if_false, Bool.false_eq_true]; rfl) ?_
  refine awp_cond rfl (fun c0 => ?_) (fun c0 => ?_)
  · have d0 := c0; try simp at d0
    have hr : rangeB (t.g i) = false := by
      cases hb : rangeB (t.g i) with
      | false => rfl
      | true => unfold rangeB at hb; simp at hb; simp [hb] at c0
    have hz : lisE t.g i = 2 := by unfold lisE lisE0; rw [hr]; rfl
    refine awp_reg_seq fun K hK => ?_
    simp [go_sem, hi, wrap_pred (i := i) (by omega), c0, d0]
    repeat refine ⟨by omega, ?_⟩
    refine hK _ ?_; clear hK K
    refine awp_ret ?_
    rw [hz]; simp [go_sem, Tryz.results100]
  · have d0 := c0; try simp at d0
    have hr : rangeB (t.g i) = true := by unfold rangeB; simp [d0]
    refine awp_reg_seq fun K hK => ?_
    simp [go_sem, hi, wrap_pred (i := i) (by omega), c0, d0]
    repeat refine ⟨by omega, ?_⟩
    refine CSk.mk (ref16_IsName_cs _ (t.g i).Title hN) ?_
    simp [go_sem, hi, wrap_pred (i := i) (by omega), c0, d0]
    repeat refine ⟨by omega, ?_⟩
    refine hK _ ?_; clear hK K
    refine awp_forget [1, 2, 5, 35] (by simp only [restr, List.contains_cons, List.contains_nil, Nat.reduceBEq, Bool.or_false, Bool.or_true, Bool.true_or, Bool.false_or, if_true, if_false, Bool.false_eq_true]; rfl) ?_
    refine awp_cond rfl (fun c1 => ?_) (fun c1 => ?_)
    · have d1 := c1; try simp at d1
      have hz : lisE t.g i = 4 := by unfold lisE lisE0; rw [hr, d1]; rfl
      refine awp_reg_seq fun K hK => ?_
      simp [go_sem, hi, wrap_pred (i := i) (by omega), c0, d0, c1, d1]
      repeat refine ⟨by omega, ?_⟩
      refine hK _ ?_; clear hK K
      refine awp_ret ?_
      rw [hz]; simp [go_sem, Tryz.results100]
    · have d1 := c1; try simp at d1
      refine awp_reg_seq fun K hK => ?_
      simp [go_sem, hi, wrap_pred (i := i) (by omega), c0, d0, c1, d1]
      repeat refine ⟨by omega, ?_⟩
      refine hK _ ?_; clear hK K
      refine awp_forget [1, 2, 5, 40] (by simp only [restr, List.contains_cons, List.contains_nil, Nat.reduceBEq, Bool.or_false, Bool.or_true, Bool.true_or, Bool.false_or, if_true, if_false, Bool.false_eq_true]; rfl) ?_
      refine awp_cond rfl (fun c2 => ?_) (fun c2 => ?_)
      · have d2 := c2; try simp at d2
        have h0 : lisE0 (t.g i) = 1 := by unfold lisE0; rw [hr, d1, if_neg (by simp), if_neg (by simp), if_pos (by omega)]
        have hz : lisE t.g i = 1 := by unfold lisE; rw [if_pos (by simp [h0]), h0]
        refine awp_reg_seq fun K hK => ?_
        simp [go_sem, hi, wrap_pred (i := i) (by omega), c0, d0, c1, d1, c2, d2]
        repeat refine ⟨by omega, ?_⟩
        refine hK _ ?_; clear hK K
        refine awp_ret ?_
        rw [hz]; simp [go_sem, Tryz.results100]
      · have d2 := c2; try simp at d2
        have h0 : lisE0 (t.g i) = 0 := by unfold lisE0; rw [hr, d1, if_neg (by simp), if_neg (by simp), if_neg (by omega)]
        refine awp_draw_seq 15 T.mixed (by kernel_rfl) fun K hK => ?_
        simp [go_sem, hi, wrap_pred (i := i) (by omega), c0, d0, c1, d1, c2, d2]
        try simp (disch := omega) only [wrapI]
        repeat refine ⟨by omega, ?_⟩
        refine hK _ ?_; clear hK K
        refine awp_forget [1, 2, 5, 45] (by simp only [restr, List.contains_cons, List.contains_nil, Nat.reduceBEq, Bool.or_false, Bool.or_true, Bool.true_or, Bool.false_or, if_true, if_false, Bool.false_eq_true]; rfl) ?_
        refine awp_cond rfl (fun c3 => ?_) (fun c3 => ?_)
        · have d3 := c3; try simp at d3
          have hz : lisE t.g i = 5 := by unfold lisE; rw [if_neg (by simp [h0]), if_pos (by omega)]
          refine awp_reg_seq fun K hK => ?_
          simp [go_sem, hi, wrap_pred (i := i) (by omega), c0, d0, c1, d1, c2, d2, c3, d3]
          repeat refine ⟨by omega, ?_⟩
          refine hK _ ?_; clear hK K
          refine awp_ret ?_
          rw [hz]; simp [go_sem, Tryz.results100]
        · have d3 := c3; try simp at d3
          refine awp_skip ?_
          refine awp_seq ?_
          refine awp_reg_seq fun K hK => ?_
          simp [go_sem, hi, wrap_pred (i := i) (by omega), c0, d0, c1, d1, c2, d2, c3, d3]
          repeat refine ⟨by omega, ?_⟩
          refine hK _ ?_; clear hK K
          refine awp_block ?_
          refine awp_forget [1, 2, 5, 6] (by simp [go_sem, restr]; rfl) ?_
          refine awp_loopU (α := Nat) (fun k => [(6, .d (I k))]) (fun k => _) (fun k => k ≤ i ∧ ∀ q, q < k → (t.g q).File ≠ (t.g i).File) (fun k => i - k) 0 (by simp [go_sem, hi, wrap_pred (i := i) (by omega)]) (rfl) (by simp) ?_
          rintro k ⟨hk, hx⟩
          refine awp_seq ?_
          refine awp_reg_seq fun K hK => ?_
          simp [go_sem, hi, wrap_pred (i := i) (by omega), c0, d0, c1, d1, c2, d2, c3, d3]
          repeat refine ⟨by omega, ?_⟩
          refine hK _ ?_; clear hK K
          refine awp_forget [1, 2, 5, 6, 62] (by simp only [restr, List.contains_cons, List.contains_nil, Nat.reduceBEq, Bool.or_false, Bool.or_true, Bool.true_or, Bool.false_or, if_true, if_false, Bool.false_eq_true]; rfl) ?_
          refine awp_cond rfl (fun c4 => ?_) (fun c4 => ?_)
          · have d4 := c4; try simp at d4
            refine awp_skip ?_
            refine awp_seq ?_
            refine awp_block ?_
            refine awp_draw_seq 9 T.mixed (by kernel_rfl) fun K hK => ?_
            simp [go_sem, hi, wrap_pred (i := i) (by omega), c0, d0, c1, d1, c2, d2, c3, d3, c4, d4]
            repeat refine ⟨by omega, ?_⟩
            refine hK _ ?_; clear hK K
            refine awp_forget [1, 2, 5, 6, 73] (by simp only [restr, List.contains_cons, List.contains_nil, Nat.reduceBEq, Bool.or_false, Bool.or_true, Bool.true_or, Bool.false_or, if_true, if_false, Bool.false_eq_true]; rfl) ?_
            refine awp_cond rfl (fun c5 => ?_) (fun c5 => ?_)
            · have d5 := c5; try simp at d5
              have hz : lisE t.g i = 6 := by unfold lisE; rw [if_neg (by simp [h0]), if_neg (by omega), if_pos ((twice_iff _ _).2 ⟨k, by omega, by simpa using d5⟩)]
              refine awp_reg_seq fun K hK => ?_
              simp [go_sem, hi, wrap_pred (i := i) (by omega), c0, d0, c1, d1, c2, d2, c3, d3, c4, d4, c5, d5]
              repeat refine ⟨by omega, ?_⟩
              refine hK _ ?_; clear hK K
              refine awp_ret ?_
              rw [hz]; simp [go_sem, Tryz.results100]
            · have d5 := c5; try simp at d5
              refine awp_skip ?_
              refine awp_reg_end fun K hK => ?_
              simp [go_sem, hi, wrap_pred (i := i) (by omega), c0, d0, c1, d1, c2, d2, c3, d3, c4, d4, c5, d5]
              try simp (disch := omega) only [wrapI]
              repeat refine ⟨by omega, ?_⟩
              refine hK _ ?_; clear hK K
              refine ⟨k + 1, back_of' (by simp) (.refl _) (by (simp [go_sem, wrap_succ (i := k) (by omega), hi, wrap_pred (i := i) (by omega), c0, d0, c1, d1, c2, d2, c3, d3, c4, d4, c5, d5] <;> omega)), ⟨by omega, fun q hq => by rcases Nat.lt_or_eq_of_le (Nat.le_of_lt_succ hq) with h | h; exact hx q h; rw [h]; simpa using d5⟩, by first | omega | (dsimp only; omega)⟩
          · have d4 := c4; try simp at d4
            have hz : lisE t.g i = 0 := by unfold lisE; rw [if_neg (by simp [h0]), if_neg (by omega), if_neg (by rw [twice_iff]; rintro ⟨q, h1, h2⟩; exact hx q (by omega) h2)]
            refine awp_exit ?_
            refine awp_reg_seq fun K hK => ?_
            simp [go_sem, hi, wrap_pred (i := i) (by omega), c0, d0, c1, d1, c2, d2, c3, d3, c4, d4]
            repeat refine ⟨by omega, ?_⟩
            refine hK _ ?_; clear hK K
            refine awp_ret ?_
            rw [hz]; simp [go_sem, Tryz.results100]

theorem ref16_Check_cs (σ : List Blk) (t : TL) (hn : t.n < 1000000000) (hN : ∀ i, i < t.n → (t.g i).Title.size < 4294967281) : CSF Tryz.prog 84 [.agg (t.enc.map .d)] σ (.tup [.d (I (tlChk t).1), .d (I (tlChk t).2)]) := by
  refine CSF.of_body T.en84 Tryz.func84 rfl (by simp [Tryz.ntmps84]) (by simp [go_sem]) fun hwf => ?_
  refine awp_reg_seq fun K hK => ?_
  simp [go_sem, Tryz.ntmps84]
  repeat refine ⟨by omega, ?_⟩
  refine hK _ ?_; clear hK K
  refine awp_seq ?_
  refine awp_block ?_
  refine awp_reg_seq fun K hK => ?_
  simp [go_sem]
  repeat refine ⟨by omega, ?_⟩
  refine CSk.mk (ref16_in_cs _ t.ID 1 1073741824) ?_
  simp [go_sem]
  repeat refine ⟨by omega, ?_⟩
  refine CSm.mk (ref16_in_cs _ t.Office 1 1073741824) ?_
  simp [go_sem]
  repeat refine ⟨by omega, ?_⟩
  refine CSm.mk (ref16_in_cs _ t.Day 0 1048575) ?_
  simp [go_sem]
  repeat refine ⟨by omega, ?_⟩
  refine hK _ ?_; clear hK K
  refine awp_forget [1, 6] (by simp only [restr, List.contains_cons, List.contains_nil, Nat.reduceBEq, Bool.or_false, Bool.or_true, Bool.true_or, Bool.false_or, if_true, if_false, Bool.false_eq_true]; rfl) ?_
  refine awp_cond rfl (fun c0 => ?_) (fun c0 => ?_)
  · have d0 := c0; try simp at d0
    have hr : tlHead t = false := by
      cases hb : tlHead t with
      | false => rfl
      | true => unfold tlHead at hb; simp at hb; simp [hb] at c0
    have hz : tlChk t = (-1, 2) := by unfold tlChk; rw [if_pos hr]
    refine awp_reg_seq fun K hK => ?_
    simp [go_sem, c0, d0]
    repeat refine ⟨by omega, ?_⟩
    refine hK _ ?_; clear hK K
    refine awp_ret ?_
    rw [hz]; simp [go_sem, Tryz.results84]
  · have d0 := c0; try simp at d0
    have hr : tlHead t = true := by unfold tlHead; simp [d0]
    refine awp_reg_seq fun K hK => ?_
    simp [go_sem, c0, d0]
    repeat refine ⟨by omega, ?_⟩
    refine hK _ ?_; clear hK K
    refine awp_forget [1, 23] (by simp only [restr, List.contains_cons, List.contains_nil, Nat.reduceBEq, Bool.or_false, Bool.or_true, Bool.true_or, Bool.false_or, if_true, if_false, Bool.false_eq_true]; rfl) ?_
    refine awp_cond rfl (fun c1 => ?_) (fun c1 => ?_)
    · have d1 := c1; try simp at d1
      have hz : tlChk t = (-1, 9) := by unfold tlChk; rw [if_neg (by simp [hr]), if_pos (by omega)]
      refine awp_reg_seq fun K hK => ?_
      simp [go_sem, c0, d0, c1, d1]
      repeat refine ⟨by omega, ?_⟩
      refine hK _ ?_; clear hK K
      refine awp_ret ?_
      rw [hz]; simp [go_sem, Tryz.results84]
    · have d1 := c1; try simp at d1
      refine awp_reg_seq fun K hK => ?_
      simp [go_sem, c0, d0, c1, d1]
      repeat refine ⟨by omega, ?_⟩
      refine hK _ ?_; clear hK K
      refine awp_forget [1, 28] (by simp only [restr, List.contains_cons, List.contains_nil, Nat.reduceBEq, Bool.or_false, Bool.or_true, Bool.true_or, Bool.false_or, if_true, if_false, Bool.false_eq_true]; rfl) ?_
      refine awp_cond rfl (fun c2 => ?_) (fun c2 => ?_)
      · have d2 := c2; try simp at d2
        have hz : tlChk t = (-1, 8) := by unfold tlChk; rw [if_neg (by simp [hr]), if_neg (by omega), if_pos (by omega)]
        refine awp_reg_seq fun K hK => ?_
        simp [go_sem, c0, d0, c1, d1, c2, d2]
        repeat refine ⟨by omega, ?_⟩
        refine hK _ ?_; clear hK K
        refine awp_ret ?_
        rw [hz]; simp [go_sem, Tryz.results84]
      · have d2 := c2; try simp at d2
        have hz : tlChk t = firstP (lisE t.g) 0 (t.n - 0) := by unfold tlChk; rw [if_neg (by simp [hr]), if_neg (by omega), if_neg (by omega)]; rfl
        refine awp_skip ?_
        refine awp_seq ?_
        refine awp_reg_seq fun K hK => ?_
        simp [go_sem, c0, d0, c1, d1, c2, d2]
        repeat refine ⟨by omega, ?_⟩
        refine hK _ ?_; clear hK K
        refine awp_block ?_
        refine awp_forget [1, 4] (by simp [go_sem, restr]; rfl) ?_
        refine awp_loopU (α := Nat) (fun i => [(4, .d (I i))]) (fun i => _) (fun i => i ≤ t.n ∧ tlChk t = firstP (lisE t.g) i (t.n - i)) (fun i => t.n - i) 0 (by simp [go_sem]) (rfl) (by simpa using hz) ?_
        rintro i ⟨hi, hx⟩
        refine awp_seq ?_
        refine awp_reg_seq fun K hK => ?_
        simp [go_sem, c0, d0, c1, d1, c2, d2]
        repeat refine ⟨by omega, ?_⟩
        refine hK _ ?_; clear hK K
        refine awp_forget [1, 4, 37] (by simp only [restr, List.contains_cons, List.contains_nil, Nat.reduceBEq, Bool.or_false, Bool.or_true, Bool.true_or, Bool.false_or, if_true, if_false, Bool.false_eq_true]; rfl) ?_
        refine awp_cond rfl (fun c3 => ?_) (fun c3 => ?_)
        · have d3 := c3; try simp at d3
          have hst := firstP_step (e := lisE t.g) d3
          refine awp_skip ?_
          refine awp_seq ?_
          refine awp_block ?_
          refine awp_reg_seq fun K hK => ?_
          simp [go_sem, c0, d0, c1, d1, c2, d2, c3, d3]
          repeat refine ⟨by omega, ?_⟩
          refine CSk.mk (ref16_item_cs _ t i d3 hn (hN i d3)) ?_
          simp [go_sem, c0, d0, c1, d1, c2, d2, c3, d3]
          repeat refine ⟨by omega, ?_⟩
          refine hK _ ?_; clear hK K
          refine awp_reg_seq fun K hK => ?_
          simp [go_sem, c0, d0, c1, d1, c2, d2, c3, d3]
          repeat refine ⟨by omega, ?_⟩
          refine hK _ ?_; clear hK K
          refine awp_forget [1, 4, 5, 44] (by simp only [restr, List.contains_cons, List.contains_nil, Nat.reduceBEq, Bool.or_false, Bool.or_true, Bool.true_or, Bool.false_or, if_true, if_false, Bool.false_eq_true]; rfl) ?_
          refine awp_cond rfl (fun c4 => ?_) (fun c4 => ?_)
          · have d4 := c4; try simp at d4
            have hz : tlChk t = ((i : Int), lisE t.g i) := by rw [hx, hst, if_pos (by simpa using d4)]
            refine awp_reg_seq fun K hK => ?_
            simp [go_sem, c0, d0, c1, d1, c2, d2, c3, d3, c4, d4]
            repeat refine ⟨by omega, ?_⟩
            refine hK _ ?_; clear hK K
            refine awp_ret ?_
            rw [hz]; simp [go_sem, Tryz.results84]
          · have d4 := c4; try simp at d4
            refine awp_skip ?_
            refine awp_reg_end fun K hK => ?_
            simp [go_sem, c0, d0, c1, d1, c2, d2, c3, d3, c4, d4]
            try simp (disch := omega) only [wrapI]
            repeat refine ⟨by omega, ?_⟩
            refine hK _ ?_; clear hK K
            refine ⟨i + 1, back_of' (by simp) (.refl _) (by (simp [go_sem, wrap_succ (i := i) (by omega), c0, d0, c1, d1, c2, d2, c3, d3, c4, d4] <;> omega)), ⟨by omega, by rw [hx, hst, if_neg (by simp [d4])]⟩, by first | omega | (dsimp only; omega)⟩
        · have d3 := c3; try simp at d3
          have hz : tlChk t = (-1, 0) := by rw [hx, show t.n - i = 0 by omega]; rfl
          refine awp_exit ?_
          refine awp_reg_seq fun K hK => ?_
          simp [go_sem, c0, d0, c1, d1, c2, d2, c3, d3]
          repeat refine ⟨by omega, ?_⟩
          refine hK _ ?_; clear hK K
          refine awp_ret ?_
          rw [hz]; simp [go_sem, Tryz.results84]

theorem ref16_Right_cs (σ : List Blk) (t : TL) (hn : t.n < 1000000000) (hN : ∀ i, i < t.n → (t.g i).Title.size < 4294967281) : CSF Tryz.prog 51 [.agg (t.enc.map .d)] σ (.d (B ((tlChk t).2 == 0))) := by
  refine CSF.of_body T.en51 Tryz.func51 rfl (by simp [Tryz.ntmps51]) (by simp [go_sem]) fun hwf => ?_
  refine awp_reg_seq fun K hK => ?_
  simp [go_sem, Tryz.ntmps51]
  repeat refine ⟨by omega, ?_⟩
  refine hK _ ?_; clear hK K
  refine awp_reg_seq fun K hK => ?_
  simp [go_sem]
  repeat refine ⟨by omega, ?_⟩
  refine CSk.mk (ref16_Check_cs _ t hn hN) ?_
  simp [go_sem]
  repeat refine ⟨by omega, ?_⟩
  refine hK _ ?_; clear hK K
  refine awp_reg_seq fun K hK => ?_
  simp [go_sem]
  repeat refine ⟨by omega, ?_⟩
  refine hK _ ?_; clear hK K
  refine awp_ret ?_
  simp [go_sem, Tryz.results51] <;> omega

theorem accession_listed_cs (σ : List Blk) (t : TL) (hn : t.n < 1000000000) (hN : ∀ i, i < t.n → (t.g i).Title.size < 4294967281) (hσ : σ[0]? = some (.loc 0)) : CSF Tryz.prog 46 [.agg (t.enc.map .d)] σ (.d (B ((tlChk t).2 == 0))) := by
  refine CSF.of_body T.en46 Tryz.func46 rfl (by simp [Tryz.ntmps46]) (by simp [go_sem]) fun hwf => ?_
  refine awp_reg_seq fun K hK => ?_
  simp [go_sem, Tryz.ntmps46]
  repeat refine ⟨by omega, ?_⟩
  refine hK _ ?_; clear hK K
  refine awp_reg_seq fun K hK => ?_
  simp [go_sem]
  repeat refine ⟨by omega, ?_⟩
  refine CSk.mk (transfer_Check_cs _ t hn hN (loc_app hσ)) ?_
  simp [go_sem]
  repeat refine ⟨by omega, ?_⟩
  refine hK _ ?_; clear hK K
  refine awp_reg_seq fun K hK => ?_
  simp [go_sem]
  repeat refine ⟨by omega, ?_⟩
  refine hK _ ?_; clear hK K
  refine awp_ret ?_
  simp [go_sem, Tryz.results46] <;> omega

theorem ref16_Few_cs (σ : List Blk) (t : TL) (hn : t.n ≤ 9223372036854775807) : CSF Tryz.prog 31 [.agg (t.enc.map .d)] σ (.d (B (few16 t))) := by
  refine CSF.of_body T.en31 Tryz.func31 rfl (by simp [Tryz.ntmps31]) (by simp [go_sem]) fun hwf => ?_
  refine awp_reg_seq fun K hK => ?_
  simp [go_sem, Tryz.ntmps31]
  repeat refine ⟨by omega, ?_⟩
  refine hK _ ?_; clear hK K
  refine awp_seq ?_
  refine awp_reg_seq fun K hK => ?_
  simp [go_sem]
  repeat refine ⟨by omega, ?_⟩
  refine hK _ ?_; clear hK K
  refine awp_forget [1, 13] (by simp only [restr, List.contains_cons, List.contains_nil, Nat.reduceBEq, Bool.or_false, Bool.or_true, Bool.true_or, Bool.false_or, if_true, if_false, Bool.false_eq_true]; rfl) ?_
  refine awp_cond rfl (fun c0 => ?_) (fun c0 => ?_)
  · have d0 := c0; try simp at d0
    have hz : few16 t = false := by
      cases hb : few16 t with
      | false => rfl
      | true => have h := (few16_iff t).1 hb; omega
    refine awp_reg_seq fun K hK => ?_
    simp [go_sem, c0, d0]
    repeat refine ⟨by omega, ?_⟩
    refine hK _ ?_; clear hK K
    refine awp_ret ?_
    rw [hz]; simp [go_sem, Tryz.results31]
  · have d0 := c0; try simp at d0
    refine awp_skip ?_
    refine awp_seq ?_
    refine awp_reg_seq fun K hK => ?_
    simp [go_sem, c0, d0]
    repeat refine ⟨by omega, ?_⟩
    refine hK _ ?_; clear hK K
    refine awp_block ?_
    refine awp_forget [1, 3] (by simp [go_sem, restr]; rfl) ?_
    refine awp_loopU (α := Nat) (fun i => [(3, .d (I i))]) (fun i => _) (fun i => i ≤ t.n ∧ ∀ q, q < i → (t.g q).Title.size ≤ 100 ∧ (t.g q).Digest.size ≤ 100) (fun i => t.n - i) 0 (by simp [go_sem]) (rfl) (by simp) ?_
    rintro i ⟨hi, hx⟩
    refine awp_seq ?_
    refine awp_reg_seq fun K hK => ?_
    simp [go_sem, c0, d0]
    repeat refine ⟨by omega, ?_⟩
    refine hK _ ?_; clear hK K
    refine awp_forget [1, 3, 18] (by simp only [restr, List.contains_cons, List.contains_nil, Nat.reduceBEq, Bool.or_false, Bool.or_true, Bool.true_or, Bool.false_or, if_true, if_false, Bool.false_eq_true]; rfl) ?_
    refine awp_cond rfl (fun c1 => ?_) (fun c1 => ?_)
    · have d1 := c1; try simp at d1
      refine awp_skip ?_
      refine awp_seq ?_
      refine awp_block ?_
      refine awp_reg_seq fun K hK => ?_
      simp [go_sem, c0, d0, c1, d1]
      repeat refine ⟨by omega, ?_⟩
      refine hK _ ?_; clear hK K
      refine awp_forget [1, 3, 38] (by simp only [restr, List.contains_cons, List.contains_nil, Nat.reduceBEq, Bool.or_false, Bool.or_true, Bool.true_or, Bool.false_or, if_true, if_false, Bool.false_eq_true]; rfl) ?_
      refine awp_cond rfl (fun c2 => ?_) (fun c2 => ?_)
      · have d2 := c2; try simp at d2
        have hz : few16 t = false := by
          cases hb : few16 t with
          | false => rfl
          | true => have h := ((few16_iff t).1 hb).2 i d1; omega
        refine awp_reg_seq fun K hK => ?_
        simp [go_sem, c0, d0, c1, d1, c2, d2]
        repeat refine ⟨by omega, ?_⟩
        refine hK _ ?_; clear hK K
        refine awp_ret ?_
        rw [hz]; simp [go_sem, Tryz.results31]
      · have d2 := c2; try simp at d2
        refine awp_skip ?_
        refine awp_reg_end fun K hK => ?_
        simp [go_sem, c0, d0, c1, d1, c2, d2]
        try simp (disch := omega) only [wrapI]
        repeat refine ⟨by omega, ?_⟩
        refine hK _ ?_; clear hK K
        refine ⟨i + 1, back_of' (by simp) (.refl _) (by (simp [go_sem, wrap_succ (i := i) (by omega), c0, d0, c1, d1, c2, d2] <;> omega)), ⟨by omega, fun q hq => by rcases Nat.lt_or_eq_of_le (Nat.le_of_lt_succ hq) with h | h; exact hx q h; rw [h]; omega⟩, by first | omega | (dsimp only; omega)⟩
    · have d1 := c1; try simp at d1
      have hz : few16 t = true := (few16_iff t).2 ⟨by omega, fun q hq => hx q (by omega)⟩
      refine awp_exit ?_
      refine awp_reg_seq fun K hK => ?_
      simp [go_sem, c0, d0, c1, d1]
      repeat refine ⟨by omega, ?_⟩
      refine hK _ ?_; clear hK K
      refine awp_ret ?_
      rw [hz]; simp [go_sem, Tryz.results31]

end Go.Proofs.YtnbokgmimbeihaaGreatDoor

/-! Cc -/
namespace Go.Proofs.YtnbokgmimbeihaaGreatDoor
open Go.Abs Go.Arch
set_option linter.unusedVariables false
set_option linter.unusedSimpArgs false
set_option maxRecDepth 100000
set_option maxHeartbeats 1000000

structure Rec where
  Number : Int
  Pages : Int
  Digest : ByteArray
instance : Inhabited Rec := ⟨⟨0, 0, ByteArray.empty⟩⟩
def Rec.enc (x : Rec) : List D := [I x.Number, I x.Pages, Sb x.Digest]
def encI (x : Int) : List D := [I x]
def Rec.zero : Rec := ⟨0, 0, ⟨#[]⟩⟩
structure Dif where
  Kind : Int
  Number : Int
deriving DecidableEq
instance : Inhabited Dif := ⟨⟨0, 0⟩⟩
def Dif.enc (x : Dif) : List D := [I x.Kind, I x.Number]
structure Acs where
  ID : Int
  Of : Int
  Day : Int
  nr : Nat
  r : Nat → Rec
  na : Nat
  a : Nat → Dif
def Acs.enc (x : Acs) : List D := [I x.ID, I x.Of, I x.Day, SL none 3 Rec.enc x.nr x.r, SL none 2 Dif.enc x.na x.a]
attribute [go_sem] encI Rec.enc Dif.enc Acs.enc
def recE (r : Rec) : Int := if (inB r.Number 1 9999 && inB r.Pages 1 100000) = false then 2 else if r.Digest.size ≠ 32 then 1 else 0
theorem recE_zero (r : Rec) : recE r = 0 ↔ 1 ≤ r.Number ∧ r.Number ≤ 9999 ∧ 1 ≤ r.Pages ∧ r.Pages ≤ 100000 ∧ r.Digest.size = 32 := by
  unfold recE
  cases h : (inB r.Number 1 9999 && inB r.Pages 1 100000) with
  | false => simp; intro h1 h2 h3 h4; simp [inB, h1, h2, h3, h4] at h
  | true =>
    rw [Bool.and_eq_true, inB_iff, inB_iff] at h
    by_cases h5 : r.Digest.size = 32 <;> simp [h5, h]
/-- what was received is in order -/
def OrdR (n : Nat) (g : Nat → Rec) : Prop := ∀ i, i < n → recE (g i) = 0 ∧ (0 < i → (g (i - 1)).Number < (g i).Number)
def ordR (n : Nat) (g : Nat → Rec) : Bool := decide (n ≤ 128) && (lst n fun i => decide (recE (g i) = 0) && (decide (i = 0) || decide ((g (i - 1)).Number < (g i).Number))).all id
theorem ordR_iff (n : Nat) (g : Nat → Rec) : ordR n g = true ↔ n ≤ 128 ∧ OrdR n g := by
  unfold ordR OrdR
  simp only [lst, Bool.and_eq_true, decide_eq_true_eq, List.all_map, List.all_eq_true, List.mem_range, Function.comp, id, Bool.or_eq_true]
  constructor
  · rintro ⟨h1, h2⟩
    exact ⟨h1, fun i hi => ⟨(h2 i hi).1, fun h => (h2 i hi).2.resolve_left (by omega)⟩⟩
  · rintro ⟨h1, h2⟩
    refine ⟨h1, fun i hi => ⟨(h2 i hi).1, ?_⟩⟩
    rcases Nat.eq_zero_or_pos i with h | h
    · exact .inl h
    · exact .inr ((h2 i hi).2 h)
theorem ordR_no {n : Nat} {g : Nat → Rec} (i : Nat) (hi : i < n) (h : recE (g i) ≠ 0 ∨ (0 < i ∧ (g i).Number ≤ (g (i - 1)).Number)) : ordR n g = false := by
  cases hb : ordR n g with
  | false => rfl
  | true => have h1 := ((ordR_iff n g).1 hb).2 i hi; rcases h with h | h; exact absurd h1.1 h; have := h1.2 h.1; omega
def gotI (n : Nat) (g : Nat → Rec) (u : Int) : Int := idxFrom (fun r => r.Number == u) (lst n g) 0
def gotR (n : Nat) (g : Nat → Rec) (u : Int) : Rec × Bool := if gotI n g u < 0 then (Rec.zero, false) else (g (gotI n g u).toNat, true)
def hasD (n : Nat) (g : Nat → Dif) (d : Dif) : Bool := (lst n g).any (· == d)
def lessD (a b : Dif) : Bool := decide (a.Number < b.Number) || (a.Number == b.Number && decide (a.Kind < b.Kind))
def cmpI (a b : Int) : Int := if a < b then -1 else if b < a then 1 else 0
def ordD (a b : Dif) : Int := if cmpI a.Number b.Number ≠ 0 then cmpI a.Number b.Number else cmpI a.Kind b.Kind
def fewA (a : Acs) : Bool := decide (a.nr ≤ 14 ∨ a.nr = 129) && decide (a.na ≤ 30 ∨ a.na = 129) && (lst a.nr a.r).all fun x => decide (x.Digest.size ≤ 100)
theorem fewA_iff (a : Acs) : fewA a = true ↔ (a.nr ≤ 14 ∨ a.nr = 129) ∧ (a.na ≤ 30 ∨ a.na = 129) ∧ ∀ i, i < a.nr → (a.r i).Digest.size ≤ 100 := by
  unfold fewA; simp [lst, and_assoc]
def bsLoop (p : Nat → Int) (lo hi : Nat) : Nat :=
  if lo < hi then if p ((lo + hi) / 2) < 0 then bsLoop p ((lo + hi) / 2 + 1) hi else bsLoop p lo ((lo + hi) / 2) else lo
termination_by hi - lo
decreasing_by all_goals omega
theorem bsLoop_le (p : Nat → Int) (lo hi : Nat) (h : lo ≤ hi) : lo ≤ bsLoop p lo hi ∧ bsLoop p lo hi ≤ hi := by
  fun_induction bsLoop p lo hi with
  | case1 lo hi h1 h2 ih => have := ih (by omega); omega
  | case2 lo hi h1 h2 ih => have := ih (by omega); omega
  | case3 lo hi h1 => omega
/-- in an ascending list the search finds the border -/
theorem bsLoop_cut {p : Nat → Int} {lo hi n : Nat} (h : lo ≤ hi) (hn : hi ≤ n) (hp : ∀ i j, i ≤ j → j < n → p j < 0 → p i < 0) (hl : ∀ i, i < lo → p i < 0) (hh : ∀ i, hi ≤ i → i < n → 0 ≤ p i) :
    (∀ i, i < bsLoop p lo hi → p i < 0) ∧ ∀ i, bsLoop p lo hi ≤ i → i < n → 0 ≤ p i := by
  fun_induction bsLoop p lo hi with
  | case1 lo hi h1 h2 ih => exact ih (by omega) hn (fun i hi' => hp i _ (by omega) (by omega) h2) hh
  | case2 lo hi h1 h2 ih => exact ih (by omega) (by omega) hl (fun i h3 h4 => by
      rcases Int.lt_or_le (p i) 0 with h | h
      · exact absurd (hp _ i h3 h4 h) h2
      · exact h)
  | case3 lo hi h1 => obtain rfl : lo = hi := by omega
                      exact ⟨hl, hh⟩
def bsAt (n : Nat) (p : Nat → Int) : Nat := bsLoop p 0 n
def bsIs (n : Nat) (p : Nat → Int) : Bool := decide (bsAt n p < n) && (p (bsAt n p) == 0)
theorem bsAt_le (n : Nat) (p : Nat → Int) : bsAt n p ≤ n := (bsLoop_le p 0 n (Nat.zero_le _)).2
theorem half_eq {lo hi : Nat} (h : lo + hi < 4000000000) : IntKind.i64.wrap ((IntKind.u64.wrap ((lo : Int) + hi)).fdiv 2) = ((lo + hi) / 2 : Nat) := by
  rw [show IntKind.u64.wrap ((lo : Int) + hi) = ((lo + hi : Nat) : Int) by simp [IntKind.wrap, IntKind.bits, IntKind.signed]; omega]
  rw [show ((lo + hi : Nat) : Int).fdiv 2 = ((lo + hi) / 2 : Nat) by rw [Int.fdiv_eq_ediv_of_nonneg _ (by omega)]; omega]
  rw [wrapI (by omega) (by omega)]


theorem ref17_formed_cs (σ : List Blk) (r : Rec) : CSF Tryz.prog 63 [.agg (r.enc.map .d)] σ (.d (I (recE r))) := by
  refine CSF.of_body T.en63 Tryz.func63 rfl (by simp [Tryz.ntmps63]) (by simp [go_sem]) fun hwf => ?_
  refine awp_reg_seq fun K hK => ?_
  simp [go_sem, Tryz.ntmps63]
  repeat refine ⟨by omega, ?_⟩
  refine hK _ ?_; clear hK K
  refine awp_seq ?_
  refine awp_reg_seq fun K hK => ?_
  simp [go_sem]
  repeat refine ⟨by omega, ?_⟩
  refine hK _ ?_; clear hK K
  refine awp_forget [1, 20] (by simp only [restr, List.contains_cons, List.contains_nil, Nat.reduceBEq, Bool.or_false, Bool.or_true, Bool.true_or, Bool.false_or, if_true, if_false, Bool.false_eq_true]; rfl) ?_
  refine awp_cond rfl (fun c0 => ?_) (fun c0 => ?_)
  · have d0 := c0; try simp at d0
    have hz : recE r = 2 := by unfold recE; rw [if_pos]; cases hb : (inB r.Number 1 9999 && inB r.Pages 1 100000) with
      | false => rfl
      | true => rw [Bool.and_eq_true, inB_iff, inB_iff] at hb; omega
    refine awp_reg_seq fun K hK => ?_
    simp [go_sem, c0, d0]
    repeat refine ⟨by omega, ?_⟩
    refine hK _ ?_; clear hK K
    refine awp_ret ?_
    rw [hz]; simp [go_sem, Tryz.results63]
  · have d0 := c0; try simp at d0
    have hr : (inB r.Number 1 9999 && inB r.Pages 1 100000) = true := by rw [Bool.and_eq_true, inB_iff, inB_iff]; omega
    refine awp_skip ?_
    refine awp_seq ?_
    refine awp_reg_seq fun K hK => ?_
    simp [go_sem, c0, d0]
    repeat refine ⟨by omega, ?_⟩
    refine hK _ ?_; clear hK K
    refine awp_forget [24] (by simp only [restr, List.contains_cons, List.contains_nil, Nat.reduceBEq, Bool.or_false, Bool.or_true, Bool.true_or, Bool.false_or, if_true, if_false, Bool.false_eq_true]; rfl) ?_
    refine awp_cond rfl (fun c1 => ?_) (fun c1 => ?_)
    · have d1 := c1; try simp at d1
      have hz : recE r = 1 := by unfold recE; rw [hr, if_neg (by simp), if_pos (by omega)]
      refine awp_reg_seq fun K hK => ?_
      simp [go_sem, c0, d0, c1, d1]
      repeat refine ⟨by omega, ?_⟩
      refine hK _ ?_; clear hK K
      refine awp_ret ?_
      rw [hz]; simp [go_sem, Tryz.results63]
    · have d1 := c1; try simp at d1
      have hz : recE r = 0 := by unfold recE; rw [hr, if_neg (by simp), if_neg (by omega)]
      refine awp_skip ?_
      refine awp_reg_seq fun K hK => ?_
      simp [go_sem, c0, d0, c1, d1]
      repeat refine ⟨by omega, ?_⟩
      refine hK _ ?_; clear hK K
      refine awp_ret ?_
      rw [hz]; simp [go_sem, Tryz.results63]

theorem ref17_inOrder_cs (σ : List Blk) (c : Option Nat) (n : Nat) (g : Nat → Rec) (hn : n < 1000000000) : CSF Tryz.prog 52 [.d (SL c 3 Rec.enc n g)] σ (.d (B (ordR n g))) := by
  refine CSF.of_body T.en52 Tryz.func52 rfl (by simp [Tryz.ntmps52]) (by simp [go_sem]) fun hwf => ?_
  refine awp_reg_seq fun K hK => ?_
  simp [go_sem, Tryz.ntmps52]
  repeat refine ⟨by omega, ?_⟩
  refine hK _ ?_; clear hK K
  refine awp_seq ?_
  refine awp_reg_seq fun K hK => ?_
  simp [go_sem]
  repeat refine ⟨by omega, ?_⟩
  refine hK _ ?_; clear hK K
  refine awp_block ?_
  refine awp_forget [0, 3] (by simp [go_sem, restr]; rfl) ?_
  refine awp_loopU (α := Nat) (fun i => [(3, .d (I i))]) (fun i => _) (fun i => i ≤ n ∧ OrdR i g) (fun i => n - i) 0 (by simp [go_sem]) (rfl) (⟨Nat.zero_le _, fun i hi => absurd hi (Nat.not_lt_zero i)⟩) ?_
  rintro i ⟨hi, hx⟩
  refine awp_seq ?_
  refine awp_reg_seq fun K hK => ?_
  simp [go_sem, wrap_pred (i := i) (by omega)]
  repeat refine ⟨by omega, ?_⟩
  refine hK _ ?_; clear hK K
  refine awp_forget [0, 3, 7] (by simp only [restr, List.contains_cons, List.contains_nil, Nat.reduceBEq, Bool.or_false, Bool.or_true, Bool.true_or, Bool.false_or, if_true, if_false, Bool.false_eq_true]; rfl) ?_
  refine awp_cond rfl (fun c0 => ?_) (fun c0 => ?_)
  · have d0 := c0; try simp at d0
    refine awp_skip ?_
    refine awp_seq ?_
    refine awp_block ?_
    refine awp_draw_seq 24 T.mixed (by kernel_rfl) fun K hK => ?_
    simp [go_sem, wrap_pred (i := i) (by omega), c0, d0]
    try simp (disch := omega) only [wrapI]
    repeat refine ⟨by omega, ?_⟩
    refine CSg.mk (ref17_formed_cs _ (g i)) ?_
    simp [go_sem, wrap_pred (i := i) (by omega), c0, d0]
    try simp (disch := omega) only [wrapI]
    repeat refine ⟨by omega, ?_⟩
    refine hK _ ?_; clear hK K
    refine awp_forget [0, 3, 33] (by simp only [restr, List.contains_cons, List.contains_nil, Nat.reduceBEq, Bool.or_false, Bool.or_true, Bool.true_or, Bool.false_or, if_true, if_false, Bool.false_eq_true]; rfl) ?_
    refine awp_cond rfl (fun c1 => ?_) (fun c1 => ?_)
    · have d1 := c1; try simp at d1
      have hz : ordR n g = false := ordR_no i d0 (by by_cases h : recE (g i) = 0; exact .inr (by simpa [h] using d1); exact .inl h)
      refine awp_reg_seq fun K hK => ?_
      simp [go_sem, wrap_pred (i := i) (by omega), c0, d0, c1, d1]
      repeat refine ⟨by omega, ?_⟩
      refine hK _ ?_; clear hK K
      refine awp_ret ?_
      rw [hz]; simp [go_sem, Tryz.results52]
    · have d1 := c1; try simp at d1
      have hnx : recE (g i) = 0 ∧ (0 < i → (g (i - 1)).Number < (g i).Number) := by omega
      refine awp_skip ?_
      refine awp_reg_end fun K hK => ?_
      simp [go_sem, wrap_pred (i := i) (by omega), c0, d0, c1, d1]
      try simp (disch := omega) only [wrapI]
      repeat refine ⟨by omega, ?_⟩
      refine hK _ ?_; clear hK K
      refine ⟨i + 1, back_of' (by simp) (.refl _) (by (simp [go_sem, wrap_succ (i := i) (by omega), wrap_pred (i := i) (by omega), c0, d0, c1, d1] <;> omega)), ⟨by omega, fun q hq => by rcases Nat.lt_or_eq_of_le (Nat.le_of_lt_succ hq) with h | h; exact hx q h; rw [h]; exact hnx⟩, by first | omega | (dsimp only; omega)⟩
  · have d0 := c0; try simp at d0
    have hin : i = n := by omega
    have hz : ordR n g = decide ((n : Int) ≤ 128) := by
      rw [Bool.eq_iff_iff, ordR_iff, decide_eq_true_eq]; subst hin
      exact ⟨fun h => by omega, fun h => ⟨by omega, hx⟩⟩
    refine awp_exit ?_
    refine awp_reg_seq fun K hK => ?_
    simp [go_sem, wrap_pred (i := i) (by omega), c0, d0]
    repeat refine ⟨by omega, ?_⟩
    refine hK _ ?_; clear hK K
    refine awp_ret ?_
    rw [hz]; simp [go_sem, Tryz.results52]

theorem ref17_find_cs (σ : List Blk) (c : Option Nat) (n : Nat) (g : Nat → Rec) (u : Int) (hn : n < 1000000000) : CSF Tryz.prog 64 [.d (SL c 3 Rec.enc n g), .d (I u)] σ (.tup [.agg ((gotR n g u).1.enc.map .d), .d (B (gotR n g u).2)]) := by
  refine CSF.of_body T.en64 Tryz.func64 rfl (by simp [Tryz.ntmps64]) (by simp [go_sem]) fun hwf => ?_
  refine awp_reg_seq fun K hK => ?_
  simp [go_sem, Tryz.ntmps64]
  repeat refine ⟨by omega, ?_⟩
  refine hK _ ?_; clear hK K
  refine awp_seq ?_
  refine awp_reg_seq fun K hK => ?_
  simp [go_sem]
  repeat refine ⟨by omega, ?_⟩
  refine hK _ ?_; clear hK K
  refine awp_block ?_
  refine awp_forget [0, 1, 4, 6] (by simp [go_sem, restr]; rfl) ?_
  refine awp_loopU (α := Nat) (fun i => [(6, .d (I i))]) (fun i => _) (fun i => i ≤ n ∧ gotI n g u = idxFrom (fun r => r.Number == u) ((lst n g).drop i) i) (fun i => n - i) 0 (by simp [go_sem]) (rfl) (by simp [gotI]) ?_
  rintro i ⟨hi, hx⟩
  refine awp_seq ?_
  refine awp_reg_seq fun K hK => ?_
  simp [go_sem]
  repeat refine ⟨by omega, ?_⟩
  refine hK _ ?_; clear hK K
  refine awp_forget [0, 1, 4, 6, 10] (by simp only [restr, List.contains_cons, List.contains_nil, Nat.reduceBEq, Bool.or_false, Bool.or_true, Bool.true_or, Bool.false_or, if_true, if_false, Bool.false_eq_true]; rfl) ?_
  refine awp_cond rfl (fun c0 => ?_) (fun c0 => ?_)
  · have d0 := c0; try simp at d0
    rw [drop_lst d0, idxFrom] at hx
    refine awp_skip ?_
    refine awp_seq ?_
    refine awp_block ?_
    refine awp_reg_seq fun K hK => ?_
    simp [go_sem, c0, d0]
    repeat refine ⟨by omega, ?_⟩
    refine hK _ ?_; clear hK K
    refine awp_forget [0, 1, 4, 6, 19] (by simp only [restr, List.contains_cons, List.contains_nil, Nat.reduceBEq, Bool.or_false, Bool.or_true, Bool.true_or, Bool.false_or, if_true, if_false, Bool.false_eq_true]; rfl) ?_
    refine awp_cond rfl (fun c1 => ?_) (fun c1 => ?_)
    · have d1 := c1; try simp at d1
      have hf : gotI n g u = i := by rw [hx, if_pos (by simpa using d1)]
      have hz : gotR n g u = (g i, true) := by unfold gotR; rw [hf, if_neg (by omega), Int.toNat_natCast]
      refine awp_reg_seq fun K hK => ?_
      simp [go_sem, c0, d0, c1, d1]
      repeat refine ⟨by omega, ?_⟩
      refine hK _ ?_; clear hK K
      refine awp_ret ?_
      rw [hz]; simp [go_sem, Tryz.results64]
      exact d1.symm
    · have d1 := c1; try simp at d1
      refine awp_skip ?_
      refine awp_reg_end fun K hK => ?_
      simp [go_sem, c0, d0, c1, d1]
      try simp (disch := omega) only [wrapI]
      repeat refine ⟨by omega, ?_⟩
      refine hK _ ?_; clear hK K
      refine ⟨i + 1, back_of' (by simp) (.refl _) (by (simp [go_sem, wrap_succ (i := i) (by omega), c0, d0, c1, d1] <;> omega)), ⟨by omega, by rw [hx, if_neg (by simpa using d1)]⟩, by first | omega | (dsimp only; omega)⟩
  · have d0 := c0; try simp at d0
    rw [drop_all d0, idxFrom] at hx
    refine awp_exit ?_
    refine awp_reg_seq fun K hK => ?_
    simp [go_sem, c0, d0]
    repeat refine ⟨by omega, ?_⟩
    refine hK _ ?_; clear hK K
    refine awp_ret ?_
    have hz : gotR n g u = (Rec.zero, false) := by unfold gotR; rw [hx, if_pos (by omega)]
    rw [hz]; simp [go_sem, Tryz.results64, Rec.zero]

theorem ref17_has_cs (σ : List Blk) (c : Option Nat) (n : Nat) (g : Nat → Dif) (d : Dif) (hn : n < 1000000000) : CSF Tryz.prog 42 [.d (SL c 2 Dif.enc n g), .agg (d.enc.map .d)] σ (.d (B (hasD n g d))) := by
  refine CSF.of_body T.en42 Tryz.func42 rfl (by simp [Tryz.ntmps42]) (by simp [go_sem]) fun hwf => ?_
  refine awp_reg_seq fun K hK => ?_
  simp [go_sem, Tryz.ntmps42]
  repeat refine ⟨by omega, ?_⟩
  refine hK _ ?_; clear hK K
  refine awp_seq ?_
  refine awp_reg_seq fun K hK => ?_
  simp [go_sem]
  repeat refine ⟨by omega, ?_⟩
  refine hK _ ?_; clear hK K
  refine awp_block ?_
  refine awp_forget [0, 3, 5] (by simp [go_sem, restr]; rfl) ?_
  refine awp_loopU (α := Nat) (fun i => [(5, .d (I i))]) (fun i => _) (fun i => i ≤ n ∧ ∀ q, q < i → g q ≠ d) (fun i => n - i) 0 (by simp [go_sem]) (rfl) (by simp) ?_
  rintro i ⟨hi, hx⟩
  refine awp_seq ?_
  refine awp_reg_seq fun K hK => ?_
  simp [go_sem]
  repeat refine ⟨by omega, ?_⟩
  refine hK _ ?_; clear hK K
  refine awp_forget [0, 3, 5, 9] (by simp only [restr, List.contains_cons, List.contains_nil, Nat.reduceBEq, Bool.or_false, Bool.or_true, Bool.true_or, Bool.false_or, if_true, if_false, Bool.false_eq_true]; rfl) ?_
  refine awp_cond rfl (fun c0 => ?_) (fun c0 => ?_)
  · have d0 := c0; try simp at d0
    refine awp_skip ?_
    refine awp_seq ?_
    refine awp_block ?_
    refine awp_draw_seq 6 T.mixed (by kernel_rfl) fun K hK => ?_
    simp [go_sem, c0, d0]
    repeat refine ⟨by omega, ?_⟩
    refine hK _ ?_; clear hK K
    refine awp_forget [0, 3, 5, 17] (by simp only [restr, List.contains_cons, List.contains_nil, Nat.reduceBEq, Bool.or_false, Bool.or_true, Bool.true_or, Bool.false_or, if_true, if_false, Bool.false_eq_true]; rfl) ?_
    refine awp_cond rfl (fun c1 => ?_) (fun c1 => ?_)
    · have d1 := c1; try simp at d1
      have hz : hasD n g d = true := by
        unfold hasD; simp only [lst, List.any_map, List.any_eq_true, List.mem_range, Function.comp, beq_iff_eq]
        refine ⟨i, d0, ?_⟩
        revert d1; rcases g i with ⟨k, u⟩; rcases d with ⟨k', u'⟩; simp
      refine awp_reg_seq fun K hK => ?_
      simp [go_sem, c0, d0, c1, d1]
      repeat refine ⟨by omega, ?_⟩
      refine hK _ ?_; clear hK K
      refine awp_ret ?_
      rw [hz]; simp [go_sem, Tryz.results42]
    · have d1 := c1; try simp at d1
      have hne : g i ≠ d := fun h => by simp [h] at d1
      refine awp_skip ?_
      refine awp_reg_end fun K hK => ?_
      simp [go_sem, c0, d0, c1, d1]
      try simp (disch := omega) only [wrapI]
      repeat refine ⟨by omega, ?_⟩
      refine hK _ ?_; clear hK K
      refine ⟨i + 1, back_of' (by simp) (.refl _) (by (simp [go_sem, wrap_succ (i := i) (by omega), c0, d0, c1, d1] <;> omega)), ⟨by omega, fun q hq => by rcases Nat.lt_or_eq_of_le (Nat.le_of_lt_succ hq) with h | h; exact hx q h; rw [h]; exact hne⟩, by first | omega | (dsimp only; omega)⟩
  · have d0 := c0; try simp at d0
    have hz : hasD n g d = false := by
      rw [← Bool.not_eq_true]; unfold hasD; simp only [lst, List.any_map, List.any_eq_true, List.mem_range, Function.comp, beq_iff_eq]
      rintro ⟨q, h1, h2⟩; exact hx q (by omega) h2
    refine awp_exit ?_
    refine awp_reg_seq fun K hK => ?_
    simp [go_sem, c0, d0]
    repeat refine ⟨by omega, ?_⟩
    refine hK _ ?_; clear hK K
    refine awp_ret ?_
    rw [hz]; simp [go_sem, Tryz.results42]

theorem ref17_less_cs (σ : List Blk) (a b : Dif) : CSF Tryz.prog 56 [.agg (a.enc.map .d), .agg (b.enc.map .d)] σ (.d (B (lessD a b))) := by
  refine CSF.of_body T.en56 Tryz.func56 rfl (by simp [Tryz.ntmps56]) (by simp [go_sem]) fun hwf => ?_
  refine awp_reg_seq fun K hK => ?_
  simp [go_sem, Tryz.ntmps56]
  repeat refine ⟨by omega, ?_⟩
  refine hK _ ?_; clear hK K
  refine awp_reg_seq fun K hK => ?_
  simp [go_sem]
  repeat refine ⟨by omega, ?_⟩
  refine hK _ ?_; clear hK K
  refine awp_ret ?_
  simp [go_sem, Tryz.results56, lessD] <;> omega

theorem ref17_Few_cs (σ : List Blk) (a : Acs) (hn : a.nr ≤ 9223372036854775807) (hm : a.na ≤ 9223372036854775807) : CSF Tryz.prog 38 [.agg (a.enc.map .d)] σ (.d (B (fewA a))) := by
  refine CSF.of_body T.en38 Tryz.func38 rfl (by simp [Tryz.ntmps38]) (by simp [go_sem]) fun hwf => ?_
  refine awp_reg_seq fun K hK => ?_
  simp [go_sem, Tryz.ntmps38]
  repeat refine ⟨by omega, ?_⟩
  refine hK _ ?_; clear hK K
  refine awp_seq ?_
  refine awp_reg_seq fun K hK => ?_
  simp [go_sem]
  repeat refine ⟨by omega, ?_⟩
  refine hK _ ?_; clear hK K
  refine awp_forget [1, 25] (by simp only [restr, List.contains_cons, List.contains_nil, Nat.reduceBEq, Bool.or_false, Bool.or_true, Bool.true_or, Bool.false_or, if_true, if_false, Bool.false_eq_true]; rfl) ?_
  refine awp_cond rfl (fun c0 => ?_) (fun c0 => ?_)
  · have d0 := c0; try simp at d0
    have hz : fewA a = false := by
      cases hb : fewA a with
      | false => rfl
      | true => have h := (fewA_iff a).1 hb; omega
    refine awp_reg_seq fun K hK => ?_
    simp [go_sem, c0, d0]
    repeat refine ⟨by omega, ?_⟩
    refine hK _ ?_; clear hK K
    refine awp_ret ?_
    rw [hz]; simp [go_sem, Tryz.results38]
  · have d0 := c0; try simp at d0
    refine awp_skip ?_
    refine awp_seq ?_
    refine awp_reg_seq fun K hK => ?_
    simp [go_sem, c0, d0]
    repeat refine ⟨by omega, ?_⟩
    refine hK _ ?_; clear hK K
    refine awp_block ?_
    refine awp_forget [1, 3] (by simp [go_sem, restr]; rfl) ?_
    refine awp_loopU (α := Nat) (fun i => [(3, .d (I i))]) (fun i => _) (fun i => i ≤ a.nr ∧ ∀ q, q < i → (a.r q).Digest.size ≤ 100) (fun i => a.nr - i) 0 (by simp [go_sem]) (rfl) (by simp) ?_
    rintro i ⟨hi, hx⟩
    refine awp_seq ?_
    refine awp_reg_seq fun K hK => ?_
    simp [go_sem, c0, d0]
    repeat refine ⟨by omega, ?_⟩
    refine hK _ ?_; clear hK K
    refine awp_forget [1, 3, 30] (by simp only [restr, List.contains_cons, List.contains_nil, Nat.reduceBEq, Bool.or_false, Bool.or_true, Bool.true_or, Bool.false_or, if_true, if_false, Bool.false_eq_true]; rfl) ?_
    refine awp_cond rfl (fun c1 => ?_) (fun c1 => ?_)
    · have d1 := c1; try simp at d1
      refine awp_skip ?_
      refine awp_seq ?_
      refine awp_block ?_
      refine awp_reg_seq fun K hK => ?_
      simp [go_sem, c0, d0, c1, d1]
      repeat refine ⟨by omega, ?_⟩
      refine hK _ ?_; clear hK K
      refine awp_forget [1, 3, 40] (by simp only [restr, List.contains_cons, List.contains_nil, Nat.reduceBEq, Bool.or_false, Bool.or_true, Bool.true_or, Bool.false_or, if_true, if_false, Bool.false_eq_true]; rfl) ?_
      refine awp_cond rfl (fun c2 => ?_) (fun c2 => ?_)
      · have d2 := c2; try simp at d2
        have hz : fewA a = false := by
          cases hb : fewA a with
          | false => rfl
          | true => have h := ((fewA_iff a).1 hb).2.2 i d1; omega
        refine awp_reg_seq fun K hK => ?_
        simp [go_sem, c0, d0, c1, d1, c2, d2]
        repeat refine ⟨by omega, ?_⟩
        refine hK _ ?_; clear hK K
        refine awp_ret ?_
        rw [hz]; simp [go_sem, Tryz.results38]
      · have d2 := c2; try simp at d2
        refine awp_skip ?_
        refine awp_reg_end fun K hK => ?_
        simp [go_sem, c0, d0, c1, d1, c2, d2]
        try simp (disch := omega) only [wrapI]
        repeat refine ⟨by omega, ?_⟩
        refine hK _ ?_; clear hK K
        refine ⟨i + 1, back_of' (by simp) (.refl _) (by (simp [go_sem, wrap_succ (i := i) (by omega), c0, d0, c1, d1, c2, d2] <;> omega)), ⟨by omega, fun q hq => by rcases Nat.lt_or_eq_of_le (Nat.le_of_lt_succ hq) with h | h; exact hx q h; rw [h]; omega⟩, by first | omega | (dsimp only; omega)⟩
    · have d1 := c1; try simp at d1
      have hz : fewA a = true := (fewA_iff a).2 ⟨by omega, by omega, fun q hq => hx q (by omega)⟩
      refine awp_exit ?_
      refine awp_reg_seq fun K hK => ?_
      simp [go_sem, c0, d0, c1, d1]
      repeat refine ⟨by omega, ?_⟩
      refine hK _ ?_; clear hK K
      refine awp_ret ?_
      rw [hz]; simp [go_sem, Tryz.results38]

theorem accession_ordered_cs (σ : List Blk) (c : Option Nat) (n : Nat) (g : Nat → Rec) (hn : n < 1000000000) : CSF Tryz.prog 47 [.d (SL c 3 Rec.enc n g)] σ (.d (B (ordR n g))) := by
  refine CSF.of_body T.en47 Tryz.func47 rfl (by simp [Tryz.ntmps47]) (by simp [go_sem]) fun hwf => ?_
  refine awp_reg_seq fun K hK => ?_
  simp [go_sem, Tryz.ntmps47]
  repeat refine ⟨by omega, ?_⟩
  refine hK _ ?_; clear hK K
  refine awp_seq ?_
  refine awp_reg_seq fun K hK => ?_
  simp [go_sem]
  repeat refine ⟨by omega, ?_⟩
  refine hK _ ?_; clear hK K
  refine awp_block ?_
  refine awp_forget [0, 5, 6, 7] (by simp [go_sem, restr]; rfl) ?_
  refine awp_loopU (α := Nat) (fun i => [(7, .d (I i))]) (fun i => _) (fun i => i ≤ n ∧ OrdR i g) (fun i => n - i) 0 (by simp [go_sem]) (rfl) (⟨Nat.zero_le _, fun i hi => absurd hi (Nat.not_lt_zero i)⟩) ?_
  rintro i ⟨hi, hx⟩
  refine awp_reg_seq fun K hK => ?_
  simp [go_sem, wrap_pred (i := i) (by omega)]
  repeat refine ⟨by omega, ?_⟩
  refine hK _ ?_; clear hK K
  refine awp_seq ?_
  refine awp_forget [0, 5, 6, 7, 8] (by simp only [restr, List.contains_cons, List.contains_nil, Nat.reduceBEq, Bool.or_false, Bool.or_true, Bool.true_or, Bool.false_or, if_true, if_false, Bool.false_eq_true]; rfl) ?_
  refine awp_cond rfl (fun c0 => ?_) (fun c0 => ?_)
  · have d0 := c0; try simp at d0
    refine awp_skip ?_
    refine awp_seq ?_
    refine awp_block ?_
    refine awp_reg_seq fun K hK => ?_
    simp [go_sem, wrap_pred (i := i) (by omega), c0, d0]
    repeat refine ⟨by omega, ?_⟩
    refine hK _ ?_; clear hK K
    refine awp_draw_seq 31 T.mixed (by kernel_rfl) fun K hK => ?_
    simp [go_sem, wrap_pred (i := i) (by omega), c0, d0]
    try simp (disch := omega) only [wrapI]
    repeat refine ⟨by omega, ?_⟩
    refine CSg.mk (accession_within_cs _ (g i).Number 1 9999) ?_
    simp [go_sem, wrap_pred (i := i) (by omega), c0, d0]
    try simp (disch := omega) only [wrapI]
    repeat refine ⟨by omega, ?_⟩
    refine CSg.mk (accession_within_cs _ (g i).Pages 1 100000) ?_
    simp [go_sem, wrap_pred (i := i) (by omega), c0, d0]
    try simp (disch := omega) only [wrapI]
    repeat refine ⟨by omega, ?_⟩
    refine hK _ ?_; clear hK K
    refine awp_forget [0, 5, 6, 7, 42] (by simp only [restr, List.contains_cons, List.contains_nil, Nat.reduceBEq, Bool.or_false, Bool.or_true, Bool.true_or, Bool.false_or, if_true, if_false, Bool.false_eq_true]; rfl) ?_
    refine awp_cond rfl (fun c1 => ?_) (fun c1 => ?_)
    · have d1 := c1; try simp at d1
      have hz : ordR n g = false := ordR_no i d0 (by
        rw [← Bool.not_eq_true, inB_iff, ← Bool.not_eq_true, inB_iff] at d1
        have := recE_zero (g i)
        by_cases h : recE (g i) = 0
        · rw [this] at h; omega
        · exact .inl h)
      refine awp_reg_seq fun K hK => ?_
      simp [go_sem, wrap_pred (i := i) (by omega), c0, d0, c1, d1]
      repeat refine ⟨by omega, ?_⟩
      refine hK _ ?_; clear hK K
      refine awp_ret ?_
      rw [hz]; simp [go_sem, Tryz.results47]
    · have d1 := c1; try simp at d1
      have hnx : recE (g i) = 0 ∧ (0 < i → (g (i - 1)).Number < (g i).Number) := by
        rw [inB_iff, inB_iff] at d1
        rw [recE_zero]; omega
      refine awp_skip ?_
      refine awp_reg_end fun K hK => ?_
      simp [go_sem, wrap_pred (i := i) (by omega), c0, d0, c1, d1]
      try simp (disch := omega) only [wrapI]
      repeat refine ⟨by omega, ?_⟩
      refine hK _ ?_; clear hK K
      refine ⟨i + 1, back_of' (by simp) (.refl _) (by (simp [go_sem, wrap_succ (i := i) (by omega), wrap_pred (i := i) (by omega), c0, d0, c1, d1] <;> omega)), ⟨by omega, fun q hq => by rcases Nat.lt_or_eq_of_le (Nat.le_of_lt_succ hq) with h | h; exact hx q h; rw [h]; exact hnx⟩, by first | omega | (dsimp only; omega)⟩
  · have d0 := c0; try simp at d0
    have hin : i = n := by omega
    have hz : ordR n g = decide ((n : Int) ≤ 128) := by
      rw [Bool.eq_iff_iff, ordR_iff, decide_eq_true_eq]; subst hin
      exact ⟨fun h => by omega, fun h => ⟨by omega, hx⟩⟩
    refine awp_exit ?_
    refine awp_reg_seq fun K hK => ?_
    simp [go_sem, wrap_pred (i := i) (by omega), c0, d0]
    repeat refine ⟨by omega, ?_⟩
    refine hK _ ?_; clear hK K
    refine awp_ret ?_
    rw [hz]; simp [go_sem, Tryz.results47]

theorem cmp_isNaN_cs (σ : List Blk) (a : Int) : CSF Tryz.prog 87 [.d (I a)] σ (.d (B false)) := by
  refine CSF.of_body T.en87 Tryz.func87 rfl (by simp [Tryz.ntmps87]) (by simp [go_sem]) fun hwf => ?_
  refine awp_reg_seq fun K hK => ?_
  simp [go_sem, Tryz.ntmps87]
  repeat refine ⟨by omega, ?_⟩
  refine hK _ ?_; clear hK K
  refine awp_reg_seq fun K hK => ?_
  simp [go_sem]
  repeat refine ⟨by omega, ?_⟩
  refine hK _ ?_; clear hK K
  refine awp_ret ?_
  simp [go_sem, Tryz.results87] <;> omega

theorem cmp_Compare_cs (σ : List Blk) (a b : Int) : CSF Tryz.prog 59 [.d (I a), .d (I b)] σ (.d (I (cmpI a b))) := by
  refine CSF.of_body T.en59 Tryz.func59 rfl (by simp [Tryz.ntmps59]) (by simp [go_sem]) fun hwf => ?_
  refine awp_reg_seq fun K hK => ?_
  simp [go_sem, Tryz.ntmps59]
  repeat refine ⟨by omega, ?_⟩
  refine hK _ ?_; clear hK K
  refine awp_reg_seq fun K hK => ?_
  simp [go_sem]
  repeat refine ⟨by omega, ?_⟩
  refine CSk.mk (cmp_isNaN_cs _ a) ?_
  simp [go_sem]
  repeat refine ⟨by omega, ?_⟩
  refine hK _ ?_; clear hK K
  refine awp_reg_seq fun K hK => ?_
  simp [go_sem]
  repeat refine ⟨by omega, ?_⟩
  refine CSk.mk (cmp_isNaN_cs _ b) ?_
  simp [go_sem]
  repeat refine ⟨by omega, ?_⟩
  refine hK _ ?_; clear hK K
  refine awp_seq ?_
  refine awp_reg_seq fun K hK => ?_
  simp [go_sem]
  repeat refine ⟨by omega, ?_⟩
  refine hK _ ?_; clear hK K
  refine awp_forget [0, 1, 6, 11] (by simp only [restr, List.contains_cons, List.contains_nil, Nat.reduceBEq, Bool.or_false, Bool.or_true, Bool.true_or, Bool.false_or, if_true, if_false, Bool.false_eq_true]; rfl) ?_
  refine awp_cond rfl (fun c0 => ?_) (fun c0 => ?_)
  · have d0 := c0; try simp at d0
  · have d0 := c0; try simp at d0
    refine awp_skip ?_
    refine awp_seq ?_
    refine awp_reg_seq fun K hK => ?_
    simp [go_sem, c0, d0]
    repeat refine ⟨by omega, ?_⟩
    refine hK _ ?_; clear hK K
    refine awp_forget [0, 1, 13] (by simp only [restr, List.contains_cons, List.contains_nil, Nat.reduceBEq, Bool.or_false, Bool.or_true, Bool.true_or, Bool.false_or, if_true, if_false, Bool.false_eq_true]; rfl) ?_
    refine awp_cond rfl (fun c1 => ?_) (fun c1 => ?_)
    · have d1 := c1; try simp at d1
    · have d1 := c1; try simp at d1
      refine awp_skip ?_
      refine awp_seq ?_
      refine awp_reg_seq fun K hK => ?_
      simp [go_sem, c0, d0, c1, d1]
      repeat refine ⟨by omega, ?_⟩
      refine hK _ ?_; clear hK K
      refine awp_forget [0, 1, 16] (by simp only [restr, List.contains_cons, List.contains_nil, Nat.reduceBEq, Bool.or_false, Bool.or_true, Bool.true_or, Bool.false_or, if_true, if_false, Bool.false_eq_true]; rfl) ?_
      refine awp_cond rfl (fun c2 => ?_) (fun c2 => ?_)
      · have d2 := c2; try simp at d2
        have hz : cmpI a b = -1 := by unfold cmpI; rw [if_pos d2]
        refine awp_reg_seq fun K hK => ?_
        simp [go_sem, c0, d0, c1, d1, c2, d2]
        repeat refine ⟨by omega, ?_⟩
        refine hK _ ?_; clear hK K
        refine awp_ret ?_
        rw [hz]; simp [go_sem, Tryz.results59]
      · have d2 := c2; try simp at d2
        refine awp_skip ?_
        refine awp_seq ?_
        refine awp_reg_seq fun K hK => ?_
        simp [go_sem, c0, d0, c1, d1, c2, d2]
        repeat refine ⟨by omega, ?_⟩
        refine hK _ ?_; clear hK K
        refine awp_forget [19] (by simp only [restr, List.contains_cons, List.contains_nil, Nat.reduceBEq, Bool.or_false, Bool.or_true, Bool.true_or, Bool.false_or, if_true, if_false, Bool.false_eq_true]; rfl) ?_
        refine awp_cond rfl (fun c3 => ?_) (fun c3 => ?_)
        · have d3 := c3; try simp at d3
          have hz : cmpI a b = 1 := by unfold cmpI; rw [if_neg (by omega), if_pos d3]
          refine awp_reg_seq fun K hK => ?_
          simp [go_sem, c0, d0, c1, d1, c2, d2, c3, d3]
          repeat refine ⟨by omega, ?_⟩
          refine hK _ ?_; clear hK K
          refine awp_ret ?_
          rw [hz]; simp [go_sem, Tryz.results59]
        · have d3 := c3; try simp at d3
          have hz : cmpI a b = 0 := by unfold cmpI; rw [if_neg (by omega), if_neg (by omega)]
          refine awp_skip ?_
          refine awp_reg_seq fun K hK => ?_
          simp [go_sem, c0, d0, c1, d1, c2, d2, c3, d3]
          repeat refine ⟨by omega, ?_⟩
          refine hK _ ?_; clear hK K
          refine awp_ret ?_
          rw [hz]; simp [go_sem, Tryz.results59]

theorem cmp_Or_cs (σ : List Blk) (c : Option Nat) (n : Nat) (g : Nat → Int) (hn : n < 1000000000) : CSF Tryz.prog 83 [.d (SL c 1 encI n g)] σ (.d (I (firstE g 0 n))) := by
  refine CSF.of_body T.en83 Tryz.func83 rfl (by simp [Tryz.ntmps83]) (by simp [go_sem]) fun hwf => ?_
  refine awp_reg_seq fun K hK => ?_
  simp [go_sem, Tryz.ntmps83]
  repeat refine ⟨by omega, ?_⟩
  refine hK _ ?_; clear hK K
  refine awp_reg_seq fun K hK => ?_
  simp [go_sem]
  repeat refine ⟨by omega, ?_⟩
  refine hK _ ?_; clear hK K
  refine awp_seq ?_
  refine awp_reg_seq fun K hK => ?_
  simp [go_sem]
  repeat refine ⟨by omega, ?_⟩
  refine hK _ ?_; clear hK K
  refine awp_block ?_
  refine awp_forget [3, 6, 7, 8] (by simp [go_sem, restr]; rfl) ?_
  refine awp_loopU (α := Nat) (fun i => [(8, .d (I i))]) (fun i => _) (fun i => i ≤ n ∧ firstE g 0 n = firstE g i (n - i)) (fun i => n - i) 0 (by simp [go_sem]) (rfl) (⟨Nat.zero_le _, rfl⟩) ?_
  rintro i ⟨hi, hx⟩
  refine awp_reg_seq fun K hK => ?_
  simp [go_sem]
  repeat refine ⟨by omega, ?_⟩
  refine hK _ ?_; clear hK K
  refine awp_seq ?_
  refine awp_forget [3, 6, 7, 8, 9] (by simp only [restr, List.contains_cons, List.contains_nil, Nat.reduceBEq, Bool.or_false, Bool.or_true, Bool.true_or, Bool.false_or, if_true, if_false, Bool.false_eq_true]; rfl) ?_
  refine awp_cond rfl (fun c0 => ?_) (fun c0 => ?_)
  · have d0 := c0; try simp at d0
    have hst : firstE g i (n - i) = if g i ≠ 0 then g i else firstE g (i + 1) (n - (i + 1)) := by rw [show n - i = (n - (i + 1)) + 1 by omega, firstE]
    refine awp_skip ?_
    refine awp_seq ?_
    refine awp_block ?_
    refine awp_reg_seq fun K hK => ?_
    simp [go_sem, c0, d0]
    repeat refine ⟨by omega, ?_⟩
    refine hK _ ?_; clear hK K
    refine awp_reg_seq fun K hK => ?_
    simp [go_sem, c0, d0]
    repeat refine ⟨by omega, ?_⟩
    refine hK _ ?_; clear hK K
    refine awp_forget [3, 5, 6, 7, 8, 14] (by simp only [restr, List.contains_cons, List.contains_nil, Nat.reduceBEq, Bool.or_false, Bool.or_true, Bool.true_or, Bool.false_or, if_true, if_false, Bool.false_eq_true]; rfl) ?_
    refine awp_cond rfl (fun c1 => ?_) (fun c1 => ?_)
    · have d1 := c1; try simp at d1
      have hz : firstE g 0 n = g i := by rw [hx, hst, if_pos (by simpa using d1)]
      refine awp_reg_seq fun K hK => ?_
      simp [go_sem, c0, d0, c1, d1]
      repeat refine ⟨by omega, ?_⟩
      refine hK _ ?_; clear hK K
      refine awp_ret ?_
      rw [hz]; simp [go_sem, Tryz.results83]
    · have d1 := c1; try simp at d1
      refine awp_skip ?_
      refine awp_reg_end fun K hK => ?_
      simp [go_sem, c0, d0, c1, d1]
      try simp (disch := omega) only [wrapI]
      repeat refine ⟨by omega, ?_⟩
      refine hK _ ?_; clear hK K
      refine ⟨i + 1, back_of' (by simp) (.refl _) (by (simp [go_sem, wrap_succ (i := i) (by omega), c0, d0, c1, d1] <;> omega)), ⟨by omega, by rw [hx, hst, if_neg (by simp [d1])]⟩, by first | omega | (dsimp only; omega)⟩
  · have d0 := c0; try simp at d0
    have hz : firstE g 0 n = 0 := by rw [hx, show n - i = 0 by omega]; rfl
    refine awp_exit ?_
    refine awp_reg_seq fun K hK => ?_
    simp [go_sem, c0, d0]
    repeat refine ⟨by omega, ?_⟩
    refine hK _ ?_; clear hK K
    refine awp_ret ?_
    rw [hz]; simp [go_sem, Tryz.results83]

theorem accession_order_cs (σ : List Blk) (a b : Dif) : CSF Tryz.prog 50 [.agg (a.enc.map .d), .agg (b.enc.map .d)] σ (.d (I (ordD a b))) := by
  refine CSF.of_body T.en50 Tryz.func50 rfl (by simp [Tryz.ntmps50]) (by simp [go_sem]) fun hwf => ?_
  refine awp_reg_seq fun K hK => ?_
  simp [go_sem, Tryz.ntmps50]
  repeat refine ⟨by omega, ?_⟩
  refine hK _ ?_; clear hK K
  refine awp_draw_seq 12 T.mixed (by kernel_rfl) fun K hK => ?_
  simp [go_sem]
  repeat refine ⟨by omega, ?_⟩
  refine CSg.mk (cmp_Compare_cs _ a.Number b.Number) ?_
  simp [go_sem]
  repeat refine ⟨by omega, ?_⟩
  refine CSg.mk (cmp_Compare_cs _ a.Kind b.Kind) ?_
  simp [go_sem]
  repeat refine ⟨by omega, ?_⟩
  refine CSg.mk ((cmp_Or_cs _ none 2 (fun i => if i = 0 then cmpI a.Number b.Number else cmpI a.Kind b.Kind) (by omega)).sub (by simp [go_sem, sameL, sameE, sameL0, sameA] <;> (intro i hi; obtain rfl | rfl : i = 0 ∨ i = 1 := (by omega); all_goals rfl))) ?_
  simp [go_sem]
  repeat refine ⟨by omega, ?_⟩
  refine hK _ ?_; clear hK K
  refine awp_ret ?_
  have hz : firstE (fun i => if i = 0 then cmpI a.Number b.Number else cmpI a.Kind b.Kind) 0 2 = ordD a b := by
    simp only [firstE, ordD]; by_cases h1 : cmpI a.Number b.Number = 0 <;> by_cases h2 : cmpI a.Kind b.Kind = 0 <;> simp [h1, h2]
  simp [go_sem, Tryz.results50, hz]

theorem accession_find_1_cs (σ : List Blk) (a b : Dif) : CSF Tryz.prog 82 [.agg (a.enc.map .d), .agg (b.enc.map .d)] σ (.d (I (ordD a b))) := by
  refine CSF.of_body T.en82 Tryz.func82 rfl (by simp [Tryz.ntmps82]) (by simp [go_sem]) fun hwf => ?_
  refine awp_reg_seq fun K hK => ?_
  simp [go_sem, Tryz.ntmps82]
  repeat refine ⟨by omega, ?_⟩
  refine hK _ ?_; clear hK K
  refine awp_reg_seq fun K hK => ?_
  simp [go_sem]
  repeat refine ⟨by omega, ?_⟩
  refine CSk.mk (accession_order_cs _ a b) ?_
  simp [go_sem]
  repeat refine ⟨by omega, ?_⟩
  refine hK _ ?_; clear hK K
  refine awp_ret ?_
  simp [go_sem, Tryz.results82] <;> omega

theorem accession_Receive_1_cs (σ : List Blk) (a : Rec) (b : Int) : CSF Tryz.prog 58 [.agg (a.enc.map .d), .d (I b)] σ (.d (I (cmpI a.Number b))) := by
  refine CSF.of_body T.en58 Tryz.func58 rfl (by simp [Tryz.ntmps58]) (by simp [go_sem]) fun hwf => ?_
  refine awp_reg_seq fun K hK => ?_
  simp [go_sem, Tryz.ntmps58]
  repeat refine ⟨by omega, ?_⟩
  refine hK _ ?_; clear hK K
  refine awp_reg_seq fun K hK => ?_
  simp [go_sem]
  repeat refine ⟨by omega, ?_⟩
  refine CSk.mk (cmp_Compare_cs _ a.Number b) ?_
  simp [go_sem]
  repeat refine ⟨by omega, ?_⟩
  refine hK _ ?_; clear hK K
  refine awp_ret ?_
  simp [go_sem, Tryz.results58] <;> omega

end Go.Proofs.YtnbokgmimbeihaaGreatDoor

/-! Azu -/
namespace Go.Abs
open Go
set_option linter.unusedVariables false
set_option linter.unusedSimpArgs false

theorem CSF.of_ms {P : Program} {f : FuncId} {args : List AV} {σ : List Blk} {sz n : Nat} {row : Nat → List D} (h : CS P f args σ fun r σ' X => r = .ms σ.length sz 0 n ∧ σ' = σ ++ [.arr sz n row] ∧ X = []) : CSF P f args σ (.d (.sl none sz n row)) := by
  refine ⟨h.1, fun j w vs hS hr => (h.2 j w vs hS hr).mono fun e w' => ?_⟩
  rintro ⟨v, r, σ', j', X, he, h1, h2, h3, h4, h5, rfl, rfl, rfl⟩
  have hlen : j.length = σ.length := hS.len
  obtain ⟨g1, g2, g3⟩ := hS.drop h1 (Leaves.refl σ) h5 h4
  have hb : (σ ++ [Blk.arr sz n row])[σ.length]? = some (.arr sz n row) := by simp
  have hf := h2.frzT h1 hb
  have ht : (j'.set σ.length none).take j.length = j'.take j.length := by
    rw [List.take_set_of_le (by omega)]
  have k2 : ∀ o, o ∈ j'.take j.length → o ∈ j'.set σ.length none := fun o ho => List.mem_of_mem_take (ht ▸ ho)
  have k3 : ∀ b : Nat, b < (j'.take j.length).length → (j'.set σ.length none)[b]? = (j'.take j.length)[b]? := by
    intro b hb'; rw [List.getElem?_set_ne (by simp at hb'; omega)]; exact g3 b hb'
  have hl2 : (j'.take j.length).length = j.length := by simp; omega
  refine ⟨v, _, σ, j'.take j.length, [], he, g1, ?_, ⟨h3.size, h3.keep, fun b hb hm => h3.sub b hb (g2 _ hm), h3.shp, h3.frz, h3.os, h3.tape, h3.output, h3.lps⟩, by omega, fun b hb' hn => by rw [← g3 b (by omega)]; exact h5 b hb' hn, rfl, rfl, rfl⟩
  have := hf.less k2 k3 (by simp [frzT, AV.avoids, frzA]; first | trivial | exact True.intro | skip)
  simpa [frzT, AV.avoids, frzA] using this

/-- the same where the block comes behind others of the call's own -/
theorem CSF.of_msN {P : Program} {f : FuncId} {args : List AV} {σ : List Blk} {sz n : Nat} {row : Nat → List D} (h : CS P f args σ fun r σ' X => ∃ b τ, r = .ms b sz 0 n ∧ σ' = σ ++ τ ∧ (σ ++ τ)[b]? = some (.arr sz n row) ∧ σ.length ≤ b ∧ ∀ x ∈ X, σ.length ≤ x) : CSF P f args σ (.d (.sl none sz n row)) := by
  refine ⟨h.1, fun j w vs hS hr => (h.2 j w vs hS hr).mono fun e w' => ?_⟩
  rintro ⟨v, r, σ', j', X, he, h1, h2, h3, h4, h5, b, τ, rfl, rfl, hb, hle, hX⟩
  have hlen : j.length = σ.length := hS.len
  have h5' : Ag j j' [] := fun q hq hn => h5 q hq fun hm => by have := hX q hm; omega
  obtain ⟨g1, g2, g3⟩ := hS.drop h1 (Leaves.refl σ) h5' h4
  have hf := h2.frzT h1 hb
  have ht : (j'.set b none).take j.length = j'.take j.length := by
    rw [List.take_set_of_le (by omega)]
  have k2 : ∀ o, o ∈ j'.take j.length → o ∈ j'.set b none := fun o ho => List.mem_of_mem_take (ht ▸ ho)
  have k3 : ∀ q : Nat, q < (j'.take j.length).length → (j'.set b none)[q]? = (j'.take j.length)[q]? := by
    intro q hq; rw [List.getElem?_set_ne (by simp at hq; omega)]; exact g3 q hq
  have hl2 : (j'.take j.length).length = j.length := by simp; omega
  refine ⟨v, _, σ, j'.take j.length, [], he, g1, ?_, ⟨h3.size, h3.keep, fun b hb hm => h3.sub b hb (g2 _ hm), h3.shp, h3.frz, h3.os, h3.tape, h3.output, h3.lps⟩, by omega, fun q hq hn => by rw [← g3 q (by omega)]; exact h5' q hq hn, rfl, rfl, rfl⟩
  have := hf.less k2 k3 (by simp [frzT, AV.avoids, frzA]; first | trivial | exact True.intro | skip)
  simpa [frzT, AV.avoids, frzA] using this

/-- a global table that is read: its block -/
theorem tab_cells {w : World} {j : Js} {σ : List Blk} (hS : RelS w j σ) {b c : Nat} {vs : Array Value} (h : σ[b]? = some (.tab c vs)) : ∃ e f, w.heap[c]? = some (.cells vs e f) := by
  obtain ⟨o, _, hB⟩ := hS.blk b _ h
  obtain ⟨_, _, _, e, h4, h5⟩ := hB
  unfold World.shape? at h4
  cases hc : w.heap[c]? with
  | none => simp [hc] at h4
  | some ob =>
    rw [hc] at h4
    cases ob with
    | cells C e' f =>
      simp only [Option.some.injEq, Prod.mk.injEq] at h4
      refine ⟨e', f, ?_⟩
      have hC : C = vs := by
        apply Array.ext
        · exact h4.2
        · intro i h1 h2
          have h6 := h5 i
          simp only [World.cell?, hc] at h6
          rw [Array.getElem?_eq_getElem h1, Array.getElem?_eq_getElem h2] at h6
          simpa using h6
      rw [hC]
    | _ => simp at h4
end Go.Abs
