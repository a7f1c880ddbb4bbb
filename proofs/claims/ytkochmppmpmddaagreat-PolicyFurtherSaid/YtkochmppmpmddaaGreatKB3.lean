/- Contracts and lemmas (Az, Oa, Axl, Ob, Od, Ba, Bb, Pa, Bc, Bd, Be, Bf, Bg), joined out of smaller texts by a program; no conditions. -/
import Derived.Test.YtkochmppmpmddaaGreatKB2
import Derived.ProofKit
import Derived.OpenShut
import Derived.ShutString
import Derived.ChangeOld
import Derived.Below
import Derived.Carry
import Derived.Deep.Slices
import Derived.Test.YtkochmppmpmddaaGreatProg
import Derived.KernelRfl
import Derived.WalkKit
/-! Az -/
namespace Go.Abs
set_option linter.unusedVariables false
set_option linter.unusedSimpArgs false
mutual
def frzA (b sz n' : Nat) (row : Nat → List D) : AV → AV
  | .iff g x => .iff g (frzA b sz n' row x)
  | .agg cs => .agg (frzL b sz n' row cs)
  | .tup cs => .tup (frzL b sz n' row cs)
  | .ms b' sz' lo n => if Nat.beq b' b then (if sz' = sz ∧ lo + n ≤ n' then .d (.sl none sz n fun i => row (lo + i)) else .undef) else .ms b' sz' lo n
  | .clo fn fs cs => .clo fn (frzL b sz n' row fs) (frzL b sz n' row cs)
  | .ptr b' o => if Nat.beq b' b then .undef else .ptr b' o
  | .pe b' s i k => if Nat.beq b' b then .undef else .pe b' s i k
  | .mp b' => if Nat.beq b' b then .undef else .mp b'
  | .yld b' => if Nat.beq b' b then .undef else .yld b'
  | x => x
def frzL (b sz n' : Nat) (row : Nat → List D) : List AV → List AV
  | [] => []
  | x :: xs => frzA b sz n' row x :: frzL b sz n' row xs
end
theorem frzL_length (b sz n' : Nat) (row : Nat → List D) : ∀ cs, (frzL b sz n' row cs).length = cs.length
  | [] => rfl
  | x :: xs => by simp [frzL, frzL_length b sz n' row xs]
theorem frzL_getD (b sz n' : Nat) (row : Nat → List D) : ∀ (cs : List AV) (k : Nat), (frzL b sz n' row cs).getD k .undef = frzA b sz n' row (cs.getD k .undef)
  | [], k => by simp [frzL, frzA]
  | x :: xs, 0 => by simp [frzL]
  | x :: xs, k + 1 => by
    have := frzL_getD b sz n' row xs k
    simpa [frzL] using this
theorem set_none_sub {j : Js} {b : Nat} {c : Nat} (h : some c ∈ j.set b none) : some c ∈ j := by
  obtain ⟨i, hi, he⟩ := List.mem_iff_getElem.1 h
  rw [List.getElem_set] at he
  split at he
  · cases he
  · rw [← he]; exact List.getElem_mem _
theorem RD.unset {w : World} {j : Js} {b : Nat} {d : D} {v : Value} (h : RD w j d v) : RD w (j.set b none) d v := by
  induction h with
  | v x => exact .v x
  | sl a c val hcap hle ha hlt hb hlen hcell hrel ih => exact .sl a c val hcap hle ha hlt (fun hm => hb (set_none_sub hm)) hlen hcell ih
  | zero p c hcap hp => exact .zero p c hcap hp
section
variable {w : World} {j : Js} {σ : List Blk} {b sz n' : Nat} {row : Nat → List D}
theorem get_unset {b' : Nat} {o : Option Nat} (h : j[b']? = some o) (hne : b' ≠ b) : (j.set b none)[b']? = some o := by
  rw [List.getElem?_set]; simp [Ne.symm hne, h]
theorem R.frz (hS : RelS w j σ) (hb : σ[b]? = some (.arr sz n' row)) {x : AV} {v : Value} (h : R w j x v) : R w (j.set b none) (frzA b sz n' row x) v := by
  induction h with
  | undef v => exact .undef v
  | iff h h0 ih => simp only [frzA]; exact .iff ih h0
  | d h => simp only [frzA]; exact .d h.unset
  | agg vs hs h ih =>
    simp only [frzA]
    exact .agg vs (by rw [frzL_length]; exact hs) fun k hk => by rw [frzL_getD]; exact ih k (by rwa [frzL_length] at hk)
  | tup vs hs h ih =>
    simp only [frzA]
    exact .tup vs (by rw [frzL_length]; exact hs) fun k hk => by rw [frzL_getD]; exact ih k (by rwa [frzL_length] at hk)
  | clo ff cc h1 h2 h3 h4 ih3 ih4 =>
    simp only [frzA]
    exact .clo ff cc (by rw [frzL_length]; exact h1) (by rw [frzL_length]; exact h2) (fun k hk => by rw [frzL_getD]; exact ih3 k (by rwa [frzL_length] at hk)) (fun k hk => by rw [frzL_getD]; exact ih4 k (by rwa [frzL_length] at hk))
  | @ptr b' off cb h =>
    simp only [frzA]
    by_cases e : b' = b
    · simp [e]; exact .undef _
    · simp [e]; exact .ptr (get_unset h e)
  | @pe b' s i k cb h =>
    simp only [frzA]
    by_cases e : b' = b
    · simp [e]; exact .undef _
    · simp [e]; exact .pe (get_unset h e)
  | @mp b' cb h =>
    simp only [frzA]
    by_cases e : b' = b
    · simp [e]; exact .undef _
    · simp [e]; exact .mp (get_unset h e)
  | @yld b' cb h =>
    simp only [frzA]
    by_cases e : b' = b
    · simp [e]; exact .undef _
    · simp [e]; exact .yld (get_unset h e)
  | el a val h1 hlt hbj hcell hrel => simp only [frzA]; exact .el a val h1 hlt (fun hm => hbj (set_none_sub hm)) hcell fun k hk => (hrel k hk).unset
  | @ms b' sz' lo n cb c e m h hs hn hm =>
    simp only [frzA]
    by_cases e' : b' = b
    · subst e'
      simp only [Nat.beq_refl, if_true]
      split
      · rename_i hc
        obtain ⟨rfl, hle⟩ := hc
        obtain ⟨o, ho, hB⟩ := hS.blk b' _ hb
        rw [h] at ho; cases ho
        obtain ⟨C, e2, hC, hcs, hrel⟩ := hB
        refine .d (.sl ⟨cb, lo * sz', none⟩ c (fun i k => C.getD ((lo + i) * sz' + k) Go.undef) (.inl rfl) hn rfl (hS.lt b' cb h) (fun hmem => ?_) (fun i hi => (hrel (lo + i) (by omega)).1) (fun i hi k hk => ?_) (fun i hi k hk => ?_))
        · obtain ⟨i, hi, he⟩ := List.mem_iff_getElem.1 hmem
          rw [List.getElem_set] at he
          split at he
          · cases he
          · rename_i hne
            have : j[i]? = some (some cb) := by rw [List.getElem?_eq_getElem (by simpa using hi)]; rw [he]
            exact hne (hS.inj _ _ _ h this)
        · have hbound : (lo + i) * sz' + sz' ≤ n' * sz' := by
            have : (lo + i + 1) * sz' ≤ n' * sz' := Nat.mul_le_mul_right _ (by omega)
            rwa [Nat.succ_mul] at this
          have e3 : lo * sz' + i * sz' + k = (lo + i) * sz' + k := by rw [Nat.add_mul]
          rw [cell_of hC, e3]
          simp [Array.getD_eq_getD_getElem?, show (lo + i) * sz' + k < C.size by omega]
        · exact ((hrel (lo + i) (by omega)).2 k hk).unset
      · exact .undef _
    · simp [e']; exact .ms c e m (get_unset h e') hs hn hm
  | @ms0 b' sz' p h =>
    simp only [frzA]
    by_cases e' : b' = b
    · subst e'
      simp only [Nat.beq_refl, if_true]
      split
      · rename_i hc
        obtain ⟨rfl, hle⟩ := hc
        exact .d (.zero p 0 (.inl rfl) fun _ => rfl)
      · exact .undef _
    · simp [e']; exact .ms0 p (get_unset h e')
  | op h h0 ih => simp only [frzA]; exact .op (fun hb => by have := ih hb; simpa only [frzA] using this) h0
  | @msE b' sz' lo cb p e m h hs hlo hm =>
    simp only [frzA]
    by_cases e' : b' = b
    · subst e'
      simp only [Nat.beq_refl, if_true]
      split
      · rename_i hc
        obtain ⟨rfl, hle⟩ := hc
        exact .d (.zero p 0 (.inl rfl) fun _ => rfl)
      · exact .undef _
    · simp [e']; exact .msE p e m (get_unset h e') hs hlo hm
def frzT (b sz n' : Nat) (row : Nat → List D) (x : AV) : AV := if x.avoids [b] then x else frzA b sz n' row x
theorem R.unset {x : AV} {v : Value} (h : R w j x v) (ha : x.avoids [b] = true) : R w (j.set b none) x v := by
  induction h with
  | undef v => exact .undef v
  | iff h h0 ih => exact .iff (fun hb => ih hb (by simpa [AV.avoids, hb] using ha)) h0
  | d h => exact .d h.unset
  | agg vs hs h ih => exact .agg vs hs fun k hk => ih k hk (avoidsL_getD (by simpa [AV.avoids] using ha) hk)
  | tup vs hs h ih => exact .tup vs hs fun k hk => ih k hk (avoidsL_getD (by simpa [AV.avoids] using ha) hk)
  | ptr h => exact .ptr (get_unset h (by simpa [AV.avoids] using ha))
  | pe h => exact .pe (get_unset h (by simpa [AV.avoids] using ha))
  | el a val hs hlt hb hcell hrel => exact .el a val hs hlt (fun hm => hb (set_none_sub hm)) hcell fun k hk => (hrel k hk).unset
  | ms c e m h hs hn hm => exact .ms c e m (get_unset h (by simpa [AV.avoids] using ha)) hs hn hm
  | ms0 p h => exact .ms0 p (get_unset h (by simpa [AV.avoids] using ha))
  | op h h0 ih => exact .op (fun hb => ih hb rfl) h0
  | msE p e m h hs hlo hm => exact .msE p e m (get_unset h (by simpa [AV.avoids] using ha)) hs hlo hm
  | mp h => exact .mp (get_unset h (by simpa [AV.avoids] using ha))
  | yld h => exact .yld (get_unset h (by simpa [AV.avoids] using ha))
  | @clo fn fs cs ff cc h1 h2 h3 h4 ih3 ih4 =>
    have hb : avoidsL [b] fs = true ∧ avoidsL [b] cs = true := by simpa [AV.avoids] using ha
    exact .clo ff cc h1 h2 (fun k hk => ih3 k hk (avoidsL_getD hb.1 hk)) (fun k hk => ih4 k hk (avoidsL_getD hb.2 hk))
theorem R.frzT (hS : RelS w j σ) (hb : σ[b]? = some (.arr sz n' row)) {x : AV} {v : Value} (h : R w j x v) : R w (j.set b none) (frzT b sz n' row x) v := by
  unfold Abs.frzT
  split
  · rename_i ha; exact h.unset ha
  · exact h.frz hS hb
def frzM (b sz n' : Nat) (row : Nat → List D) : List (Nat × AV) → List (Nat × AV)
  | [] => []
  | (k, v) :: t => (k, frzT b sz n' row v) :: frzM b sz n' row t
theorem frzM_get : ∀ {t : List (Nat × AV)} {k : Nat} {av : AV}, get (frzM b sz n' row t) k = some av → ∃ x, get t k = some x ∧ av = frzT b sz n' row x
  | [], k, av, h => by simp [frzM, get] at h
  | (q, u) :: t, k, av, h => by
    simp only [frzM, get] at h ⊢
    by_cases hq : q = k
    · simp [hq] at h ⊢; exact h.symm
    · simp only [beq_ne hq, Bool.false_eq_true, if_false] at h ⊢; exact frzM_get h
theorem frzM_mem : ∀ {t : List (Nat × AV)} {k : Nat} {av : AV}, (k, av) ∈ frzM b sz n' row t → ∃ x, (k, x) ∈ t ∧ av = frzT b sz n' row x
  | [], k, av, h => by simp [frzM] at h
  | (q, u) :: t, k, av, h => by
    simp only [frzM] at h
    rcases List.mem_cons.1 h with h | h
    · cases h; exact ⟨u, by simp, rfl⟩
    · obtain ⟨x, h1, h2⟩ := frzM_mem h
      exact ⟨x, List.mem_cons_of_mem _ h1, h2⟩
def frzB (b sz n' : Nat) (row : Nat → List D) : Blk → Blk
  | .var cs => .var (cs.map (frzT b sz n' row))
  | .lp L st pd => .lp { L with t := frzM b sz n' row L.t } st pd
  | x => x
theorem MapIs.unset {es : Array MapEntry} {cl : Nat} {d : Bool} {ks : List Key} {f : Key → AV} (h : MapIs w j es cl d ks f) : MapIs w (j.set b none) es cl d ks f :=
  ⟨h.stamped, h.keys, h.kind, h.free, fun e hm k hk => (h.rel e hm k hk).unset (free_avoids _ _ (h.free k))⟩
theorem IterIs.unset {mb : Nat} {es : Array MapEntry} {cl : Nat} {seen : Array Nat} {left : List Key} {cur : Option Key} {f : Key → AV} (h : IterIs w j mb es cl seen left cur f) : IterIs w (j.set b none) mb es cl seen left cur f :=
  ⟨h.lt, fun hm => h.own (set_none_sub hm), h.heap, h.stamped, h.keys, h.cur, h.free, fun e hm k hk => (h.rel e hm k hk).unset (free_avoids _ _ (h.free k))⟩
theorem RB.frz (hS : RelS w j σ) (hb : σ[b]? = some (.arr sz n' row)) {x : Blk} {o : Option Nat} (h : RB w j x o) : RB w (j.set b none) (frzB b sz n' row x) o := by
  cases x with
  | dead => simp [frzB, RB]
  | loc c =>
    obtain ⟨h1, h2, h3, m, h4⟩ := h
    exact ⟨h1, h2, fun hm => h3 (set_none_sub hm), m, h4⟩
  | arr sz0 n0 row0 =>
    cases o with
    | none => exact h
    | some cb =>
      obtain ⟨C, e, h1, h2, h3⟩ := h
      exact ⟨C, e, h1, h2, fun i hi => ⟨(h3 i hi).1, fun k hk => ((h3 i hi).2 k hk).unset⟩⟩
  | lp L st pd =>
    cases o with
    | none => exact h
    | some cb =>
      obtain ⟨r, h1, h2, h3, h4⟩ := h
      refine ⟨r, h1, h2, h3, fun k av hk => ?_⟩
      obtain ⟨x, hx, rfl⟩ := frzM_mem hk
      exact ⟨(h4 k x hx).1, (h4 k x hx).2.frzT hS hb⟩
  | mp d ks f =>
    cases o with
    | none => exact h
    | some cb =>
      obtain ⟨es, cl, h1, h2⟩ := h
      exact ⟨es, cl, h1, h2.unset⟩
  | it left cur f =>
    cases o with
    | none => exact h
    | some cb =>
      obtain ⟨mb, es, cl, seen, h1, h2⟩ := h
      exact ⟨mb, es, cl, seen, h1, h2.unset⟩
  | var cs =>
    cases o with
    | none => exact h
    | some cb =>
      obtain ⟨C, e, h1, h2, h3⟩ := h
      refine ⟨C, e, h1, by simpa using h2, fun k hk => ?_⟩
      simp only [List.length_map] at hk
      have e1 : (cs.map (frzT b sz n' row)).getD k .undef = frzT b sz n' row (cs.getD k .undef) := by
        simp [List.getD_eq_getElem?_getD, hk]
      rw [e1]; exact (h3 k hk).frzT hS hb
def frzS (b sz n' : Nat) (row : Nat → List D) (σ : List Blk) : List Blk := (σ.map (frzB b sz n' row)).set b .dead
theorem RelS.frz (hS : RelS w j σ) (hb : σ[b]? = some (.arr sz n' row)) : RelS w (j.set b none) (frzS b sz n' row σ) where
  len := by simp [frzS, hS.len]
  lt c cb h := by
    rw [List.getElem?_set] at h
    split at h
    · split at h <;> simp at h
    · exact hS.lt c cb h
  inj c c' cb h h' := by
    rw [List.getElem?_set] at h h'
    split at h
    · split at h <;> simp at h
    · split at h'
      · split at h' <;> simp at h'
      · exact hS.inj c c' cb h h'
  blk c x h := by
    unfold frzS at h
    rw [List.getElem?_set] at h
    by_cases hc : b = c
    · subst hc
      simp only [if_true, List.length_map] at h
      split at h
      · rename_i hlt
        simp at h; subst h
        exact ⟨none, by rw [List.getElem?_set]; simp [hS.len, hlt], trivial⟩
      · simp at h
    · simp only [hc, if_false, List.getElem?_map, Option.map_eq_some_iff] at h
      obtain ⟨y, hy, rfl⟩ := h
      obtain ⟨o, ho, hB⟩ := hS.blk c y hy
      exact ⟨o, by rw [List.getElem?_set]; simp [hc, ho], hB.frz hS hb⟩
end
theorem awp_freeze {P : Program} {c : Code} {Q : Exit → St → Prop} {N : Nat} {t t' : List (Nat × AV)} {σ σ' : List Blk} {mv : List Nat} (b : Nat) {sz n' : Nat} {row : Nat → List D} (hb : σ[b]? = some (.arr sz n' row)) (ht : frzM b sz n' row t = t') (hσ : frzS b sz n' row σ = σ')
    (h : AWP P c Q ⟨N, t', σ', b :: mv⟩) : AWP P c Q ⟨N, t, σ, mv⟩ := by
  refine awp_sub (s' := ⟨N, t', σ', b :: mv⟩) ?_ h
  intro j0 j a w hr
  subst ht hσ
  have he : Ev j w (j.set b none) w := ⟨Nat.le_refl _, fun _ _ _ => rfl, fun c _ hm => set_none_sub hm, fun _ _ => rfl, fun _ _ => rfl, rfl, rfl, rfl, fun _ r h => ⟨r, h⟩⟩
  refine ⟨j.set b none, ⟨hr.defers.mono he, hr.rdok, hr.size, fun k av hk => ?_, hr.sto.frz hb, by simpa using hr.len0, fun c hc hn => ?_⟩, he⟩
  · obtain ⟨x, hx, rfl⟩ := frzM_get hk
    exact ⟨(hr.tmp k x hx).1, (hr.tmp k x hx).2.frzT hr.sto hb⟩
  · simp at hn
    rw [List.getElem?_set]
    rw [if_neg (fun e => hn.1 e.symm)]
    exact hr.ag c hc hn.2
theorem frzM_id {b sz n' : Nat} {row : Nat → List D} : ∀ {t : List (Nat × AV)}, (∀ k av, (k, av) ∈ t → av.avoids [b] = true) → frzM b sz n' row t = t
  | [], _ => rfl
  | (q, u) :: t, h => by
    simp only [frzM]
    rw [frzM_id fun k av hk => h k av (List.mem_cons_of_mem _ hk)]
    simp [frzT, h q u (by simp)]
theorem mem_del_self : ∀ {t : List (Nat × AV)} {k : Nat} {av : AV}, (k, av) ∉ Abs.del t k
  | [], k, av => by simp [Abs.del]
  | (q, u) :: t, k, av => by
    simp only [Abs.del]
    split
    · exact mem_del_self
    · rename_i h
      intro hm
      rcases List.mem_cons.1 hm with e | e
      · cases e; simp at h
      · exact mem_del_self e
theorem del_len : ∀ (t : List (Nat × AV)) (k : Nat), (Abs.del t k).length ≤ t.length
  | [], k => by simp [Abs.del]
  | (q, u) :: t, k => by
    simp only [Abs.del]
    split
    · have := del_len t k; simp; omega
    · have := del_len t k; simp; omega
theorem scrub_len (X : List Nat) : ∀ t : List (Nat × AV), (scrub' X t).length ≤ t.length
  | [] => by simp [scrub']
  | (q, u) :: t => by
    have := scrub_len X t
    simp only [scrub']
    split
    · simp; omega
    · have := del_len (scrub' X t) q; simp; omega
theorem scrub_fix {X : List Nat} : ∀ {t : List (Nat × AV)}, scrub' X t = t → ∀ k av, (k, av) ∈ t → av.avoids X = true
  | [], _, _, _, h => by simp at h
  | (q, u) :: t, h, k, av, hm => by
    simp only [scrub'] at h
    split at h
    · rename_i hu
      rcases List.mem_cons.1 hm with e | e
      · cases e; exact hu
      · exact scrub_fix (List.cons.inj h).2 k av e
    · have h1 := congrArg List.length h
      have h2 := del_len (scrub' X t) q
      have h3 := scrub_len X t
      simp at h1; omega
theorem WfS.frz {σ : List Blk} (h : WfS σ) (k sz n' : Nat) (row : Nat → List D) : σ.map (frzB (σ.length + k) sz n' row) = σ := by
  have hs := h.one k
  refine (List.map_congr_left fun x hx => ?_).trans (List.map_id _)
  have hx' : scrubV [σ.length + k] x = x := by
    obtain ⟨i, hi, he⟩ := List.mem_iff_getElem.1 hx
    have := congrArg (fun l => l[i]?) hs
    simp [hi] at this
    rw [← he]; exact this
  cases x with
  | var cs =>
    simp only [frzB, id, Blk.var.injEq]
    simp only [scrubV, Blk.var.injEq] at hx'
    refine (List.map_congr_left fun c hc => ?_).trans (List.map_id _)
    have : c.avoids [σ.length + k] = true := by
      obtain ⟨i, hi, he⟩ := List.mem_iff_getElem.1 hc
      have := congrArg (fun l => l[i]?) hx'
      simp [hi] at this
      rw [← he]
      by_cases ha : (cs[i]).avoids [σ.length + k] = true
      · exact ha
      · have := this (by simpa using ha)
        rw [← this]; rfl
    simp [frzT, this]
  | lp L st pd =>
    simp only [scrubV, Blk.lp.injEq] at hx'
    have h2 : scrub' [σ.length + k] L.t = L.t := congrArg LoopA.t hx'.1
    simp only [frzB, id]
    rw [frzM_id (scrub_fix h2)]
  | arr a c d => rfl
  | dead => rfl
  | loc c => rfl
  | mp d ks f => rfl
  | it left cur f => rfl
theorem WfS.frz0 {σ : List Blk} (h : WfS σ) (sz n' : Nat) (row : Nat → List D) : σ.map (frzB σ.length sz n' row) = σ := h.frz 0 sz n' row
theorem awp_thawT {P : Program} {c : Code} {Q : Exit → St → Prop} {N : Nat} {t t' : List (Nat × AV)} {σ : List Blk} {mv : List Nat} (k sz : Nat) (row : Nat → List D) (hk : get t k = some (.d (.v (.slice none 0 0)))) (ht : put t k (.ms σ.length sz 0 0) = t')
    (h : AWP P c Q ⟨N, t', σ ++ [.arr sz 0 row], mv⟩) : AWP P c Q ⟨N, t, σ, mv⟩ := by
  refine awp_sub (s' := ⟨N, t', σ ++ [.arr sz 0 row], mv⟩) ?_ h
  intro j0 j a w hr
  subst ht
  obtain ⟨h1, h2, h3⟩ := hr.sto.unmade (sz := sz) (rows := row) (p := none)
  refine ⟨j ++ [none], ⟨hr.defers.mono h3, hr.rdok, hr.size, fun q av hq => ?_, h1, by have := hr.len0; simp; omega, fun c hc hn => ?_⟩, h3⟩
  · simp only at hq
    rw [get_put] at hq
    split at hq
    · rename_i e
      subst e
      simp only [Option.some.injEq] at hq
      subst hq
      have := hr.tmp k _ hk
      refine ⟨this.1, ?_⟩
      have hv := R_v this.2
      rw [hv]; exact h2
    · exact ⟨(hr.tmp q av hq).1, (hr.tmp q av hq).2.mono0 h3 hr.sto.lt (ag_append _ _)⟩
  · have := hr.len0
    rw [List.getElem?_append_left (by omega)]; exact hr.ag c hc hn
theorem awp_thawV {P : Program} {c : Code} {Q : Exit → St → Prop} {N : Nat} {t : List (Nat × AV)} {σ σ' : List Blk} {mv : List Nat} (v sz : Nat) (row : Nat → List D) (hv : σ[v]? = some (.var [.d (.v (.slice none 0 0))])) (hσ : σ.set v (.var [.ms σ.length sz 0 0]) ++ [.arr sz 0 row] = σ')
    (h : AWP P c Q ⟨N, t, σ', mv⟩) : AWP P c Q ⟨N, t, σ, mv⟩ := by
  refine awp_sub (s' := ⟨N, t, σ', mv⟩) ?_ h
  intro j0 j a w hr
  subst hσ
  obtain ⟨h1, h2, h3⟩ := hr.sto.unmade (sz := sz) (rows := row) (p := none)
  have hvl : v < σ.length := (List.getElem?_eq_some_iff.1 hv).1
  refine ⟨j ++ [none], ⟨hr.defers.mono h3, hr.rdok, hr.size, fun q av hq => ⟨(hr.tmp q av hq).1, (hr.tmp q av hq).2.mono0 h3 hr.sto.lt (ag_append _ _)⟩, ⟨by simp [hr.sto.len], h1.lt, h1.inj, fun b x hx => ?_⟩, by have := hr.len0; simp; omega, fun c hc hn => ?_⟩, h3⟩
  · rw [← List.set_append_left _ _ hvl, List.getElem?_set] at hx
    split at hx
    · rename_i e
      subst e
      split at hx
      · simp only [Option.some.injEq] at hx
        subst hx
        obtain ⟨o, ho, hB⟩ := h1.blk v (.var [.d (.v (.slice none 0 0))]) (by rw [List.getElem?_append_left hvl]; exact hv)
        refine ⟨o, ho, ?_⟩
        cases o with
        | none => exact hB
        | some cb =>
          obtain ⟨C, e, g1, g2, g3⟩ := hB
          refine ⟨C, e, g1, g2, fun k hk => ?_⟩
          have hk0 : k = 0 := by simpa using hk
          subst hk0
          have h0 := R_v (show R w (j ++ [none]) (.d (.v (.slice none 0 0))) (C.getD 0 Go.undef) from g3 0 (by simp))
          simp only [List.getD_cons_zero]
          rw [h0]; exact h2
      · simp at hx
    · exact h1.blk b x hx
  · have := hr.len0
    rw [List.getElem?_append_left (by omega)]; exact hr.ag c hc hn
theorem CS.of_bodyW {P : Program} {f : FuncId} {fn : Func} {c : Code} {args : List AV} {σ : List Blk} {Q : AV → List Blk → List Nat → Prop} (hen : entersB P f = true) (hf : P.funcs[f]? = some fn) (hb : fn.body = some c) (hN : args.length ≤ fn.ntmps)
    (h : WfS σ → AWP P c (retPost P fn Q) (St.init fn.ntmps args σ)) : CS P f args σ Q :=
  ⟨hen, fun j w vs hs hr => (CS.of_body hen hf hb hN (h hs.wf)).2 j w vs hs hr⟩
attribute [go_sem ↓] retPost
def under1 (n : Nat) : Blk → Prop
  | .var cs => underL n cs
  | .arr _ _ _ => True
  | .dead => True
  | .loc _ => True
  | .mp _ _ _ => True
  | .it _ _ _ => True
  | .lp L _ _ => ∀ k av, (k, av) ∈ L.t → av.under n
def leavesL (n : Nat) : List Blk → List Blk → Prop
  | [], [] => True
  | x :: xs, y :: ys => (x = y ∨ under1 n y) ∧ leavesL n xs ys
  | _, _ => False
theorem under1_blk {n : Nat} {y : Blk} (h : under1 n y) : blkUnder n y := by
  cases y with
  | var cs => exact fun k hk => underL_getD h hk
  | arr a b c => trivial
  | dead => trivial
  | loc c => trivial
  | mp d ks f => trivial
  | it left cur f => trivial
  | lp L st pd => exact h
theorem leavesL_spec {n : Nat} : ∀ {xs ys : List Blk}, leavesL n xs ys → ys.length = xs.length ∧ ∀ (k : Nat) y, ys[k]? = some y → xs[k]? = some y ∨ blkUnder n y
  | [], [], _ => ⟨rfl, by simp⟩
  | x :: xs, y :: ys, h => by
    obtain ⟨h1, h2⟩ := leavesL_spec h.2
    refine ⟨by simp [h1], fun k z hz => ?_⟩
    cases k with
    | zero =>
      simp only [List.getElem?_cons_zero, Option.some.injEq] at hz ⊢
      subst hz
      rcases h.1 with e | e
      · exact .inl e
      · exact .inr (under1_blk e)
    | succ k => simpa using h2 k z (by simpa using hz)
  | [], _ :: _, h => h.elim
  | _ :: _, [], h => h.elim
theorem leaves_app {σ xs ys : List Blk} (h : leavesL (σ.length + xs.length) xs ys) : Leaves (σ ++ xs) (σ ++ ys) := by
  obtain ⟨h1, h2⟩ := leavesL_spec h
  refine ⟨by simp [h1], fun b x hx => ?_⟩
  rw [List.getElem?_append] at hx ⊢
  split at hx
  · rename_i hb; rw [if_pos hb]; exact .inl hx
  · rename_i hb
    rw [if_neg hb]
    rcases h2 _ _ hx with e | e
    · exact .inl e
    · exact .inr (by simpa using e)
theorem leavesL_refl (n : Nat) : ∀ xs : List Blk, leavesL n xs xs = True
  | [] => rfl
  | x :: xs => by simp [leavesL, leavesL_refl n xs]
attribute [go_sem] leavesL under1 leavesL_refl
theorem sub_shrink {N : Nat} {t : List (Nat × AV)} {σ σ' : List Blk} {mv : List Nat} (b n' : Nat) {sz n : Nat} {row : Nat → List D} (row' : Nat → List D) (hb : σ[b]? = some (.arr sz n row)) (hn : n' ≤ n) (hr : ∀ i, i < n' → row i = row' i) (hσ : σ.set b (.arr sz n' row') = σ') : Sub ⟨N, t, σ, mv⟩ ⟨N, t, σ', mv⟩ := by
  intro j0 j a w h
  subst hσ
  refine ⟨j, ⟨h.defers, h.rdok, h.size, h.tmp, ⟨by simp [h.sto.len], h.sto.lt, h.sto.inj, fun c x hx => ?_⟩, h.len0, h.ag⟩, .refl _ _⟩
  simp only at hx
  rw [List.getElem?_set] at hx
  split at hx
  · rename_i e
    subst e
    split at hx
    · simp only [Option.some.injEq] at hx
      subst hx
      obtain ⟨o, ho, hB⟩ := h.sto.blk b _ hb
      refine ⟨o, ho, ?_⟩
      cases o with
      | none =>
        have : n = 0 := hB
        show n' = 0
        omega
      | some cb =>
        obtain ⟨C, e, g1, g2, g3⟩ := hB
        have hm : n' * sz ≤ n * sz := Nat.mul_le_mul_right _ hn
        exact ⟨C, e, g1, by omega, fun i hi => by rw [← hr i hi]; exact g3 i (by omega)⟩
    · simp at hx
  · exact h.sto.blk c x hx
theorem sub_rows {N : Nat} {t : List (Nat × AV)} {σ σ' : List Blk} {mv : List Nat} (b : Nat) {sz n : Nat} {row : Nat → List D} (row' : Nat → List D) (hb : σ[b]? = some (.arr sz n row)) (hr : ∀ i, i < n → row i = row' i) (hσ : σ.set b (.arr sz n row') = σ') : Sub ⟨N, t, σ, mv⟩ ⟨N, t, σ', mv⟩ :=
  sub_shrink b n row' hb (Nat.le_refl _) hr hσ
theorem awp_shrink {P : Program} {c : Code} {Q : Exit → St → Prop} {N : Nat} {t : List (Nat × AV)} {σ σ' : List Blk} {mv : List Nat} (b n' : Nat) {sz n : Nat} {row : Nat → List D} (row' : Nat → List D) (hb : σ[b]? = some (.arr sz n row)) (hn : n' ≤ n) (hr : ∀ i, i < n' → row i = row' i) (hσ : σ.set b (.arr sz n' row') = σ')
    (h : AWP P c Q ⟨N, t, σ', mv⟩) : AWP P c Q ⟨N, t, σ, mv⟩ := awp_sub (sub_shrink b n' row' hb hn hr hσ) h
theorem awp_rows {P : Program} {c : Code} {Q : Exit → St → Prop} {N : Nat} {t : List (Nat × AV)} {σ σ' : List Blk} {mv : List Nat} (b : Nat) {sz n : Nat} {row : Nat → List D} (row' : Nat → List D) (hb : σ[b]? = some (.arr sz n row)) (hr : ∀ i, i < n → row i = row' i) (hσ : σ.set b (.arr sz n row') = σ')
    (h : AWP P c Q ⟨N, t, σ', mv⟩) : AWP P c Q ⟨N, t, σ, mv⟩ := awp_sub (sub_rows b row' hb hr hσ) h
theorem catRows_zero (row rows : Nat → List D) : catRows 0 row rows = rows := by funext i; simp [catRows]
attribute [go_sem] catRows_zero rep asDs allOneD oneD
theorem cat_nth {α : Type} [Inhabited α] {enc : α → List D} {l : List α} {x : α} {ds : List D} {sz : Nat} (h : ds.take sz = enc x) {i : Nat} (hi : i < l.length + 1) : catRows l.length (fun i => enc (nth l i)) (rowsOf sz ds) i = enc (nth (l ++ [x]) i) := by
  unfold catRows
  split
  · rename_i h1; simp [nth, List.getElem?_append_left h1]
  · rename_i h1
    have : i = l.length := by omega
    subst this
    simp [rowsOf, nth, h]
theorem set_nth {α : Type} [Inhabited α] {enc : α → List D} {l : List α} {x : α} {k : Nat} {ds : List D} (h : ds = enc x) {i : Nat} (hi : i < l.length) : (if i = k then ds else enc (nth l i)) = enc (nth (l.set k x) i) := by
  by_cases e : i = k
  · subst e; simp [nth, hi, h]
  · simp [e, nth, List.getElem?_set, Ne.symm e]
theorem rowsOf_zero (sz : Nat) (ds : List D) : rowsOf sz ds 0 = ds.take sz := by simp [rowsOf]
attribute [go_sem] scrub' scrubV rowsOf_zero
attribute [go_sem] frzM frzS frzB frzT frzA frzL AV.avoids avoidsL
end Go.Abs

/-! Oa -/
namespace Go.Abs
open Go.ChangeShapes Go.WideShapes Go.ChangeAt Go.RowKit Go.Deep
set_option linter.unusedVariables false
set_option linter.unusedSimpArgs false
def RDs (w : World) (ds : List D) (cs : List Value) : Prop := cs.length = ds.length ∧ ∀ k, k < ds.length → RD w [] (ds.getD k default) (cs.getD k Go.undef)
theorem RDs.nil (w : World) : RDs w [] [] := ⟨rfl, by simp⟩
theorem RDs.append {w : World} {a b : List D} {c e : List Value} (h : RDs w a c) (k : RDs w b e) : RDs w (a ++ b) (c ++ e) := by
  refine ⟨by simp [h.1, k.1], fun i hi => ?_⟩
  rcases Nat.lt_or_ge i a.length with hl | hl
  · have := h.2 i hl
    rw [List.getD_eq_getElem?_getD, List.getD_eq_getElem?_getD, List.getElem?_append_left hl, List.getElem?_append_left (by rw [h.1]; exact hl)]
    rwa [List.getD_eq_getElem?_getD, List.getD_eq_getElem?_getD] at this
  · have := k.2 (i - a.length) (by simp at hi; omega)
    rw [List.getD_eq_getElem?_getD, List.getD_eq_getElem?_getD, List.getElem?_append_right hl, List.getElem?_append_right (by rw [h.1]; exact hl), h.1]
    rwa [List.getD_eq_getElem?_getD, List.getD_eq_getElem?_getD] at this
theorem RDs.one {w : World} {d : D} {c : Value} (h : RD w [] d c) : RDs w [d] [c] := ⟨rfl, fun k hk => by
  have : k = 0 := by simpa using hk
  subst this; exact h⟩
def Opn (P : Program) (t : TypeId) (g : List D → Prop) : Prop :=
  ∀ (H : Type) (enc : TypeId × Value → H) (w : World) (base : Nat) (spare : Nat → Bool) (held : Bool) (fuel : Nat) (cs : List Value) (x : DataW H × List MemPlace), DataW.trod enc P w base spare held fuel t cs = some x → ∃ ds, g ds ∧ RDs w ds cs
section
variable {P : Program} {t : TypeId}
theorem Opn.mono {g g' : List D → Prop} (h : Opn P t g) (hg : ∀ ds, g ds → g' ds) : Opn P t g' := fun H enc w base spare held fuel cs x hx =>
  let ⟨ds, h1, h2⟩ := h H enc w base spare held fuel cs x hx
  ⟨ds, hg ds h1, h2⟩
theorem opn_int {k : IntKind} (ht : P.underlying t = some (.int k)) : Opn P t fun ds => ∃ n, ds = [.v (.int k n)] ∧ (Lit.int k n).wf = true := by
  intro H enc w base spare held fuel cs x hx
  obtain ⟨n, rfl, _, hw⟩ := DataW.trod_int ht hx
  exact ⟨_, ⟨n, rfl, hw⟩, .one (.v _)⟩
theorem opn_bool (ht : P.underlying t = some .bool) : Opn P t fun ds => ∃ b, ds = [.v (.bool b)] := by
  intro H enc w base spare held fuel cs x hx
  obtain ⟨n, rfl, _⟩ := DataW.trod_bool ht hx
  exact ⟨_, ⟨n, rfl⟩, .one (.v _)⟩
theorem opn_string (ht : P.underlying t = some .string) : Opn P t fun ds => ∃ s : ByteArray, ds = [.v (.string s)] ∧ s.size ≤ maxLen := by
  intro H enc w base spare held fuel cs x hx
  obtain ⟨n, rfl, _, hw⟩ := DataW.trod_string ht hx
  exact ⟨_, ⟨n, rfl, hw⟩, .one (.v _)⟩
def Goods : List (List D → Prop) → List D → Prop
  | [], ds => ds = []
  | g :: gs, ds => ∃ a b, ds = a ++ b ∧ g a ∧ Goods gs b
def fieldsAt (P : Program) (tot : Nat) : Nat → List Field → Bool
  | off, [] => Nat.beq off tot
  | off, f :: fs => Nat.beq f.offset off && fieldsAt P tot (off + P.cellsOf f.type) fs
inductive All2 {α β : Type} (r : α → β → Prop) : List α → List β → Prop
  | nil : All2 r [] []
  | cons {a : α} {b : β} {as0 : List α} {bs : List β} (h : r a b) (t : All2 r as0 bs) : All2 r (a :: as0) (b :: bs)
theorem fieldsAt_le {tot : Nat} : ∀ {fs : List Field} {off : Nat}, fieldsAt P tot off fs = true → off ≤ tot
  | [], off, h => by have := Nat.eq_of_beq_eq_true h; omega
  | f :: fs, off, h => by
    simp [fieldsAt] at h
    have := fieldsAt_le h.2
    omega
theorem opn_fields {H : Type} {enc : TypeId × Value → H} {w : World} {base : Nat} {spare : Nat → Bool} {held : Bool} {fuel : Nat} {cs : List Value} :
    ∀ {fs : List Field} {gs : List (List D → Prop)} {off : Nat}, All2 (fun f g => Opn P f.type g) fs gs → fieldsAt P cs.length off fs = true →
      (∀ f ∈ fs, ∃ y, DataW.trod enc P w base spare held fuel f.type ((cs.drop f.offset).take (P.cellsOf f.type)) = some y) → ∃ ds, Goods gs ds ∧ RDs w ds (cs.drop off)
  | [], _, off, .nil, hf, _ => by
    have := Nat.eq_of_beq_eq_true hf
    refine ⟨[], rfl, ?_⟩
    rw [List.drop_eq_nil_of_le (by omega)]
    exact .nil w
  | f :: fs, _, off, .cons h hs, hf, hy => by
    simp [fieldsAt] at hf
    obtain ⟨h1, h2⟩ := hf
    have hle := fieldsAt_le h2
    obtain ⟨y, hy0⟩ := hy f (by simp)
    obtain ⟨a, ga, ra⟩ := h _ _ _ _ _ _ _ _ _ hy0
    obtain ⟨b, gb, rb⟩ := opn_fields hs h2 fun f' hf' => hy f' (List.mem_cons_of_mem _ hf')
    refine ⟨a ++ b, ⟨a, b, rfl, ga, gb⟩, ?_⟩
    have := ra.append rb
    rwa [h1, ← List.drop_drop, List.take_append_drop] at this
theorem opn_struct {fs : Array Field} {gs : List (List D → Prop)} (ht : P.underlying t = some (.struct fs)) (hat : fieldsAt P (P.cellsOf t) 0 fs.toList = true) (h : All2 (fun f g => Opn P f.type g) fs.toList gs) : Opn P t (Goods gs) := by
  intro H enc w base spare held fuel cs x hx
  obtain ⟨xs, n, _, _, hlen, hxl, hf⟩ := DataW.trod_struct ht hx
  rw [← hlen] at hat
  have := opn_fields (H := H) (enc := enc) (w := w) (base := base) (spare := spare) (held := held) (fuel := n) (cs := cs) (off := 0) h hat ?_
  · simpa using this
  intro f hm
  obtain ⟨i, hi⟩ := List.getElem?_of_mem hm
  have hi' : fs[i]? = some f := by simpa using hi
  have hlt : i < xs.length := by rw [hxl]; exact (Array.getElem?_eq_some_iff.1 hi').1
  exact ⟨xs[i], (hf i f hi').trans (List.getElem?_eq_getElem hlt)⟩
theorem opn_elems {H : Type} {enc : TypeId × Value → H} {w : World} {base : Nat} {spare : Nat → Bool} {held : Bool} {fuel : Nat} {cs : List Value} {e : TypeId} {g : List D → Prop} (h : Opn P e g) :
    ∀ (n i : Nat), cs.length = (i + n) * P.cellsOf e → (∀ k, i ≤ k → k < i + n → ∃ y, DataW.trod enc P w base spare held fuel e ((cs.drop (k * P.cellsOf e)).take (P.cellsOf e)) = some y) → ∃ ds, Goods (List.replicate n g) ds ∧ RDs w ds (cs.drop (i * P.cellsOf e))
  | 0, i, hl, _ => by
    refine ⟨[], rfl, ?_⟩
    rw [List.drop_eq_nil_of_le (by simp at hl; omega)]
    exact .nil w
  | n + 1, i, hl, hy => by
    obtain ⟨y, hy0⟩ := hy i (Nat.le_refl _) (by omega)
    obtain ⟨a, ga, ra⟩ := h _ _ _ _ _ _ _ _ _ hy0
    obtain ⟨b, gb, rb⟩ := opn_elems h n (i + 1) (by rw [hl]; congr 1; omega) fun k hk hk' => hy k (by omega) (by omega)
    refine ⟨a ++ b, ⟨a, b, rfl, ga, gb⟩, ?_⟩
    have := ra.append rb
    rwa [show (i + 1) * P.cellsOf e = i * P.cellsOf e + P.cellsOf e from Nat.succ_mul _ _, ← List.drop_drop, List.take_append_drop] at this
theorem opn_array {n : Nat} {e : TypeId} {g : List D → Prop} (ht : P.underlying t = some (.array n e)) (hc : P.cellsOf t = n * P.cellsOf e) (h : Opn P e g) : Opn P t (Goods (List.replicate n g)) := by
  intro H enc w base spare held fuel cs x hx
  obtain ⟨xs, m, _, _, hlen, hxl, hf⟩ := DataW.trod_array ht hx
  have := opn_elems (cs := cs) (w := w) (enc := enc) (base := base) (spare := spare) (held := held) (fuel := m) h n 0 (by rw [hlen, hc]; simp) fun k _ hk => ⟨xs[k]'(by omega), (hf k (by omega)).trans (List.getElem?_eq_getElem (by omega))⟩
  simpa using this
theorem add_none (b off n : Nat) : (⟨b, off, none⟩ : Addr).add n = ⟨b, off + n, none⟩ := by
  unfold Addr.add
  split <;> simp_all
theorem opn_slice {e : TypeId} {g : List D → Prop} {sz : Nat} (d0 : List D) (ht : P.underlying t = some (.slice e)) (hC : P.cellsOf e = sz) (hsz : 0 < sz) (h : Opn P e g) (h0 : g d0) : Opn P t fun ds => ∃ n row, ds = [.sl none sz n row] ∧ n ≤ maxLen ∧ ∀ i, g (row i) := by
  intro H enc w base spare held fuel cs x hx
  rcases open_slice ht hx with ⟨rfl, _⟩ | ⟨a, len, cap, m, n, DD, Pl, rfl, hb, hl, hm, hmm, _, hi⟩
  · exact ⟨_, ⟨0, fun _ => d0, rfl, by simp, fun _ => h0⟩, .one (.zero none 0 (.inl rfl) fun _ => rfl)⟩
  · have hml : len ≤ m := by rw [hmm]; split <;> omega
    have key : ∀ i, ∃ ds, g ds ∧ (i < len → ∃ cs', cs'.length = sz ∧ (∀ k, k < sz → w.cell? (a.add (i * sz + k)) = some (cs'.getD k Go.undef)) ∧ RDs w ds cs') := by
      intro i
      by_cases hil : i < len
      · obtain ⟨cs', h1, h2⟩ := hi i (by omega)
        rw [hC] at h1
        obtain ⟨_, hcl, hat⟩ := World.cells?_some h1
        obtain ⟨ds, g1, g2⟩ := h _ _ _ _ _ _ _ _ _ h2
        refine ⟨ds, g1, fun _ => ⟨cs', hcl, fun k hk => ?_, g2⟩⟩
        have := hat k hk
        rw [← Go.Deep.add_add, this, List.getD_eq_getElem?_getD, List.getElem?_eq_getElem (by omega)]
        rfl
      · exact ⟨d0, h0, fun hh => absurd hh hil⟩
    obtain ⟨row, hgr⟩ : ∃ row : Nat → List Abs.D, ∀ i, g (row i) ∧ (i < len → ∃ cs', cs'.length = sz ∧ (∀ k, k < sz → w.cell? (a.add (i * sz + k)) = some (cs'.getD k Go.undef)) ∧ RDs w (row i) cs') := ⟨fun i => (key i).choose, fun i => (key i).choose_spec⟩
    have hg := fun i => (hgr i).1
    have hrow := fun i => (hgr i).2
    refine ⟨_, ⟨len, row, rfl, by omega, hg⟩, .one ?_⟩
    rcases Nat.eq_zero_or_pos len with hz | hp
    · subst hz
      exact .zero (some a) cap (.inl rfl) (by simp)
    · have hcell : ∀ i, i < len → ∃ cs', cs'.length = sz ∧ (∀ k, k < sz → w.cell? (a.add (i * sz + k)) = some (cs'.getD k Go.undef)) ∧ RDs w (row i) cs' := fun i hi => hrow i hi
      obtain ⟨c0, _, hc0, _⟩ := hcell 0 hp
      have h00 := hc0 0 hsz
      obtain ⟨b, off, spot⟩ := a
      have hspot : spot = none := by simpa [Addr.add] using World.cell?_spot h00
      subst hspot
      have hlt : b < w.heap.size := by
        rcases Nat.lt_or_ge b w.heap.size with hlt | hge
        · exact hlt
        · simp [World.cell?, Addr.add, hge] at h00
      refine .sl ⟨b, off, none⟩ cap (fun i k => (w.cell? ⟨b, off + i * sz + k, none⟩).getD Go.undef) (.inl rfl) hl rfl hlt (by simp) (fun i hi => ?_) (fun i hi k hk => ?_) (fun i hi k hk => ?_)
      · obtain ⟨c, k1, k2, k3⟩ := hcell i hi
        rw [← k3.1, k1]
      · obtain ⟨c, k1, k2, k3⟩ := hcell i hi
        have := k2 k hk
        rw [add_none] at this
        rw [Nat.add_assoc]
        rw [this]; rfl
      · obtain ⟨c, k1, k2, k3⟩ := hcell i hi
        have := k2 k hk
        rw [add_none] at this
        rw [Nat.add_assoc, this]
        exact k3.2 k (by rw [← k3.1, k1]; exact hk)
end
/-! arguments -/
section
variable {P : Program} {t : TypeId} {H : Type} {enc : TypeId × Value → H} {w : World} {base : Nat} {spare : Nat → Bool} {held : Bool} {v : Value} {d : DataW H} {p : List MemPlace} {r : Reach} {b0 : Nat} {g : List D → Prop}
theorem arg_agg (h : Opn P t g) (hv : ∃ cs, v = .agg cs) (hd : DataW.Trod enc P w base spare held t v d p) : ∃ ds, g ds ∧ R w [] (.agg (ds.map .d)) v := by
  obtain ⟨cs, rfl⟩ := hv
  obtain ⟨fuel, hf⟩ := hd
  obtain ⟨ds, h1, h2⟩ := h _ _ _ _ _ _ _ _ _ hf
  refine ⟨ds, h1, .agg cs (by have := h2.1; simpa [Value.cells] using this) fun k hk => ?_⟩
  have hk' : k < ds.length := by simpa using hk
  have := h2.2 k hk'
  have e1 : (ds.map AV.d).getD k .undef = AV.d (ds.getD k default) := by simp [List.getD_eq_getElem?_getD, hk']
  rw [e1]
  refine .d ?_
  simpa [Value.cells, Array.getD_eq_getD_getElem?, List.getD_eq_getElem?_getD] using this
theorem arg_struct {x : Array Field} (hs : P.underlying t = some (.struct x)) (h : Opn P t g) (hv : Value.okWide P w r b0 t v) (hd : DataW.Trod enc P w base spare held t v d p) : ∃ ds, g ds ∧ R w [] (.agg (ds.map .d)) v := by
  obtain ⟨cs, rfl, _⟩ := okWide_struct hs hv
  exact arg_agg h ⟨cs, rfl⟩ hd
theorem arg_array {n : Nat} {e : TypeId} (hs : P.underlying t = some (.array n e)) (h : Opn P t g) (hv : Value.okWide P w r b0 t v) (hd : DataW.Trod enc P w base spare held t v d p) : ∃ ds, g ds ∧ R w [] (.agg (ds.map .d)) v := by
  have hv' : ∃ cs, v = .agg cs ∧ cs.size = P.cellsOf t ∧ Row.okWide P w r b0 t cs := by
    unfold Value.okWide at hv
    rw [hs] at hv
    exact hv
  obtain ⟨cs, rfl, _⟩ := hv'
  exact arg_agg h ⟨cs, rfl⟩ hd
theorem arg_one (hc : v.cells = #[v]) {x : D → Prop} (h : Opn P t fun ds => ∃ y, ds = [y] ∧ x y) (hd : DataW.Trod enc P w base spare held t v d p) : ∃ y, x y ∧ R w [] (.d y) v := by
  obtain ⟨fuel, hf⟩ := hd
  rw [hc] at hf
  obtain ⟨ds, ⟨y, rfl, hx⟩, h2⟩ := h _ _ _ _ _ _ _ _ _ hf
  exact ⟨y, hx, .d (h2.2 0 (by simp))⟩
theorem arg_int {k : IntKind} (ht : P.underlying t = some (.int k)) (hv : Value.okWide P w r b0 t v) (hd : DataW.Trod enc P w base spare held t v d p) : ∃ n, (Lit.int k n).wf = true ∧ R w [] (.d (.v (.int k n))) v := by
  obtain ⟨n, rfl, _, _, hw⟩ := open_int ht hv hd
  exact ⟨n, hw, .d (.v _)⟩
theorem arg_bool (ht : P.underlying t = some .bool) (hv : Value.okWide P w r b0 t v) (hd : DataW.Trod enc P w base spare held t v d p) : ∃ b, R w [] (.d (.v (.bool b))) v := by
  obtain ⟨b, rfl, _⟩ := open_bool ht hv hd
  exact ⟨b, .d (.v _)⟩
theorem arg_slice {e : TypeId} {x : D → Prop} (ht : P.underlying t = some (.slice e)) (h : Opn P t fun ds => ∃ y, ds = [y] ∧ x y) (hv : Value.okWide P w r b0 t v) (hd : DataW.Trod enc P w base spare held t v d p) : ∃ y, x y ∧ R w [] (.d y) v := by
  obtain ⟨a, len, cap, rfl⟩ := okWide_slice ht hv
  exact arg_one rfl h hd
theorem arg_string (ht : P.underlying t = some .string) (hv : Value.okWide P w r b0 t v) (hd : DataW.Trod enc P w base spare held t v d p) : ∃ s : ByteArray, s.size ≤ maxLen ∧ R w [] (.d (.v (.string s))) v := by
  obtain ⟨s, rfl, _, _, hw⟩ := Go.ChangeMaps.open_string ht hv hd
  exact ⟨s, hw, .d (.v _)⟩
end
theorem rs_nil (w : World) : Rs w [] [] #[] := ⟨rfl, by simp⟩
theorem Rs.of_list {w : World} {avs : List AV} {vs : List Value} (hl : vs.length = avs.length) (h : ∀ k, k < avs.length → R w [] (avs.getD k .undef) (vs.getD k Go.undef)) : Rs w [] avs vs.toArray :=
  ⟨by simpa using hl, fun k hk => by simpa [Array.getD_eq_getD_getElem?, List.getD_eq_getElem?_getD] using h k hk⟩
theorem Rs.cons {w : World} {x : AV} {v : Value} {xs : List AV} {vs : List Value} (h : R w [] x v) (t : Rs w [] xs vs.toArray) : Rs w [] (x :: xs) (v :: vs).toArray :=
  ⟨by have := t.1; simpa using this, fun k hk => by
    cases k with
    | zero => simpa using h
    | succ k => have := t.2 k (by simpa using hk); simpa using this⟩
theorem law_calls {P : Program} {f : FuncId} {avs : List AV} {args : Array Value} {w : World} (h : CSF P f avs [] (.d (.v (.bool true)))) (hr : Rs w [] avs args) : Calls P f args w fun e w' => e = .returned (.bool true) ∧ Below w.heap.size w w' := by
  refine (h.2 [] w args ⟨rfl, by simp, by simp, by simp⟩ hr).mono ?_
  rintro e w' ⟨v, r, σ', j', X, rfl, h1, h2, h3, h4, h5, rfl, rfl, rfl⟩
  cases h2 with
  | d h2 =>
    cases h2
    exact ⟨rfl, ⟨h3.os, h3.tape, h3.output, h3.size, fun k hk => h3.keep k hk (by simp)⟩⟩
end Go.Abs

/-! Axl -/
namespace Go.Abs
set_option linter.unusedVariables false
set_option linter.unusedSimpArgs false
def isSt (o : Oper) : Bool := match o.op, o.guard, o.dst with
  | .store _ _ _, none, none => true
  | _, _, _ => false
def lateOk (ops : List Oper) (m ist : Nat) : Bool :=
  Nat.blt ist m && (match ops[ist]? with
    | some o => isSt o && (List.range m).all (fun q => Nat.ble q ist || (match ops[q]? with
        | some oq => (match oq.dst with
          | some d => !(looks ops o).contains d
          | none => true)
        | none => true))
    | none => false)
def lateA (P : Program) (ops : List Oper) (ist : Nat) (s : St) (K : List Blk → Prop) : Prop :=
  match nthOp ops ist with
  | some os => (match os.op with
    | .store t' p v => arg true s p fun pv => arg true s v fun av => (match tyA P t' with
      | some (_, m) => allOne (cellsOf av) = true ∧ (cellsOf av).length = m ∧ (match storeBlk s.σ pv (cellsOf av) with
        | some (c, σ2) => c ∧ K σ2
        | none => False)
      | none => False)
    | _ => False)
  | none => False
def cur (ist : Nat) (σ σ2 : List Blk) (listed : Array Bool) : List Blk := if listed.getD ist false then σ2 else σ
structure InvL (s : St) (ops : List Oper) (m ist : Nat) (σ2 : List Blk) (t1 : List (Nat × AV)) (j0 : J0) (listed : Array Bool) (j : Js) (a : Act) (w : World) : Prop where
  defers : Marks j0.n0 w j a.defers
  rdok : ∀ l, j0.rd = some l → ∃ r, w.heap[l]? = some (.loop r)
  size : a.tmps.size = s.N
  sto : RelS w j (cur ist s.σ σ2 listed)
  len0 : j0.js.length ≤ j.length
  ag : Ag j0.js j s.mv
  lsize : listed.size = ops.length
  lB : ∀ k, m ≤ k → k < ops.length → ∀ b, listed.getD k b = false
  cl : ∀ q oq, q < m → ops[q]? = some oq → listed.getD q true = true → ∀ e ∈ oq.after, Region.binds .any e = true → listed.getD e.on false = true
  c1 : ∀ q oq k av, q < m → ops[q]? = some oq → oq.dst = some k → listed.getD q true = true → get t1 k = some av → k < s.N ∧ R w j av (a.tmps.getD k Go.undef)
  c2 : ∀ k av, (∀ q oq, q < m → ops[q]? = some oq → oq.dst = some k → listed.getD q true = false) → get s.t k = some av → k < s.N ∧ R w j av (a.tmps.getD k Go.undef)
section
variable {P : Program} {ops : List Oper} {m ist : Nat}
structure PureL (P : Program) (s : St) (ops : List Oper) (m ist : Nat) (σ2 : List Blk) (t1 : List (Nat × AV)) : Prop where
  at_ : ∀ listed : Array Bool, ∃ xs : Nat → AV, (stAt s (ops.take m) xs m).t = t1 ∧
    ∀ i o, i < m → ops[i]? = some o → i ≠ ist → Local P ops o ⟨s.N, (stAt s (ops.take m) xs i).t, cur ist s.σ σ2 listed, s.mv⟩ (xs i)
theorem stAt_sto (s : St) (σ' : List Blk) (os : List Oper) (xs : Nat → AV) : ∀ i, stAt ⟨s.N, s.t, σ', s.mv⟩ os xs i = ⟨s.N, (stAt s os xs i).t, σ', s.mv⟩
  | 0 => rfl
  | i + 1 => by
    simp only [stAt, stAt_sto s σ' os xs i]
    have hf := stAt_fields s os xs i
    split
    · rename_i o _
      cases o.dst with
      | none => rfl
      | some d =>
        simp only [St.put, hf.1]
        split <;> rfl
    · rfl
theorem InvL.looks_rel (hok : drawOk ops m = true) (hmn : m ≤ ops.length) {s : St} {σ2 : List Blk} {t1 : List (Nat × AV)} {j0 : J0} {listed : Array Bool} {j : Js} {a : Act} {w : World}
    (hI : InvL s ops m ist σ2 t1 j0 listed j a w) {xs : Nat → AV} (hxs : (stAt s (ops.take m) xs m).t = t1) {i : Nat} {o : Oper} (him : i < m) (ho : ops[i]? = some o) (h0 : listed.getD i true = false)
    (hall : ∀ e ∈ o.after, Region.binds .any e = true → listed.getD e.on false = true) {k : Nat} {av : AV} (hkl : k ∈ looks ops o) (hk : get (stAt s (ops.take m) xs i).t k = some av) : k < s.N ∧ R w j av (a.tmps.getD k Go.undef) := by
  have hokA := okA_spec ((drawOk_spec hok ho).2.1 him)
  have hil : i < ops.length := by omega
  by_cases hw : ∃ q oq, q < i ∧ ops[q]? = some oq ∧ oq.dst = some k
  · obtain ⟨q, oq, hq, hqo, hqd⟩ := hw
    have hdep := (hokA.1 k hkl q oq hqo hqd).1 hq
    obtain ⟨e, he1, he2, he3⟩ := depB_spec hdep
    have hlq := hall e he1 he3
    rw [he2, getD_tf hI.lsize (by omega)] at hlq
    rw [get_writ hok hmn (by omega) hqo hqd hq (by omega)] at hk
    have hk1 : get t1 k = some av := by
      rw [← hxs, get_writ hok hmn (by omega) hqo hqd (by omega) (Nat.le_refl _)]; exact hk
    exact hI.c1 q oq k av (by omega) hqo hqd hlq hk1
  · rw [get_unwrit (by omega) hw] at hk
    refine hI.c2 k av (fun q oq h1 h2 h3 => ?_) hk
    rcases Nat.lt_trichotomy q i with h | h | h
    · exact absurd ⟨q, oq, h, h2, h3⟩ hw
    · subst h; exact h0
    · have hdep := (hokA.1 k hkl q oq h2 h3).2 h
      obtain ⟨e, he1, he2, he3⟩ := depB_spec hdep
      by_cases hb : listed.getD q true = true
      · have := hI.cl q oq h1 h2 hb e he1 he3
        rw [he2, getD_tf hI.lsize hil, h0] at this; cases this
      · simpa using hb
structure LateS (P : Program) (ops : List Oper) (m ist : Nat) (s : St) (t1 : List (Nat × AV)) (σ2 : List Blk) : Prop where
  lt : ist < m
  st : ∃ os t p v agg pv av c, ops[ist]? = some os ∧ os.op = .store t p v ∧ os.guard = none ∧ os.dst = none ∧ (∀ q oq k, ist < q → q < m → ops[q]? = some oq → oq.dst = some k → k ∉ looks ops os) ∧
    tyA P t = some (agg, (cellsOf av).length) ∧ allOne (cellsOf av) = true ∧ storeBlk s.σ pv (cellsOf av) = some (c, σ2) ∧ c ∧ Arg true ((⟨s.N, t1, s.σ, s.mv⟩ : St).restr (looks ops os)) p pv ∧ Arg true ((⟨s.N, t1, s.σ, s.mv⟩ : St).restr (looks ops os)) v av
theorem phaseL (hok : drawOk ops m = true) (hmn : m ≤ ops.length) {Q : Exit → St → Prop} {j0 : J0} {j1 : Js} {w1 : World} {s : St} {t1 : List (Nat × AV)} {σ2 : List Blk}
    (hW : LateS P ops m ist s t1 σ2) (hP : PureL P s ops m ist σ2 t1)
    (hK : evalOps P false ops (ops.drop m) ⟨s.N, t1, σ2, s.mv⟩ (Q .normal)) :
    ∀ (fuel : Nat) (j : Js) (a : Act) (w : World) (listed : Array Bool), left listed ops.length = fuel → InvL s ops m ist σ2 t1 j0 listed j a w → Ev j1 w1 j w → wpAnyIn (FW j0.rd) 0 P .any ops.toArray (APost j0 j1 w1 Q) fuel listed a w := by
  have fin : ∀ (j : Js) (a : Act) (w : World) (listed : Array Bool), (∀ q, q < m → listed.getD q true = true) → InvL s ops m ist σ2 t1 j0 listed j a w → Rel j0 ⟨s.N, t1, σ2, s.mv⟩ j a w := by
    intro j a w listed hdone hI
    have hia : listed.getD ist false = true := by rw [getD_tf hI.lsize (by have := hW.lt; omega)]; exact hdone ist hW.lt
    have htau : cur ist s.σ σ2 listed = σ2 := by simp only [cur, hia, if_true]
    refine ⟨hI.defers, hI.rdok, hI.size, fun k av hk => ?_, by have := hI.sto; rw [htau] at this; exact this, hI.len0, hI.ag⟩
    by_cases hw : ∃ q oq, q < m ∧ ops[q]? = some oq ∧ oq.dst = some k
    · obtain ⟨q, oq, hq, hqo, hqd⟩ := hw
      exact hI.c1 q oq k av hq hqo hqd (hdone q hq) hk
    · obtain ⟨xs, hxs, _⟩ := hP.at_ listed
      have hk' : get t1 k = some av := hk
      rw [← hxs, get_unwrit (Nat.le_refl _) hw] at hk'
      exact hI.c2 k av (fun q oq h1 h2 h3 => absurd ⟨q, oq, h1, h2, h3⟩ hw) hk'
  intro fuel
  induction fuel with
  | zero =>
    intro j a w listed hf hI he
    have hall : ∀ k, k < ops.length → listed.getD k true = true := by
      intro k hk
      by_cases hb : listed.getD k true = true
      · exact hb
      · have : k ∈ (List.range ops.length).filter fun k => !listed.getD k true := by
          rw [List.mem_filter]; exact ⟨by simpa using hk, by simpa using hb⟩
        have h0 : (List.range ops.length).filter (fun k => !listed.getD k true) = [] := List.length_eq_zero_iff.1 hf
        rw [h0] at this; simp at this
    have hme : m = ops.length := by
      rcases Nat.lt_or_ge m ops.length with h | h
      · have := hall m h; rw [hI.lB m (Nat.le_refl _) h] at this; simp at this
      · omega
    exact phaseB hok 0 m _ j a w listed (by omega) (Nat.le_refl _) (by omega) hI.lsize (fun k hk b => by
      have h1 := hall k hk
      have hsz : k < listed.size := by rw [hI.lsize]; exact hk
      have h2 : listed[k] = true := by simpa [hsz] using h1
      simp [hsz, h2, show k < m by omega]) (fin j a w listed (fun q hq => hall q (by omega)) hI) he hK
  | succ fuel ih =>
    intro j a w listed hf hI he
    by_cases hdone : ∀ q, q < m → listed.getD q true = true
    · have hL : ∀ k, k < ops.length → ∀ b, listed.getD k b = decide (k < m) := by
        intro k hk b
        rcases Nat.lt_or_ge k m with h | h
        · have h1 := hdone k h
          have hsz : k < listed.size := by rw [hI.lsize]; exact hk
          have h2 : listed[k] = true := by simpa [hsz] using h1
          simp [hsz, h2, h]
        · rw [hI.lB k h hk]; simp; omega
      have hfuel : fuel + 1 = ops.length - m := by
        rw [← hf]
        unfold left
        have gen : ∀ n, n ≤ ops.length → ((List.range n).filter fun k => !listed.getD k true).length = n - m := by
          intro n
          induction n with
          | zero => simp
          | succ n ihn =>
            intro hn
            rw [List.range_succ, List.filter_append, List.length_append, ihn (by omega)]
            have h1 := hL n (by omega) true
            by_cases hnm : n < m
            · have : (List.filter (fun k => !listed.getD k true) [n]).length = 0 := by
                rw [List.filter_cons_of_neg (by rw [h1]; simp [hnm])]; simp
              omega
            · have : (List.filter (fun k => !listed.getD k true) [n]).length = 1 := by
                rw [List.filter_cons_of_pos (by rw [h1]; simp; omega)]; simp
              omega
        exact gen _ (Nat.le_refl _)
      exact phaseB hok (fuel + 1) m _ j a w listed hfuel.symm (Nat.le_refl _) (by omega) hI.lsize hL (fin j a w listed hdone hI) he hK
    · have hex : ∃ q, q < m ∧ listed.getD q true = false ∧ ∀ p, p < q → listed.getD p true = true := by
        have hex0 : ∃ q, q < m ∧ listed.getD q true = false := by
          apply Classical.byContradiction
          intro hne
          apply hdone
          intro q hq
          by_cases hb : listed.getD q true = true
          · exact hb
          · exact absurd ⟨q, hq, by simpa using hb⟩ hne
        obtain ⟨q, hq1, hq2⟩ := hex0
        induction q using Nat.strongRecOn with
        | _ q ihq =>
          by_cases hall : ∀ p, p < q → listed.getD p true = true
          · exact ⟨q, hq1, hq2, hall⟩
          · have : ∃ p, p < q ∧ listed.getD p true = false := by
              apply Classical.byContradiction
              intro hne
              apply hall
              intro p hp
              by_cases hb : listed.getD p true = true
              · exact hb
              · exact absurd ⟨p, hp, by simpa using hb⟩ hne
            obtain ⟨p, hp1, hp2⟩ := this
            exact ihq p hp1 (by omega) hp2
      obtain ⟨q0, hq0, hq0l, hq0all⟩ := hex
      have hlt0 : q0 < ops.length := by omega
      have hready : q0 ∈ Region.ready .any ops.toArray listed := by
        rw [mem_ready]
        refine ⟨hq0l, ops[q0], by simp [hlt0], fun e he hb => ?_⟩
        have h1 := (drawOk_spec hok (i := q0) (o := ops[q0]) (by simp [hlt0])).1 e he hb
        rw [getD_tf hI.lsize (by omega)]
        exact hq0all e.on h1
      refine ⟨fun h0 => by rw [h0] at hready; simp at hready, fun i hi => ?_⟩
      rw [mem_ready] at hi
      obtain ⟨h0, o, ho, hall⟩ := hi
      have ho' : ops[i]? = some o := by simpa using ho
      have hil : i < ops.length := lt_of_getElem? ho'
      have him : i < m := by
        rcases Nat.lt_or_ge i m with h | h
        · exact h
        · have := depT_near (L := fun q => listed.getD q false) (fun q h1 h2 => hI.lB q h1 h2 false) (fun q oq h1 h2 h3 e he1 he2 => hI.cl q oq h1 h2 (by
            have hsz : q < listed.size := by rw [hI.lsize]; omega
            have h4 : listed[q] = true := by simpa [hsz] using h3
            simp [hsz, h4]) e he1 he2) ((drawOk_spec hok ho').2.2 h q0 (by omega)) hall
          simp only [getD_tf hI.lsize hlt0, hq0l] at this; cases this
      have hokA := okA_spec ((drawOk_spec hok ho').2.1 him)
      have hset0 : left (listed.setIfInBounds i true) ops.length = fuel := by
        have := left_set hI.lsize hil h0; omega
      have hszi : i < listed.size := by rw [hI.lsize]; exact hil
      have hseti : ∀ b, (listed.setIfInBounds i true).getD i b = true := by intro b; simp [hszi]
      have step : ∀ (j' : Js) (w' : World) (v : Value), RelS w' j' (cur ist s.σ σ2 (listed.setIfInBounds i true)) → Ev j w j' w' → Ag j j' [] → j.length ≤ j'.length →
          (∀ k av, o.dst = some k → get t1 k = some av → k < s.N ∧ R w' j' av v) → wpAnyIn (FW j0.rd) 0 P .any ops.toArray (APost j0 j1 w1 Q) fuel (listed.setIfInBounds i true) (a.put o.dst v) w' := by
        intro j' w' v hsto hev hagj hlj hv
        have oth : ∀ {k}, o.dst ≠ some k → (a.put o.dst v).tmps.getD k Go.undef = a.tmps.getD k Go.undef := by
          intro k hne
          cases hd : o.dst with
          | none => rfl
          | some d =>
            have hdk : d ≠ k := fun h => hne (by rw [hd, h])
            simp [Act.put, Array.getD_eq_getD_getElem?, Array.getElem?_setIfInBounds, hdk]
        refine ih j' _ w' _ hset0 ⟨?_, fun l hl => (by obtain ⟨r, hr⟩ := hI.rdok l hl; exact hev.lps l r hr), ?_, hsto, Nat.le_trans hI.len0 hlj, ?_, by simpa using hI.lsize, ?_, ?_, ?_, ?_⟩ (he.trans hev)
        · have := hI.defers.mono hev
          cases hd : o.dst <;> simpa [Act.put] using this
        · cases hd : o.dst <;> simp [Act.put, hI.size]
        · intro b hb hn
          rw [hagj b (by have := hI.len0; omega) (by simp)]
          exact hI.ag b hb hn
        · intro k hk1 hk2 b
          rw [getD_set_ne b (by omega)]; exact hI.lB k hk1 hk2 b
        · intro q oq hq hqo hl e he1 he2
          by_cases hqi : i = q
          · subst hqi
            have : oq = o := by rw [ho'] at hqo; exact (Option.some.inj hqo).symm
            subst this
            exact getD_set_true (hall e he1 he2)
          · rw [getD_set_ne true hqi] at hl
            exact getD_set_true (hI.cl q oq hq hqo hl e he1 he2)
        · intro q oq k av hq hqo hqd hl hk
          by_cases hqi : i = q
          · subst hqi
            have : oq = o := by rw [ho'] at hqo; exact (Option.some.inj hqo).symm
            subst this
            have h1 := hv k av hqd hk
            simp only [Act.put, hqd]
            rw [R_setIfInBounds (w := w) (j := j) (by rw [hI.size]; exact h1.1), if_pos rfl]; exact h1
          · rw [getD_set_ne true hqi] at hl
            have h1 := hI.c1 q oq k av hq hqo hqd hl hk
            rw [oth (fun hd => hokA.2 q oq k hq (fun h => hqi h.symm) hqo hd hqd)]
            exact ⟨h1.1, h1.2.mono0 hev hI.sto.lt hagj⟩
        · intro k av hk hg
          have hne : o.dst ≠ some k := fun hd => by
            have := hk i o him ho' hd
            rw [hseti] at this; cases this
          have h1 := hI.c2 k av (fun q oq h1 h2 h3 => by
            have hqi : i ≠ q := fun h => by subst h; rw [ho'] at h2; cases h2; exact hne h3
            have := hk q oq h1 h2 h3
            rwa [getD_set_ne true hqi] at this) hg
          rw [oth hne]; exact ⟨h1.1, h1.2.mono0 hev hI.sto.lt hagj⟩
      simp only [wpOpIn, ho]
      · by_cases his : i = ist
        · -- it is stored
          subst his
          obtain ⟨os, t, p, v, agg, pv, av, c, hos, hop, hgd, hdst, hlate, hty, hone, hst, hc, hp, hv⟩ := hW.st
          obtain rfl : o = os := by rw [ho'] at hos; exact Option.some.inj hos
          have hni : listed.getD i false = false := by rw [getD_tf hI.lsize hil]; exact h0
          have hsto := hI.sto
          have htau : cur i s.σ σ2 listed = s.σ := by simp only [cur, hni]; rfl
          rw [htau] at hsto
          have hr : Rel j0 ((⟨s.N, t1, s.σ, s.mv⟩ : St).restr (looks ops o)) j a w := by
            refine ⟨hI.defers, hI.rdok, hI.size, fun k av hk => ?_, hsto, hI.len0, hI.ag⟩
            simp only [St.restr, get_restr] at hk
            split at hk
            · rename_i hkl
              have hkl : k ∈ looks ops o := by simpa using hkl
              by_cases hw : ∃ q oq, q < m ∧ ops[q]? = some oq ∧ oq.dst = some k
              · obtain ⟨q, oq, hq, hqo, hqd⟩ := hw
                have hqi : q < i := by
                  rcases Nat.lt_trichotomy q i with h | h | h
                  · exact h
                  · subst h; rw [ho'] at hqo; cases hqo; rw [hdst] at hqd; cases hqd
                  · exact absurd hkl (hlate q oq k h hq hqo hqd)
                obtain ⟨e, he1, he2, he3⟩ := depB_spec ((hokA.1 k hkl q oq hqo hqd).1 hqi)
                have hlq := hall e he1 he3
                rw [he2, getD_tf hI.lsize (by omega)] at hlq
                exact hI.c1 q oq k av hq hqo hqd hlq hk
              · obtain ⟨xs, hxs, _⟩ := hP.at_ listed
                rw [← hxs, get_unwrit (Nat.le_refl _) hw] at hk
                exact hI.c2 k av (fun q oq h1 h2 h3 => absurd ⟨q, oq, h1, h2, h3⟩ hw) hk
            · simp at hk
          obtain ⟨w', h1, h2, h3⟩ := store_sound (P := P) hsto hty (hp rfl j0 j a w hr) (hv rfl j0 j a w hr) hone rfl hst hc
          have hrun : (execOp a.eval o).run P w = .ok .skip w' := by simp [execOp, hop, h1]
          have hw : Region.wanted o (yielded ops.toArray a.tmps) = true := by simp [Region.wanted, hgd]
          rw [if_pos hw]
          refine opw (by simp [hop]) hrun ?_
          refine step j w' _ ?_ h3 (.refl _ _) (Nat.le_refl _) (fun k av hk => by rw [hdst] at hk; cases hk)
          have : cur i s.σ σ2 (listed.setIfInBounds i true) = σ2 := by simp only [cur, hseti, if_true]
          rw [this]; exact h2
        · -- one that computes
          obtain ⟨xs, hxs, hloc⟩ := hP.at_ listed
          have hL := hloc i o him ho' his
          have hrel : Rel j0 ((⟨s.N, (stAt s (ops.take m) xs i).t, cur ist s.σ σ2 listed, s.mv⟩ : St).restr (looks ops o)) j a w := by
            refine ⟨hI.defers, hI.rdok, hI.size, fun k av hk => ?_, hI.sto, hI.len0, hI.ag⟩
            simp only [St.restr, get_restr] at hk
            split at hk
            · rename_i hkl
              exact hI.looks_rel hok hmn hxs him ho' h0 hall (by simpa using hkl) hk
            · simp at hk
          have htau : cur ist s.σ σ2 (listed.setIfInBounds i true) = cur ist s.σ σ2 listed := by
            simp only [cur, getD_set_ne false his]
          have hval : ∀ (w' : World) (v : Value), R w' j (xs i) v → ∀ k av, o.dst = some k → get t1 k = some av → k < s.N ∧ R w' j av v := by
            intro w' v hr k av hk hgt
            rw [← hxs, get_writ hok hmn him ho' hk him (Nat.le_refl _)] at hgt
            split at hgt
            · rename_i hlt
              obtain rfl : xs i = av := Option.some.inj hgt
              exact ⟨hlt, hr⟩
            · simp at hgt
          by_cases hw : Region.wanted o (yielded ops.toArray a.tmps) = true
          · rw [if_pos hw]
            exact hL.run j0 j a w _ _ hrel hw fun w' v h1 h2 h3 => step j w' v (by rw [htau]; exact h1) h2 (.refl _ _) (Nat.le_refl _) (hval w' v h3)
          · rw [if_neg hw]
            exact ⟨fun _ _ => trivial, step j w Go.undef (by rw [htau]; exact hI.sto) (.refl _ _) (.refl _ _) (Nat.le_refl _) (hval w _ (hL.skip j0 j a w hrel (by simpa using hw)))⟩
end
theorem lateOk_spec {ops : List Oper} {m ist : Nat} (h : lateOk ops m ist = true) : ist < m ∧ ∃ os t' p v, ops[ist]? = some os ∧ os.op = .store t' p v ∧ os.guard = none ∧ os.dst = none ∧ (∀ q oq k, ist < q → q < m → ops[q]? = some oq → oq.dst = some k → k ∉ looks ops os) := by
  unfold lateOk at h
  simp only [Bool.and_eq_true, Nat.blt_eq] at h
  obtain ⟨h1, h⟩ := h
  refine ⟨h1, ?_⟩
  split at h
  · rename_i os hos
    simp only [Bool.and_eq_true, List.all_eq_true, List.mem_range, Bool.or_eq_true, Nat.ble_eq] at h
    obtain ⟨g1, g3⟩ := h
    have g1' : ∃ t' p v, os.op = .store t' p v ∧ os.guard = none ∧ os.dst = none := by
      unfold isSt at g1
      split at g1
      · rename_i t' p v e4 e5 e6
        exact ⟨t', p, v, e4, e5, e6⟩
      · cases g1
    obtain ⟨t', p, v, e4, e5, e6⟩ := g1'
    refine ⟨os, t', p, v, hos, e4, e5, e6, fun q oq k hq hqm hqo hqd hkl => ?_⟩
    rcases g3 q hqm with h | h
    · omega
    · simp only [hqo, hqd, Bool.not_eq_true', List.contains_eq_mem, decide_eq_false_iff_not] at h
      exact h hkl
  · cases h
theorem awp_late {P : Program} {Q : Exit → St → Prop} {N : Nat} {t : List (Nat × AV)} {σ : List Blk} {mv : List Nat} {id : Nat} {ops : List Oper} (m ist : Nat) (hm : P.follows .mixedOrders = true) (hok : (drawOk ops m && Nat.ble m ops.length && lateOk ops m ist) = true) {t1 : List (Nat × AV)} {σ2 : List Blk}
    (h1 : ∀ K : St → Prop, (∀ σ' mv', K ⟨N, t1, σ', mv'⟩) → evalO P ops m ist 0 (ops.take m) 0 ⟨N, t, σ, mv⟩ K)
    (h2 : lateA P ops ist ⟨N, t1, σ, mv⟩ fun σ' => σ' = σ2)
    (h3 : ∀ K : St → Prop, (∀ σ' mv', K ⟨N, t1, σ', mv'⟩) → evalO P ops m ist 0 (ops.take m) 0 ⟨N, t, σ2, mv⟩ K)
    (h4 : evalOps P false ops (ops.drop m) ⟨N, t1, σ2, mv⟩ (Q .normal)) : AWP P (.region id ops.toArray true) Q ⟨N, t, σ, mv⟩ := by
  intro j0 j a w hr
  simp only [Bool.and_eq_true, Nat.ble_eq] at hok
  obtain ⟨⟨hok, hmn⟩, hlate⟩ := hok
  obtain ⟨hlt, os, t', p, v, g1, g2, g3, g4, g5⟩ := lateOk_spec hlate
  have hlen : (ops.take m).length = m := by simp; omega
  have hone : ∀ σx, (∀ K : St → Prop, (∀ σ' mv', K ⟨N, t1, σ', mv'⟩) → evalO P ops m ist 0 (ops.take m) 0 ⟨N, t, σx, mv⟩ K) →
      ∃ xs : Nat → AV, (stAt ⟨N, t, σ, mv⟩ (ops.take m) xs m).t = t1 ∧ ∀ i o, i < m → ops[i]? = some o → i ≠ ist → Local P ops o ⟨N, (stAt ⟨N, t, σ, mv⟩ (ops.take m) xs i).t, σx, mv⟩ (xs i) := by
    intro σx hx
    have h := hx (fun s' => s'.t = t1) (fun _ _ => rfl)
    obtain ⟨xs, hK, _, hloc⟩ := unrollO h (fun i o hi he => by
      have him : i < m := by have := lt_of_getElem? hi; omega
      rw [take_get him] at hi
      have he : i = ist := by omega
      subst he
      rw [g1] at hi; cases hi; exact g4)
    have hext := stAt_sto ⟨N, t, σ, mv⟩ σx (ops.take m) xs
    refine ⟨xs, ?_, fun i o him ho h4 => ?_⟩
    · rw [hlen, hext] at hK; exact hK
    · have := hloc i o (by rw [take_get him]; exact ho) (by omega) (by omega)
      rw [hext] at this; exact this
  have hP : PureL P ⟨N, t, σ, mv⟩ ops m ist σ2 t1 := ⟨fun listed => by
    unfold cur
    split
    · exact hone σ2 h3
    · exact hone σ h1⟩
  have hr' : Rel j0 ⟨N, t, σ, mv⟩ j a w.drew := hr.after (ev_drew j w) hr.sto.drew (Nat.le_refl _) (.refl _ [])
  have hf : ∀ k b, k < ops.length → (Array.replicate ops.toArray.size false).getD k b = false := by
    intro k b hk; simp [hk]
  unfold lateA at h2
  rw [nthOp_eq, g1] at h2
  simp only [g2] at h2
  have hmp : ∀ t, p = .tmp t → t ∈ looks ops os := fun t ht => List.mem_append.2 (.inl (mem_opTmps (x := p) (by simp [g2, Op.operands]) ht))
  have hmv : ∀ t, v = .tmp t → t ∈ looks ops os := fun t ht => List.mem_append.2 (.inl (mem_opTmps (x := v) (by simp [g2, Op.operands]) ht))
  rw [← arg_restr hmp] at h2
  obtain ⟨pv, h2, hp⟩ := arg_sound h2
  rw [← arg_restr hmv] at h2
  obtain ⟨av, h2, hv⟩ := arg_sound h2
  split at h2
  · rename_i agg mm hty
    obtain ⟨k1, k2, h2⟩ := h2
    split at h2
    · rename_i c σ2' hst
      obtain ⟨hc, rfl⟩ := h2
      have hW : LateS P ops m ist ⟨N, t, σ, mv⟩ t1 σ2' := ⟨hlt, os, t', p, v, agg, pv, av, c, g1, g2, g3, g4, g5, by rw [k2]; exact hty, k1, hst, hc, hp, hv⟩
      refine wpIn_region_any hm ?_
      refine phaseL hok hmn hW hP h4 _ j a w.drew _ ?_ ⟨hr'.defers, hr'.rdok, hr'.size, ?_, hr'.len0, hr'.ag, by simp, fun k _ hk b => hf k b hk, fun q oq hq hqo hl => ?_, fun q oq k av hq hqo hd hl => ?_, fun k av _ hk => hr'.tmp k av hk⟩ (ev_drew j w)
      · unfold left
        have : (List.range ops.length).filter (fun k => !(Array.replicate ops.toArray.size false).getD k true) = List.range ops.length := by
          apply List.filter_eq_self.2
          intro k hk
          rw [hf k true (by simpa using hk)]; rfl
        rw [this]; simp
      · have : cur ist σ σ2' (Array.replicate ops.toArray.size false) = σ := by simp only [cur, hf ist false (by omega)]; rfl
        rw [this]; exact hr'.sto
      · rw [hf q true (by omega)] at hl; cases hl
      · rw [hf q true (by omega)] at hl; cases hl
    · exact h2.elim
  · exact h2.elim
theorem awp_late_seq {P : Program} {Q : Exit → St → Prop} {N : Nat} {t : List (Nat × AV)} {σ : List Blk} {mv : List Nat} {id : Nat} {ops : List Oper} {y : Code} (m ist : Nat) (hm : P.follows .mixedOrders = true) (hok : (drawOk ops m && Nat.ble m ops.length && lateOk ops m ist) = true) {t1 : List (Nat × AV)} {σ2 : List Blk}
    (h1 : ∀ K : St → Prop, (∀ σ' mv', K ⟨N, t1, σ', mv'⟩) → evalO P ops m ist 0 (ops.take m) 0 ⟨N, t, σ, mv⟩ K)
    (h2 : lateA P ops ist ⟨N, t1, σ, mv⟩ fun σ' => σ' = σ2)
    (h3 : ∀ K : St → Prop, (∀ σ' mv', K ⟨N, t1, σ', mv'⟩) → evalO P ops m ist 0 (ops.take m) 0 ⟨N, t, σ2, mv⟩ K)
    (h4 : ∀ K : St → Prop, (∀ s', AWP P y Q s' → K s') → evalOps P false ops (ops.drop m) ⟨N, t1, σ2, mv⟩ K) : AWP P (.seq (.region id ops.toArray true) y) Q ⟨N, t, σ, mv⟩ :=
  awp_seq (awp_late m ist hm hok h1 h2 h3 (h4 _ fun s' h => h))
theorem awp_late_end {P : Program} {Q : Exit → St → Prop} {N : Nat} {t : List (Nat × AV)} {σ : List Blk} {mv : List Nat} {id : Nat} {ops : List Oper} (m ist : Nat) (hm : P.follows .mixedOrders = true) (hok : (drawOk ops m && Nat.ble m ops.length && lateOk ops m ist) = true) {t1 : List (Nat × AV)} {σ2 : List Blk}
    (h1 : ∀ K : St → Prop, (∀ σ' mv', K ⟨N, t1, σ', mv'⟩) → evalO P ops m ist 0 (ops.take m) 0 ⟨N, t, σ, mv⟩ K)
    (h2 : lateA P ops ist ⟨N, t1, σ, mv⟩ fun σ' => σ' = σ2)
    (h3 : ∀ K : St → Prop, (∀ σ' mv', K ⟨N, t1, σ', mv'⟩) → evalO P ops m ist 0 (ops.take m) 0 ⟨N, t, σ2, mv⟩ K)
    (h4 : ∀ K : St → Prop, (∀ s', Q .normal s' → K s') → evalOps P false ops (ops.drop m) ⟨N, t1, σ2, mv⟩ K) : AWP P (.region id ops.toArray true) Q ⟨N, t, σ, mv⟩ :=
  awp_late m ist hm hok h1 h2 h3 (h4 _ fun s' h => h)
attribute [go_sem ↓] lateA
end Go.Abs

/-! Ob -/
namespace Go.Abs
open Go.RowKit
set_option linter.unusedVariables false
set_option linter.unusedSimpArgs false
theorem ba_loop (b : ByteArray) : ∀ (k i : Nat) (r : List UInt8), b.size - i = k → ByteArray.toList.loop b i r = r.reverse ++ b.data.toList.drop i := by
  intro k
  induction k with
  | zero =>
    intro i r h
    unfold ByteArray.toList.loop
    rw [if_neg (by omega)]
    have : b.data.toList.drop i = [] := by
      rw [List.drop_eq_nil_iff, Array.length_toList]
      have : b.data.size = b.size := rfl
      omega
    rw [this]; simp
  | succ k ih =>
    intro i r h
    unfold ByteArray.toList.loop
    have hi : i < b.size := by omega
    rw [if_pos hi, ih (i + 1) _ (by omega)]
    have hd : i < b.data.toList.length := by rw [Array.length_toList]; exact hi
    rw [List.drop_eq_getElem_cons hd]
    have : b.get! i = b.data.toList[i] := by
      have h2 : b.get! i = b.data[i]! := rfl
      rw [h2, getElem!_pos b.data i (by exact hi)]
      simp
    rw [this]; simp
theorem ba_toList (b : ByteArray) : b.toList = b.data.toList := by
  have := ba_loop b (b.size - 0) 0 [] rfl
  unfold ByteArray.toList
  rw [this]; simp
theorem ba_inj {a b : ByteArray} (h : a.toList = b.toList) : a = b := by
  rw [ba_toList, ba_toList] at h
  cases a; cases b; simp at h; rw [h]
theorem ba_eq_iff {a b : ByteArray} : a.toList = b.toList ↔ a = b := ⟨ba_inj, fun h => by rw [h]⟩
attribute [simp] ba_eq_iff
theorem below_rel {w w' : World} {j : Js} {σ : List Blk} (hb : Below w.heap.size w w') (hS : RelS w j σ) : RelS w' j σ ∧ Ev j w j w' := by
  have hk := hb.block
  have he : Ev j w j w' := ⟨hb.size, fun b h _ => hk b h, fun _ _ h => h, fun b h => by simp [World.shape?, hk b h], fun a h => by simp [World.frozen?, hk _ h], hb.os, hb.tape, hb.output,
    fun b r h => ⟨r, by rw [hk b (Array.getElem?_eq_some_iff.1 h).1]; exact h⟩⟩
  refine ⟨⟨hS.len, fun b cb h => Nat.lt_of_lt_of_le (hS.lt b cb h) hb.size, hS.inj, fun b x hx => ?_⟩, he⟩
  obtain ⟨o, ho, hB⟩ := hS.blk b x hx
  exact ⟨o, ho, hB.mono he hS.lt (.refl _ _) fun cb h => hk cb (hS.lt b cb (by rw [ho, h]))⟩
theorem CSF.of_calls {P : Program} {f : FuncId} {args : List AV} {σ : List Blk} {r : Value} (hen : entersB P f = true) (vals : Array Value) (hargs : ∀ w j vs, Rs w j args vs → vs = vals)
    (h : ∀ w j, RelS w j σ → Calls P f vals w fun e w' => e = .returned r ∧ Below w.heap.size w w') : CSF P f args σ (.d (.v r)) := by
  refine ⟨hen, fun j w vs hs hr => ?_⟩
  rw [hargs w j vs hr]
  refine (h w j hs).mono fun e w' ⟨he, hb⟩ => ?_
  obtain ⟨h1, h2⟩ := below_rel hb hs
  exact ⟨r, .d (.v r), σ, j, [], he, h1, .d (.v r), h2, Nat.le_refl _, .refl _ _, rfl, rfl, rfl⟩
theorem rs_vals1 {w : World} {j : Js} {a : AV} {v : Value} {vs : Array Value} (h : Rs w j [a] vs) (ha : ∀ u, R w j a u → u = v) : vs = #[v] := by
  have h0 := ha _ (by simpa using h.2 0 (by simp))
  apply Array.ext
  · simpa using h.1
  · intro i h1 h2
    have hi : i = 0 := by simpa using h2
    subst hi
    simp only [Array.getD_eq_getD_getElem?, h1, Array.getElem?_eq_getElem, Option.getD_some] at h0
    simpa using h0
theorem rs_vals2 {w : World} {j : Js} {a b : AV} {v u : Value} {vs : Array Value} (h : Rs w j [a, b] vs) (ha : ∀ x, R w j a x → x = v) (hb : ∀ x, R w j b x → x = u) : vs = #[v, u] := by
  have h0 := ha _ (by simpa using h.2 0 (by simp))
  have h1 := hb _ (by simpa using h.2 1 (by simp))
  have hs : vs.size = 2 := by simpa using h.1
  apply Array.ext
  · simpa using hs
  · intro i h2 h3
    simp only [Array.getD_eq_getD_getElem?, show 0 < vs.size by omega, show 1 < vs.size by omega, Array.getElem?_eq_getElem, Option.getD_some] at h0 h1
    have hi : i = 0 ∨ i = 1 := by simp at h3; omega
    rcases hi with rfl | rfl
    · simpa using h0
    · simpa using h1
theorem CS.sub {P : Program} {f : FuncId} {args args' : List AV} {σ : List Blk} {Q : AV → List Blk → List Nat → Prop} (h : CS P f args' σ Q) (hs : sameL args args') : CS P f args σ Q := by
  obtain ⟨h1, h2⟩ := sameL_spec hs
  exact ⟨h.1, fun j w vs hS hr => h.2 j w vs hS ⟨by rw [h1]; exact hr.1, fun k hk => h2 k (by rw [← h1]; exact hk) _ _ _ (hr.2 k (by rw [← h1]; exact hk))⟩⟩
theorem CSF.sub {P : Program} {f : FuncId} {args args' : List AV} {σ : List Blk} {r : AV} (h : CSF P f args' σ r) (hs : sameL args args') : CSF P f args σ r := CS.sub h hs
theorem loc_cell {w : World} {j : Js} {σ : List Blk} (hS : RelS w j σ) {b c : Nat} (h : σ[b]? = some (.loc c)) : ∃ m, w.cell? ⟨c, 0, none⟩ = some (.int .i64 m) := by
  obtain ⟨o, _, hB⟩ := hS.blk b _ h
  cases o <;> exact hB.2.2.2
theorem loc_app {σ τ : List Blk} {b : Nat} {x : Blk} (h : σ[b]? = some x) : (σ ++ τ)[b]? = some x := by
  rw [List.getElem?_append_left (List.getElem?_eq_some_iff.1 h).1]; exact h
end Go.Abs

/-! Od -/
namespace Go.Abs
open Go.RowKit
set_option linter.unusedVariables false
set_option linter.unusedSimpArgs false
theorem RD.none {w : World} {d : D} {v : Value} (h : RD w [] d v) : RD w [none] d v := by
  induction h with
  | v x => exact .v x
  | sl a c val h1 h2 h3 h4 h5 h6 h7 h8 ih => exact .sl a c val h1 h2 h3 h4 (by simp) h6 h7 ih
  | zero p c h1 h2 => exact .zero p c h1 h2
theorem R.none_d {w : World} {d : D} {v : Value} (h : R w [] (.d d) v) : R w [none] (.d d) v := by
  cases h with | d h => exact .d h.none
theorem R.none_agg {w : World} {ds : List D} {v : Value} (h : R w [] (.agg (ds.map .d)) v) : R w [none] (.agg (ds.map .d)) v := by
  cases h with
  | agg vs hs h =>
    refine .agg vs hs fun k hk => ?_
    have := h k hk
    have hk' : k < ds.length := by simpa using hk
    have e : (ds.map AV.d).getD k .undef = .d (ds[k]'hk') := by simp [List.getD_eq_getElem?_getD, hk']
    rw [e] at this ⊢
    exact this.none_d
theorem rsN_nil (w : World) : Rs w [none] [] #[] := ⟨rfl, by simp⟩
theorem RsN.cons {w : World} {x : AV} {v : Value} {xs : List AV} {vs : List Value} (h : R w [none] x v) (t : Rs w [none] xs vs.toArray) : Rs w [none] (x :: xs) (v :: vs).toArray :=
  ⟨by have := t.1; simpa using this, fun k hk => by
    cases k with
    | zero => simpa using h
    | succ k => have := t.2 k (by simpa using hk); simpa using this⟩
theorem law_callsN {P : Program} {f : FuncId} {avs : List AV} {args : Array Value} {w : World} {c : Nat} (h : CSF P f avs [.loc c] (.d (.v (.bool true)))) (hm : ∃ m, w.cell? ⟨c, 0, none⟩ = some (.int .i64 m)) (hr : Rs w [none] avs args) : Calls P f args w fun e w' => e = .returned (.bool true) ∧ Below w.heap.size w w' := by
  have hc : c < w.heap.size := by
    obtain ⟨m, hm⟩ := hm
    apply Classical.byContradiction
    intro hn
    have : w.heap[c]? = none := by simp; omega
    simp [World.cell?, this] at hm
  have hS : RelS w [none] [.loc c] := ⟨rfl, fun b cb hb => by
      cases b with
      | zero => simp at hb
      | succ b => simp at hb, fun b b' cb hb => by
      cases b with
      | zero => simp at hb
      | succ b => simp at hb, fun b x hx => by
      cases b with
      | zero =>
        simp at hx
        subst hx
        exact ⟨none, rfl, rfl, hc, by simp, hm⟩
      | succ b => simp at hx⟩
  refine (h.2 [none] w args hS hr).mono ?_
  rintro e w' ⟨v, r, σ', j', X, rfl, h1, h2, h3, h4, h5, rfl, rfl, rfl⟩
  cases h2 with
  | d h2 =>
    cases h2
    exact ⟨rfl, ⟨h3.os, h3.tape, h3.output, h3.size, fun k hk => h3.keep k hk (by simp)⟩⟩
end Go.Abs

/-! Ba -/
namespace Go.Proofs.YtkochmppmpmddaaGreat
open Go.Abs
@[go_sem] theorem T.arA_46 : arA Tryz.prog 46 = some (3, 1) := by kernel_rfl
@[go_sem] theorem T.arA_60 : arA Tryz.prog 60 = some (4, 1) := by kernel_rfl
@[go_sem] theorem T.arA_75 : arA Tryz.prog 75 = some (2, 2) := by kernel_rfl
@[go_sem] theorem T.arV_202 : arV Tryz.prog 202 = some (12, false, 1) := by kernel_rfl
@[go_sem] theorem T.boolT_4 : boolT Tryz.prog 4 = true := by kernel_rfl
@[go_sem] theorem T.eqA_80 : eqA Tryz.prog 80 = some [.i, .s, .i, .i, .i, .i] := by kernel_rfl
@[go_sem] theorem T.eqA_85 : eqA Tryz.prog 85 = some [.i, .i, .i, .i] := by kernel_rfl
@[go_sem] theorem T.eqA_87 : eqA Tryz.prog 87 = some [.i, .i, .i, .i, .i] := by kernel_rfl
@[go_sem] theorem T.fieldA_109_0 : fieldA Tryz.prog 109 0 = some 0 := by kernel_rfl
@[go_sem] theorem T.fieldA_109_1 : fieldA Tryz.prog 109 1 = some 1 := by kernel_rfl
@[go_sem] theorem T.fieldA_109_2 : fieldA Tryz.prog 109 2 = some 2 := by kernel_rfl
@[go_sem] theorem T.fieldA_109_3 : fieldA Tryz.prog 109 3 = some 3 := by kernel_rfl
@[go_sem] theorem T.fieldA_109_4 : fieldA Tryz.prog 109 4 = some 4 := by kernel_rfl
@[go_sem] theorem T.fieldA_124_0 : fieldA Tryz.prog 124 0 = some 0 := by kernel_rfl
@[go_sem] theorem T.fieldA_124_1 : fieldA Tryz.prog 124 1 = some 1 := by kernel_rfl
@[go_sem] theorem T.fieldA_29_0 : fieldA Tryz.prog 29 0 = some 0 := by kernel_rfl
@[go_sem] theorem T.fieldA_29_1 : fieldA Tryz.prog 29 1 = some 1 := by kernel_rfl
@[go_sem] theorem T.fieldA_29_2 : fieldA Tryz.prog 29 2 = some 2 := by kernel_rfl
@[go_sem] theorem T.fieldA_29_3 : fieldA Tryz.prog 29 3 = some 3 := by kernel_rfl
@[go_sem] theorem T.fieldA_29_4 : fieldA Tryz.prog 29 4 = some 4 := by kernel_rfl
@[go_sem] theorem T.fieldA_29_5 : fieldA Tryz.prog 29 5 = some 5 := by kernel_rfl
@[go_sem] theorem T.fieldA_38_0 : fieldA Tryz.prog 38 0 = some 0 := by kernel_rfl
@[go_sem] theorem T.fieldA_38_1 : fieldA Tryz.prog 38 1 = some 1 := by kernel_rfl
@[go_sem] theorem T.fieldA_38_2 : fieldA Tryz.prog 38 2 = some 2 := by kernel_rfl
@[go_sem] theorem T.fieldA_45_0 : fieldA Tryz.prog 45 0 = some 0 := by kernel_rfl
@[go_sem] theorem T.fieldA_45_1 : fieldA Tryz.prog 45 1 = some 1 := by kernel_rfl
@[go_sem] theorem T.fieldA_49_0 : fieldA Tryz.prog 49 0 = some 0 := by kernel_rfl
@[go_sem] theorem T.fieldA_49_1 : fieldA Tryz.prog 49 1 = some 1 := by kernel_rfl
@[go_sem] theorem T.fieldA_49_2 : fieldA Tryz.prog 49 2 = some 2 := by kernel_rfl
@[go_sem] theorem T.fieldA_49_3 : fieldA Tryz.prog 49 3 = some 3 := by kernel_rfl
@[go_sem] theorem T.fieldA_49_4 : fieldA Tryz.prog 49 4 = some 4 := by kernel_rfl
@[go_sem] theorem T.fieldA_66_0 : fieldA Tryz.prog 66 0 = some 0 := by kernel_rfl
@[go_sem] theorem T.fieldA_66_1 : fieldA Tryz.prog 66 1 = some 1 := by kernel_rfl
@[go_sem] theorem T.fieldA_68_0 : fieldA Tryz.prog 68 0 = some 0 := by kernel_rfl
@[go_sem] theorem T.fieldA_68_1 : fieldA Tryz.prog 68 1 = some 1 := by kernel_rfl
@[go_sem] theorem T.fieldA_68_2 : fieldA Tryz.prog 68 2 = some 2 := by kernel_rfl
@[go_sem] theorem T.fieldA_68_3 : fieldA Tryz.prog 68 3 = some 3 := by kernel_rfl
@[go_sem] theorem T.fieldA_68_4 : fieldA Tryz.prog 68 4 = some 4 := by kernel_rfl
@[go_sem] theorem T.fieldA_71_0 : fieldA Tryz.prog 71 0 = some 0 := by kernel_rfl
@[go_sem] theorem T.fieldA_71_1 : fieldA Tryz.prog 71 1 = some 1 := by kernel_rfl
@[go_sem] theorem T.fieldA_71_2 : fieldA Tryz.prog 71 2 = some 2 := by kernel_rfl
@[go_sem] theorem T.fieldA_71_3 : fieldA Tryz.prog 71 3 = some 3 := by kernel_rfl
@[go_sem] theorem T.fieldA_71_4 : fieldA Tryz.prog 71 4 = some 4 := by kernel_rfl
@[go_sem] theorem T.fieldA_74_0 : fieldA Tryz.prog 74 0 = some 0 := by kernel_rfl
@[go_sem] theorem T.fieldA_74_1 : fieldA Tryz.prog 74 1 = some 1 := by kernel_rfl
@[go_sem] theorem T.fieldA_80_0 : fieldA Tryz.prog 80 0 = some 0 := by kernel_rfl
@[go_sem] theorem T.fieldA_80_1 : fieldA Tryz.prog 80 1 = some 1 := by kernel_rfl
@[go_sem] theorem T.fieldA_80_2 : fieldA Tryz.prog 80 2 = some 2 := by kernel_rfl
@[go_sem] theorem T.fieldA_80_3 : fieldA Tryz.prog 80 3 = some 4 := by kernel_rfl
@[go_sem] theorem T.fieldA_85_0 : fieldA Tryz.prog 85 0 = some 0 := by kernel_rfl
@[go_sem] theorem T.fieldA_85_1 : fieldA Tryz.prog 85 1 = some 1 := by kernel_rfl
@[go_sem] theorem T.fieldA_85_2 : fieldA Tryz.prog 85 2 = some 2 := by kernel_rfl
@[go_sem] theorem T.fieldA_85_3 : fieldA Tryz.prog 85 3 = some 3 := by kernel_rfl
@[go_sem] theorem T.fieldA_89_0 : fieldA Tryz.prog 89 0 = some 0 := by kernel_rfl
@[go_sem] theorem T.fieldA_89_1 : fieldA Tryz.prog 89 1 = some 1 := by kernel_rfl
@[go_sem] theorem T.fieldA_89_2 : fieldA Tryz.prog 89 2 = some 3 := by kernel_rfl
@[go_sem] theorem T.fieldA_89_3 : fieldA Tryz.prog 89 3 = some 4 := by kernel_rfl
@[go_sem] theorem T.fieldVA_49_3 : fieldVA Tryz.prog 49 3 = some (3, false, 1) := by kernel_rfl
@[go_sem] theorem T.intT_206 : intT Tryz.prog 206 = some .u64 := by kernel_rfl
@[go_sem] theorem T.intT_216 : intT Tryz.prog 216 = some .u32 := by kernel_rfl
@[go_sem] theorem T.intT_218 : intT Tryz.prog 218 = some .u64 := by kernel_rfl
@[go_sem] theorem T.intT_221 : intT Tryz.prog 221 = some .u64 := by kernel_rfl
@[go_sem] theorem T.intT_3 : intT Tryz.prog 3 = some .i64 := by kernel_rfl
@[go_sem] theorem T.intT_5 : intT Tryz.prog 5 = some .u8 := by kernel_rfl
@[go_sem] theorem T.isArr_104 : isArr Tryz.prog 104 = false := by kernel_rfl
@[go_sem] theorem T.isArr_119 : isArr Tryz.prog 119 = false := by kernel_rfl
@[go_sem] theorem T.isArr_170 : isArr Tryz.prog 170 = false := by kernel_rfl
@[go_sem] theorem T.isArr_175 : isArr Tryz.prog 175 = false := by kernel_rfl
@[go_sem] theorem T.isArr_22 : isArr Tryz.prog 22 = false := by kernel_rfl
@[go_sem] theorem T.isArr_23 : isArr Tryz.prog 23 = false := by kernel_rfl
@[go_sem] theorem T.isArr_24 : isArr Tryz.prog 24 = false := by kernel_rfl
@[go_sem] theorem T.isArr_25 : isArr Tryz.prog 25 = false := by kernel_rfl
@[go_sem] theorem T.isArr_26 : isArr Tryz.prog 26 = false := by kernel_rfl
@[go_sem] theorem T.isArr_27 : isArr Tryz.prog 27 = false := by kernel_rfl
@[go_sem] theorem T.isArr_32 : isArr Tryz.prog 32 = false := by kernel_rfl
@[go_sem] theorem T.isArr_46 : isArr Tryz.prog 46 = true := by kernel_rfl
@[go_sem] theorem T.isArr_47 : isArr Tryz.prog 47 = false := by kernel_rfl
@[go_sem] theorem T.isArr_55 : isArr Tryz.prog 55 = false := by kernel_rfl
@[go_sem] theorem T.isArr_60 : isArr Tryz.prog 60 = true := by kernel_rfl
@[go_sem] theorem T.isArr_75 : isArr Tryz.prog 75 = true := by kernel_rfl
@[go_sem] theorem T.isSlT_206 : isSlT Tryz.prog 206 = false := by kernel_rfl
@[go_sem] theorem T.isSlT_209 : isSlT Tryz.prog 209 = false := by kernel_rfl
@[go_sem] theorem T.isSlT_21 : isSlT Tryz.prog 21 = false := by kernel_rfl
@[go_sem] theorem T.isSlT_216 : isSlT Tryz.prog 216 = false := by kernel_rfl
@[go_sem] theorem T.isSlT_218 : isSlT Tryz.prog 218 = false := by kernel_rfl
@[go_sem] theorem T.isSlT_22 : isSlT Tryz.prog 22 = true := by kernel_rfl
@[go_sem] theorem T.isSlT_221 : isSlT Tryz.prog 221 = false := by kernel_rfl
@[go_sem] theorem T.isSlT_23 : isSlT Tryz.prog 23 = true := by kernel_rfl
@[go_sem] theorem T.isSlT_24 : isSlT Tryz.prog 24 = true := by kernel_rfl
@[go_sem] theorem T.isSlT_25 : isSlT Tryz.prog 25 = true := by kernel_rfl
@[go_sem] theorem T.isSlT_26 : isSlT Tryz.prog 26 = true := by kernel_rfl
@[go_sem] theorem T.isSlT_27 : isSlT Tryz.prog 27 = true := by kernel_rfl
@[go_sem] theorem T.isSlT_3 : isSlT Tryz.prog 3 = false := by kernel_rfl
@[go_sem] theorem T.isSlT_32 : isSlT Tryz.prog 32 = true := by kernel_rfl
@[go_sem] theorem T.isSlT_33 : isSlT Tryz.prog 33 = false := by kernel_rfl
@[go_sem] theorem T.isSlT_4 : isSlT Tryz.prog 4 = false := by kernel_rfl
@[go_sem] theorem T.isSlT_5 : isSlT Tryz.prog 5 = false := by kernel_rfl
@[go_sem] theorem T.isSlT_80 : isSlT Tryz.prog 80 = false := by kernel_rfl
@[go_sem] theorem T.isSlT_85 : isSlT Tryz.prog 85 = false := by kernel_rfl
@[go_sem] theorem T.isSlT_87 : isSlT Tryz.prog 87 = false := by kernel_rfl
@[go_sem] theorem T.lenT_104 : lenT Tryz.prog 104 = 1 := by kernel_rfl
@[go_sem] theorem T.lenT_119 : lenT Tryz.prog 119 = 1 := by kernel_rfl
@[go_sem] theorem T.lenT_170 : lenT Tryz.prog 170 = 1 := by kernel_rfl
@[go_sem] theorem T.lenT_175 : lenT Tryz.prog 175 = 1 := by kernel_rfl
@[go_sem] theorem T.lenT_22 : lenT Tryz.prog 22 = 1 := by kernel_rfl
@[go_sem] theorem T.lenT_23 : lenT Tryz.prog 23 = 1 := by kernel_rfl
@[go_sem] theorem T.lenT_24 : lenT Tryz.prog 24 = 1 := by kernel_rfl
@[go_sem] theorem T.lenT_25 : lenT Tryz.prog 25 = 1 := by kernel_rfl
@[go_sem] theorem T.lenT_26 : lenT Tryz.prog 26 = 1 := by kernel_rfl
@[go_sem] theorem T.lenT_27 : lenT Tryz.prog 27 = 1 := by kernel_rfl
@[go_sem] theorem T.lenT_32 : lenT Tryz.prog 32 = 1 := by kernel_rfl
@[go_sem] theorem T.lenT_47 : lenT Tryz.prog 47 = 1 := by kernel_rfl
@[go_sem] theorem T.lenT_55 : lenT Tryz.prog 55 = 1 := by kernel_rfl
@[go_sem] theorem T.lenT_9 : lenT Tryz.prog 9 = 2 := by kernel_rfl
@[go_sem] theorem T.placesA_109 : placesA Tryz.prog 109 = some ([(0, 1), (1, 1), (2, 1), (3, 1), (4, 2)], [.int .i64 0, .int .i64 0, .int .i64 0, .bool false, .int .i64 0, .int .i64 0]) := by kernel_rfl
@[go_sem] theorem T.placesA_124 : placesA Tryz.prog 124 = some ([(0, 1), (1, 1)], [.nilFunc, .nilFunc]) := by kernel_rfl
@[go_sem] theorem T.placesA_202 : placesA Tryz.prog 202 = some ([(0, 1), (1, 1), (2, 1), (3, 1), (4, 1), (5, 1), (6, 1), (7, 1), (8, 1), (9, 1), (10, 1), (11, 1)], [.int .i64 0, .int .i64 0, .int .i64 0, .int .i64 0, .int .i64 0, .int .i64 0, .int .i64 0, .int .i64 0, .int .i64 0, .int .i64 0, .int .i64 0, .int .i64 0]) := by kernel_rfl
@[go_sem] theorem T.placesA_29 : placesA Tryz.prog 29 = some ([(0, 1), (1, 1), (2, 1), (3, 1), (4, 1), (5, 1)], [.slice none 0 0, .slice none 0 0, .slice none 0 0, .int .i64 0, .slice none 0 0, .slice none 0 0]) := by kernel_rfl
@[go_sem] theorem T.placesA_38 : placesA Tryz.prog 38 = some ([(0, 1), (1, 1), (2, 1)], [.int .i64 0, .int .i64 0, .int .i64 0]) := by kernel_rfl
@[go_sem] theorem T.placesA_49 : placesA Tryz.prog 49 = some ([(0, 1), (1, 1), (2, 1), (3, 1), (4, 1)], [.int .i64 0, .int .i64 0, .int .i64 0, .bool false, .slice none 0 0]) := by kernel_rfl
@[go_sem] theorem T.placesA_66 : placesA Tryz.prog 66 = some ([(0, 1), (1, 1)], [.int .i64 0, .int .i64 0]) := by kernel_rfl
@[go_sem] theorem T.placesA_68 : placesA Tryz.prog 68 = some ([(0, 1), (1, 1), (2, 1), (3, 1), (4, 2)], [.int .i64 0, .int .i64 0, .int .i64 0, .bool false, .int .i64 0, .int .i64 0]) := by kernel_rfl
@[go_sem] theorem T.placesA_71 : placesA Tryz.prog 71 = some ([(0, 1), (1, 1), (2, 1), (3, 1), (4, 2)], [.int .i64 0, .int .i64 0, .int .i64 0, .int .i64 0, .int .i64 0, .int .i64 0]) := by kernel_rfl
@[go_sem] theorem T.placesA_74 : placesA Tryz.prog 74 = some ([(0, 1), (1, 1)], [.int .i64 0, .int .i64 0]) := by kernel_rfl
@[go_sem] theorem T.placesA_80 : placesA Tryz.prog 80 = some ([(0, 1), (1, 1), (2, 2), (4, 2)], [.int .i64 0, .string ⟨#[]⟩, .int .i64 0, .int .i64 0, .int .i64 0, .int .i64 0]) := by kernel_rfl
@[go_sem] theorem T.placesA_85 : placesA Tryz.prog 85 = some ([(0, 1), (1, 1), (2, 1), (3, 1)], [.int .i64 0, .int .i64 0, .int .i64 0, .int .i64 0]) := by kernel_rfl
@[go_sem] theorem T.placesA_87 : placesA Tryz.prog 87 = some ([(0, 4), (4, 1)], [.int .i64 0, .int .i64 0, .int .i64 0, .int .i64 0, .int .i64 0]) := by kernel_rfl
@[go_sem] theorem T.placesA_89 : placesA Tryz.prog 89 = some ([(0, 1), (1, 2), (3, 1), (4, 1)], [.int .i64 0, .int .i64 0, .int .i64 0, .int .i64 0, .slice none 0 0]) := by kernel_rfl
@[go_sem] theorem T.slA_104 : slA Tryz.prog 104 = some (33, 1) := by kernel_rfl
@[go_sem] theorem T.slA_119 : slA Tryz.prog 119 = some (124, 2) := by kernel_rfl
@[go_sem] theorem T.slA_170 : slA Tryz.prog 170 = some (66, 2) := by kernel_rfl
@[go_sem] theorem T.slA_175 : slA Tryz.prog 175 = some (68, 6) := by kernel_rfl
@[go_sem] theorem T.slA_22 : slA Tryz.prog 22 = some (38, 3) := by kernel_rfl
@[go_sem] theorem T.slA_23 : slA Tryz.prog 23 = some (89, 5) := by kernel_rfl
@[go_sem] theorem T.slA_24 : slA Tryz.prog 24 = some (109, 6) := by kernel_rfl
@[go_sem] theorem T.slA_25 : slA Tryz.prog 25 = some (80, 6) := by kernel_rfl
@[go_sem] theorem T.slA_26 : slA Tryz.prog 26 = some (68, 6) := by kernel_rfl
@[go_sem] theorem T.slA_27 : slA Tryz.prog 27 = some (71, 6) := by kernel_rfl
@[go_sem] theorem T.slA_32 : slA Tryz.prog 32 = some (3, 1) := by kernel_rfl
@[go_sem] theorem T.slA_47 : slA Tryz.prog 47 = some (87, 5) := by kernel_rfl
@[go_sem] theorem T.slA_55 : slA Tryz.prog 55 = some (85, 4) := by kernel_rfl
@[go_sem] theorem T.slB_104 : slB Tryz.prog 104 = some (33, 1, 8, [.int .i64 0]) := by kernel_rfl
@[go_sem] theorem T.slB_119 : slB Tryz.prog 119 = some (124, 2, 16, [.nilFunc, .nilFunc]) := by kernel_rfl
@[go_sem] theorem T.slB_170 : slB Tryz.prog 170 = some (66, 2, 16, [.int .i64 0, .int .i64 0]) := by kernel_rfl
@[go_sem] theorem T.slB_22 : slB Tryz.prog 22 = some (38, 3, 24, [.int .i64 0, .int .i64 0, .int .i64 0]) := by kernel_rfl
@[go_sem] theorem T.slB_23 : slB Tryz.prog 23 = some (89, 5, 56, [.int .i64 0, .int .i64 0, .int .i64 0, .int .i64 0, .slice none 0 0]) := by kernel_rfl
@[go_sem] theorem T.slB_24 : slB Tryz.prog 24 = some (109, 6, 48, [.int .i64 0, .int .i64 0, .int .i64 0, .bool false, .int .i64 0, .int .i64 0]) := by kernel_rfl
@[go_sem] theorem T.slB_25 : slB Tryz.prog 25 = some (80, 6, 56, [.int .i64 0, .string ⟨#[]⟩, .int .i64 0, .int .i64 0, .int .i64 0, .int .i64 0]) := by kernel_rfl
@[go_sem] theorem T.slB_26 : slB Tryz.prog 26 = some (68, 6, 48, [.int .i64 0, .int .i64 0, .int .i64 0, .bool false, .int .i64 0, .int .i64 0]) := by kernel_rfl
@[go_sem] theorem T.slB_27 : slB Tryz.prog 27 = some (71, 6, 48, [.int .i64 0, .int .i64 0, .int .i64 0, .int .i64 0, .int .i64 0, .int .i64 0]) := by kernel_rfl
@[go_sem] theorem T.slB_32 : slB Tryz.prog 32 = some (3, 1, 8, [.int .i64 0]) := by kernel_rfl
@[go_sem] theorem T.slB_47 : slB Tryz.prog 47 = some (87, 5, 40, [.int .i64 0, .int .i64 0, .int .i64 0, .int .i64 0, .int .i64 0]) := by kernel_rfl
@[go_sem] theorem T.slB_55 : slB Tryz.prog 55 = some (85, 4, 32, [.int .i64 0, .int .i64 0, .int .i64 0, .int .i64 0]) := by kernel_rfl
@[go_sem] theorem T.strT_206 : strT Tryz.prog 206 = false := by kernel_rfl
@[go_sem] theorem T.strT_216 : strT Tryz.prog 216 = false := by kernel_rfl
@[go_sem] theorem T.strT_218 : strT Tryz.prog 218 = false := by kernel_rfl
@[go_sem] theorem T.strT_221 : strT Tryz.prog 221 = false := by kernel_rfl
@[go_sem] theorem T.strT_3 : strT Tryz.prog 3 = false := by kernel_rfl
@[go_sem] theorem T.strT_5 : strT Tryz.prog 5 = false := by kernel_rfl
@[go_sem] theorem T.strT_9 : strT Tryz.prog 9 = true := by kernel_rfl
@[go_sem] theorem T.tyA_109 : tyA Tryz.prog 109 = some (true, 6) := by kernel_rfl
@[go_sem] theorem T.tyA_121 : tyA Tryz.prog 121 = some (false, 1) := by kernel_rfl
@[go_sem] theorem T.tyA_122 : tyA Tryz.prog 122 = some (false, 1) := by kernel_rfl
@[go_sem] theorem T.tyA_124 : tyA Tryz.prog 124 = some (true, 2) := by kernel_rfl
@[go_sem] theorem T.tyA_170 : tyA Tryz.prog 170 = some (false, 1) := by kernel_rfl
@[go_sem] theorem T.tyA_202 : tyA Tryz.prog 202 = some (true, 12) := by kernel_rfl
@[go_sem] theorem T.tyA_22 : tyA Tryz.prog 22 = some (false, 1) := by kernel_rfl
@[go_sem] theorem T.tyA_221 : tyA Tryz.prog 221 = some (false, 1) := by kernel_rfl
@[go_sem] theorem T.tyA_23 : tyA Tryz.prog 23 = some (false, 1) := by kernel_rfl
@[go_sem] theorem T.tyA_24 : tyA Tryz.prog 24 = some (false, 1) := by kernel_rfl
@[go_sem] theorem T.tyA_25 : tyA Tryz.prog 25 = some (false, 1) := by kernel_rfl
@[go_sem] theorem T.tyA_26 : tyA Tryz.prog 26 = some (false, 1) := by kernel_rfl
@[go_sem] theorem T.tyA_27 : tyA Tryz.prog 27 = some (false, 1) := by kernel_rfl
@[go_sem] theorem T.tyA_29 : tyA Tryz.prog 29 = some (true, 6) := by kernel_rfl
@[go_sem] theorem T.tyA_3 : tyA Tryz.prog 3 = some (false, 1) := by kernel_rfl
@[go_sem] theorem T.tyA_32 : tyA Tryz.prog 32 = some (false, 1) := by kernel_rfl
@[go_sem] theorem T.tyA_33 : tyA Tryz.prog 33 = some (false, 1) := by kernel_rfl
@[go_sem] theorem T.tyA_38 : tyA Tryz.prog 38 = some (true, 3) := by kernel_rfl
@[go_sem] theorem T.tyA_4 : tyA Tryz.prog 4 = some (false, 1) := by kernel_rfl
@[go_sem] theorem T.tyA_47 : tyA Tryz.prog 47 = some (false, 1) := by kernel_rfl
@[go_sem] theorem T.tyA_49 : tyA Tryz.prog 49 = some (true, 5) := by kernel_rfl
@[go_sem] theorem T.tyA_55 : tyA Tryz.prog 55 = some (false, 1) := by kernel_rfl
@[go_sem] theorem T.tyA_66 : tyA Tryz.prog 66 = some (true, 2) := by kernel_rfl
@[go_sem] theorem T.tyA_68 : tyA Tryz.prog 68 = some (true, 6) := by kernel_rfl
@[go_sem] theorem T.tyA_71 : tyA Tryz.prog 71 = some (true, 6) := by kernel_rfl
@[go_sem] theorem T.tyA_74 : tyA Tryz.prog 74 = some (true, 2) := by kernel_rfl
@[go_sem] theorem T.tyA_80 : tyA Tryz.prog 80 = some (true, 6) := by kernel_rfl
@[go_sem] theorem T.tyA_85 : tyA Tryz.prog 85 = some (true, 4) := by kernel_rfl
@[go_sem] theorem T.tyA_87 : tyA Tryz.prog 87 = some (true, 5) := by kernel_rfl
@[go_sem] theorem T.tyA_89 : tyA Tryz.prog 89 = some (true, 5) := by kernel_rfl
@[go_sem] theorem T.tyA_9 : tyA Tryz.prog 9 = some (false, 1) := by kernel_rfl
@[go_sem] theorem T.zeroA_109 : zeroA Tryz.prog 109 = some [.int .i64 0, .int .i64 0, .int .i64 0, .bool false, .int .i64 0, .int .i64 0] := by kernel_rfl
@[go_sem] theorem T.zeroA_124 : zeroA Tryz.prog 124 = some [.nilFunc, .nilFunc] := by kernel_rfl
@[go_sem] theorem T.zeroA_170 : zeroA Tryz.prog 170 = some [.slice none 0 0] := by kernel_rfl
@[go_sem] theorem T.zeroA_202 : zeroA Tryz.prog 202 = some [.int .i64 0, .int .i64 0, .int .i64 0, .int .i64 0, .int .i64 0, .int .i64 0, .int .i64 0, .int .i64 0, .int .i64 0, .int .i64 0, .int .i64 0, .int .i64 0] := by kernel_rfl
@[go_sem] theorem T.zeroA_221 : zeroA Tryz.prog 221 = some [.int .u64 0] := by kernel_rfl
@[go_sem] theorem T.zeroA_24 : zeroA Tryz.prog 24 = some [.slice none 0 0] := by kernel_rfl
@[go_sem] theorem T.zeroA_29 : zeroA Tryz.prog 29 = some [.slice none 0 0, .slice none 0 0, .slice none 0 0, .int .i64 0, .slice none 0 0, .slice none 0 0] := by kernel_rfl
@[go_sem] theorem T.zeroA_3 : zeroA Tryz.prog 3 = some [.int .i64 0] := by kernel_rfl
@[go_sem] theorem T.zeroA_32 : zeroA Tryz.prog 32 = some [.slice none 0 0] := by kernel_rfl
@[go_sem] theorem T.zeroA_33 : zeroA Tryz.prog 33 = some [.int .i64 0] := by kernel_rfl
@[go_sem] theorem T.zeroA_38 : zeroA Tryz.prog 38 = some [.int .i64 0, .int .i64 0, .int .i64 0] := by kernel_rfl
@[go_sem] theorem T.zeroA_49 : zeroA Tryz.prog 49 = some [.int .i64 0, .int .i64 0, .int .i64 0, .bool false, .slice none 0 0] := by kernel_rfl
@[go_sem] theorem T.zeroA_55 : zeroA Tryz.prog 55 = some [.slice none 0 0] := by kernel_rfl
@[go_sem] theorem T.zeroA_66 : zeroA Tryz.prog 66 = some [.int .i64 0, .int .i64 0] := by kernel_rfl
@[go_sem] theorem T.zeroA_68 : zeroA Tryz.prog 68 = some [.int .i64 0, .int .i64 0, .int .i64 0, .bool false, .int .i64 0, .int .i64 0] := by kernel_rfl
@[go_sem] theorem T.zeroA_71 : zeroA Tryz.prog 71 = some [.int .i64 0, .int .i64 0, .int .i64 0, .int .i64 0, .int .i64 0, .int .i64 0] := by kernel_rfl
@[go_sem] theorem T.zeroA_74 : zeroA Tryz.prog 74 = some [.int .i64 0, .int .i64 0] := by kernel_rfl
@[go_sem] theorem T.zeroA_80 : zeroA Tryz.prog 80 = some [.int .i64 0, .string ⟨#[]⟩, .int .i64 0, .int .i64 0, .int .i64 0, .int .i64 0] := by kernel_rfl
@[go_sem] theorem T.zeroA_85 : zeroA Tryz.prog 85 = some [.int .i64 0, .int .i64 0, .int .i64 0, .int .i64 0] := by kernel_rfl
@[go_sem] theorem T.zeroA_89 : zeroA Tryz.prog 89 = some [.int .i64 0, .int .i64 0, .int .i64 0, .int .i64 0, .slice none 0 0] := by kernel_rfl
theorem T.en3 : entersB Tryz.prog 3 = true := by kernel_rfl
theorem T.en4 : entersB Tryz.prog 4 = true := by kernel_rfl
theorem T.en5 : entersB Tryz.prog 5 = true := by kernel_rfl
theorem T.en6 : entersB Tryz.prog 6 = true := by kernel_rfl
theorem T.en7 : entersB Tryz.prog 7 = true := by kernel_rfl
theorem T.en8 : entersB Tryz.prog 8 = true := by kernel_rfl
theorem T.en9 : entersB Tryz.prog 9 = true := by kernel_rfl
theorem T.en10 : entersB Tryz.prog 10 = true := by kernel_rfl
theorem T.en11 : entersB Tryz.prog 11 = true := by kernel_rfl
theorem T.en12 : entersB Tryz.prog 12 = true := by kernel_rfl
theorem T.en13 : entersB Tryz.prog 13 = true := by kernel_rfl
theorem T.en14 : entersB Tryz.prog 14 = true := by kernel_rfl
theorem T.en15 : entersB Tryz.prog 15 = true := by kernel_rfl
theorem T.en16 : entersB Tryz.prog 16 = true := by kernel_rfl
theorem T.en17 : entersB Tryz.prog 17 = true := by kernel_rfl
theorem T.en18 : entersB Tryz.prog 18 = true := by kernel_rfl
theorem T.en19 : entersB Tryz.prog 19 = true := by kernel_rfl
theorem T.en20 : entersB Tryz.prog 20 = true := by kernel_rfl
theorem T.en21 : entersB Tryz.prog 21 = true := by kernel_rfl
theorem T.en22 : entersB Tryz.prog 22 = true := by kernel_rfl
theorem T.en23 : entersB Tryz.prog 23 = true := by kernel_rfl
theorem T.en24 : entersB Tryz.prog 24 = true := by kernel_rfl
theorem T.en25 : entersB Tryz.prog 25 = true := by kernel_rfl
theorem T.en26 : entersB Tryz.prog 26 = true := by kernel_rfl
theorem T.en27 : entersB Tryz.prog 27 = true := by kernel_rfl
theorem T.en28 : entersB Tryz.prog 28 = true := by kernel_rfl
theorem T.en29 : entersB Tryz.prog 29 = true := by kernel_rfl
theorem T.en30 : entersB Tryz.prog 30 = true := by kernel_rfl
theorem T.en31 : entersB Tryz.prog 31 = true := by kernel_rfl
theorem T.en32 : entersB Tryz.prog 32 = true := by kernel_rfl
theorem T.en33 : entersB Tryz.prog 33 = true := by kernel_rfl
theorem T.en34 : entersB Tryz.prog 34 = true := by kernel_rfl
theorem T.en35 : entersB Tryz.prog 35 = true := by kernel_rfl
theorem T.en36 : entersB Tryz.prog 36 = true := by kernel_rfl
theorem T.en37 : entersB Tryz.prog 37 = true := by kernel_rfl
theorem T.en38 : entersB Tryz.prog 38 = true := by kernel_rfl
theorem T.en39 : entersB Tryz.prog 39 = true := by kernel_rfl
theorem T.en40 : entersB Tryz.prog 40 = true := by kernel_rfl
theorem T.en41 : entersB Tryz.prog 41 = true := by kernel_rfl
theorem T.en42 : entersB Tryz.prog 42 = true := by kernel_rfl
theorem T.en43 : entersB Tryz.prog 43 = true := by kernel_rfl
theorem T.en44 : entersB Tryz.prog 44 = true := by kernel_rfl
theorem T.en45 : entersB Tryz.prog 45 = true := by kernel_rfl
theorem T.en46 : entersB Tryz.prog 46 = true := by kernel_rfl
theorem T.en47 : entersB Tryz.prog 47 = true := by kernel_rfl
theorem T.en48 : entersB Tryz.prog 48 = true := by kernel_rfl
theorem T.en49 : entersB Tryz.prog 49 = true := by kernel_rfl
theorem T.en50 : entersB Tryz.prog 50 = true := by kernel_rfl
theorem T.en51 : entersB Tryz.prog 51 = true := by kernel_rfl
theorem T.en52 : entersB Tryz.prog 52 = true := by kernel_rfl
theorem T.en53 : entersB Tryz.prog 53 = true := by kernel_rfl
theorem T.en54 : entersB Tryz.prog 54 = true := by kernel_rfl
theorem T.en55 : entersB Tryz.prog 55 = true := by kernel_rfl
theorem T.en56 : entersB Tryz.prog 56 = true := by kernel_rfl
theorem T.en57 : entersB Tryz.prog 57 = true := by kernel_rfl
theorem T.en58 : entersB Tryz.prog 58 = true := by kernel_rfl
theorem T.en59 : entersB Tryz.prog 59 = true := by kernel_rfl
theorem T.en60 : entersB Tryz.prog 60 = true := by kernel_rfl
theorem T.en61 : entersB Tryz.prog 61 = true := by kernel_rfl
theorem T.en62 : entersB Tryz.prog 62 = true := by kernel_rfl
theorem T.en63 : entersB Tryz.prog 63 = true := by kernel_rfl
theorem T.en64 : entersB Tryz.prog 64 = true := by kernel_rfl
theorem T.en65 : entersB Tryz.prog 65 = true := by kernel_rfl
theorem T.en66 : entersB Tryz.prog 66 = true := by kernel_rfl
theorem T.en67 : entersB Tryz.prog 67 = true := by kernel_rfl
theorem T.en68 : entersB Tryz.prog 68 = true := by kernel_rfl
theorem T.en69 : entersB Tryz.prog 69 = true := by kernel_rfl
theorem T.en70 : entersB Tryz.prog 70 = true := by kernel_rfl
theorem T.en71 : entersB Tryz.prog 71 = true := by kernel_rfl
theorem T.en72 : entersB Tryz.prog 72 = true := by kernel_rfl
theorem T.en73 : entersB Tryz.prog 73 = true := by kernel_rfl
theorem T.en74 : entersB Tryz.prog 74 = true := by kernel_rfl
theorem T.en75 : entersB Tryz.prog 75 = true := by kernel_rfl
theorem T.en76 : entersB Tryz.prog 76 = true := by kernel_rfl
theorem T.en77 : entersB Tryz.prog 77 = true := by kernel_rfl
theorem T.en78 : entersB Tryz.prog 78 = true := by kernel_rfl
theorem T.en79 : entersB Tryz.prog 79 = true := by kernel_rfl
theorem T.en80 : entersB Tryz.prog 80 = true := by kernel_rfl
theorem T.en81 : entersB Tryz.prog 81 = true := by kernel_rfl
theorem T.en82 : entersB Tryz.prog 82 = true := by kernel_rfl
theorem T.en83 : entersB Tryz.prog 83 = true := by kernel_rfl
theorem T.en84 : entersB Tryz.prog 84 = true := by kernel_rfl
theorem T.en85 : entersB Tryz.prog 85 = true := by kernel_rfl
theorem T.en86 : entersB Tryz.prog 86 = true := by kernel_rfl
theorem T.en87 : entersB Tryz.prog 87 = true := by kernel_rfl
theorem T.en88 : entersB Tryz.prog 88 = true := by kernel_rfl
theorem T.en89 : entersB Tryz.prog 89 = true := by kernel_rfl
theorem T.en90 : entersB Tryz.prog 90 = true := by kernel_rfl
theorem T.en91 : entersB Tryz.prog 91 = true := by kernel_rfl
theorem T.en92 : entersB Tryz.prog 92 = true := by kernel_rfl
theorem T.en93 : entersB Tryz.prog 93 = true := by kernel_rfl
theorem T.en94 : entersB Tryz.prog 94 = true := by kernel_rfl
theorem T.en95 : entersB Tryz.prog 95 = true := by kernel_rfl
theorem T.en96 : entersB Tryz.prog 96 = true := by kernel_rfl
theorem T.en97 : entersB Tryz.prog 97 = true := by kernel_rfl
theorem T.en98 : entersB Tryz.prog 98 = true := by kernel_rfl
theorem T.en99 : entersB Tryz.prog 99 = true := by kernel_rfl
theorem T.en100 : entersB Tryz.prog 100 = true := by kernel_rfl
theorem T.en101 : entersB Tryz.prog 101 = true := by kernel_rfl
theorem T.en102 : entersB Tryz.prog 102 = true := by kernel_rfl
theorem T.en103 : entersB Tryz.prog 103 = true := by kernel_rfl
theorem T.en104 : entersB Tryz.prog 104 = true := by kernel_rfl
theorem T.en105 : entersB Tryz.prog 105 = true := by kernel_rfl
theorem T.en106 : entersB Tryz.prog 106 = true := by kernel_rfl
theorem T.en107 : entersB Tryz.prog 107 = true := by kernel_rfl
theorem T.en108 : entersB Tryz.prog 108 = true := by kernel_rfl
theorem T.en109 : entersB Tryz.prog 109 = true := by kernel_rfl
theorem T.en110 : entersB Tryz.prog 110 = true := by kernel_rfl
theorem T.en111 : entersB Tryz.prog 111 = true := by kernel_rfl
theorem T.en112 : entersB Tryz.prog 112 = true := by kernel_rfl
theorem T.en113 : entersB Tryz.prog 113 = true := by kernel_rfl
theorem T.en114 : entersB Tryz.prog 114 = true := by kernel_rfl
theorem T.en115 : entersB Tryz.prog 115 = true := by kernel_rfl
theorem T.en116 : entersB Tryz.prog 116 = true := by kernel_rfl
theorem T.en117 : entersB Tryz.prog 117 = true := by kernel_rfl
theorem T.en118 : entersB Tryz.prog 118 = true := by kernel_rfl
theorem T.en119 : entersB Tryz.prog 119 = true := by kernel_rfl
theorem T.en120 : entersB Tryz.prog 120 = true := by kernel_rfl
theorem T.en121 : entersB Tryz.prog 121 = true := by kernel_rfl
theorem T.en122 : entersB Tryz.prog 122 = true := by kernel_rfl
theorem T.en123 : entersB Tryz.prog 123 = true := by kernel_rfl
theorem T.en124 : entersB Tryz.prog 124 = true := by kernel_rfl
theorem T.en125 : entersB Tryz.prog 125 = true := by kernel_rfl
theorem T.en126 : entersB Tryz.prog 126 = true := by kernel_rfl
theorem T.en127 : entersB Tryz.prog 127 = true := by kernel_rfl
theorem T.en128 : entersB Tryz.prog 128 = true := by kernel_rfl
theorem T.en129 : entersB Tryz.prog 129 = true := by kernel_rfl
theorem T.en130 : entersB Tryz.prog 130 = true := by kernel_rfl
theorem T.en131 : entersB Tryz.prog 131 = true := by kernel_rfl
theorem T.en132 : entersB Tryz.prog 132 = true := by kernel_rfl
theorem T.en133 : entersB Tryz.prog 133 = true := by kernel_rfl
theorem T.en134 : entersB Tryz.prog 134 = true := by kernel_rfl
theorem T.en135 : entersB Tryz.prog 135 = true := by kernel_rfl
theorem T.en136 : entersB Tryz.prog 136 = true := by kernel_rfl
theorem T.en137 : entersB Tryz.prog 137 = true := by kernel_rfl
theorem T.en138 : entersB Tryz.prog 138 = true := by kernel_rfl
theorem T.en139 : entersB Tryz.prog 139 = true := by kernel_rfl
theorem T.en140 : entersB Tryz.prog 140 = true := by kernel_rfl
theorem T.en141 : entersB Tryz.prog 141 = true := by kernel_rfl
theorem T.en142 : entersB Tryz.prog 142 = true := by kernel_rfl
theorem T.en143 : entersB Tryz.prog 143 = true := by kernel_rfl
theorem T.en144 : entersB Tryz.prog 144 = true := by kernel_rfl
theorem T.en145 : entersB Tryz.prog 145 = true := by kernel_rfl
theorem T.en146 : entersB Tryz.prog 146 = true := by kernel_rfl
theorem T.en147 : entersB Tryz.prog 147 = true := by kernel_rfl
theorem T.en148 : entersB Tryz.prog 148 = true := by kernel_rfl
theorem T.en149 : entersB Tryz.prog 149 = true := by kernel_rfl
theorem T.en150 : entersB Tryz.prog 150 = true := by kernel_rfl
theorem T.en151 : entersB Tryz.prog 151 = true := by kernel_rfl
theorem T.en152 : entersB Tryz.prog 152 = true := by kernel_rfl
theorem T.en153 : entersB Tryz.prog 153 = true := by kernel_rfl
theorem T.en154 : entersB Tryz.prog 154 = true := by kernel_rfl
theorem T.en155 : entersB Tryz.prog 155 = true := by kernel_rfl
theorem T.en156 : entersB Tryz.prog 156 = true := by kernel_rfl
theorem T.en157 : entersB Tryz.prog 157 = true := by kernel_rfl
theorem T.en158 : entersB Tryz.prog 158 = true := by kernel_rfl
theorem T.en159 : entersB Tryz.prog 159 = true := by kernel_rfl
theorem T.en160 : entersB Tryz.prog 160 = true := by kernel_rfl
theorem T.en161 : entersB Tryz.prog 161 = true := by kernel_rfl
theorem T.en162 : entersB Tryz.prog 162 = true := by kernel_rfl
theorem T.en163 : entersB Tryz.prog 163 = true := by kernel_rfl
theorem T.en164 : entersB Tryz.prog 164 = true := by kernel_rfl
theorem T.en165 : entersB Tryz.prog 165 = true := by kernel_rfl
theorem T.en166 : entersB Tryz.prog 166 = true := by kernel_rfl
theorem T.en167 : entersB Tryz.prog 167 = true := by kernel_rfl
theorem T.en168 : entersB Tryz.prog 168 = true := by kernel_rfl
theorem T.en169 : entersB Tryz.prog 169 = true := by kernel_rfl
theorem T.en170 : entersB Tryz.prog 170 = true := by kernel_rfl
theorem T.en171 : entersB Tryz.prog 171 = true := by kernel_rfl
theorem T.en172 : entersB Tryz.prog 172 = true := by kernel_rfl
theorem T.en173 : entersB Tryz.prog 173 = true := by kernel_rfl
theorem T.en174 : entersB Tryz.prog 174 = true := by kernel_rfl
theorem T.en175 : entersB Tryz.prog 175 = true := by kernel_rfl
theorem T.en177 : entersB Tryz.prog 177 = true := by kernel_rfl
theorem T.en178 : entersB Tryz.prog 178 = true := by kernel_rfl
theorem T.en179 : entersB Tryz.prog 179 = true := by kernel_rfl
theorem T.en180 : entersB Tryz.prog 180 = true := by kernel_rfl
theorem T.en181 : entersB Tryz.prog 181 = true := by kernel_rfl
theorem T.en182 : entersB Tryz.prog 182 = true := by kernel_rfl
theorem T.en183 : entersB Tryz.prog 183 = true := by kernel_rfl
theorem T.en184 : entersB Tryz.prog 184 = true := by kernel_rfl
theorem T.en185 : entersB Tryz.prog 185 = true := by kernel_rfl
theorem T.en190 : entersB Tryz.prog 190 = true := by kernel_rfl
theorem T.en191 : entersB Tryz.prog 191 = true := by kernel_rfl
theorem T.en192 : entersB Tryz.prog 192 = true := by kernel_rfl
theorem T.en193 : entersB Tryz.prog 193 = true := by kernel_rfl
theorem T.en194 : entersB Tryz.prog 194 = true := by kernel_rfl
theorem T.en195 : entersB Tryz.prog 195 = true := by kernel_rfl
theorem T.en196 : entersB Tryz.prog 196 = true := by kernel_rfl
theorem T.en197 : entersB Tryz.prog 197 = true := by kernel_rfl
theorem T.en198 : entersB Tryz.prog 198 = true := by kernel_rfl
theorem T.en199 : entersB Tryz.prog 199 = true := by kernel_rfl
theorem T.en202 : entersB Tryz.prog 202 = true := by kernel_rfl
theorem T.en203 : entersB Tryz.prog 203 = true := by kernel_rfl
theorem T.en204 : entersB Tryz.prog 204 = true := by kernel_rfl
theorem T.en205 : entersB Tryz.prog 205 = true := by kernel_rfl
theorem T.en206 : entersB Tryz.prog 206 = true := by kernel_rfl
theorem T.en207 : entersB Tryz.prog 207 = true := by kernel_rfl
theorem T.mixed : Tryz.prog.follows .mixedOrders = true := by kernel_rfl
end Go.Proofs.YtkochmppmpmddaaGreat

/-! Bb -/
namespace Go.Proofs.YtkochmppmpmddaaGreat
open Go.Abs
set_option linter.unusedVariables false
set_option linter.unusedSimpArgs false
set_option maxRecDepth 100000
set_option maxHeartbeats 400000
structure Span where
  From : Int
  Until : Int
structure Rule where
  ID : Int
  Class : Int
  Years : Int
  YearEnd : Bool
  In : Span
instance : Inhabited Rule := ⟨⟨0, 0, 0, false, ⟨0, 0⟩⟩⟩
def Span.enc (s : Span) : List D := [I s.From, I s.Until]
def Rule.enc (r : Rule) : List D := [I r.ID, I r.Class, I r.Years, B r.YearEnd, I r.In.From, I r.In.Until]
attribute [go_sem] Span.enc Rule.enc
def spanOk (s : Span) : Bool := decide (0 ≤ s.From) && decide (s.From < s.Until) && decide (s.Until ≤ 1048576)
theorem closure_span_cs (σ : List Blk) (s : Span) : CSF Tryz.prog 116 [.agg (s.enc.map .d)] σ (.d (B (spanOk s))) := by
  refine CSF.of_body T.en116 Tryz.func116 rfl (by simp [Tryz.ntmps116]) (by simp [go_sem]) fun hwf => ?_
  refine awp_reg_seq fun K hK => ?_
  simp [go_sem, Tryz.ntmps116]
  repeat refine ⟨by omega, ?_⟩
  refine hK _ ?_; clear hK K
  refine awp_reg_seq fun K hK => ?_
  simp [go_sem]
  repeat refine ⟨by omega, ?_⟩
  refine hK _ ?_; clear hK K
  refine awp_ret ?_
  simp [go_sem, Tryz.results116, spanOk] <;> omega
def formed (r : Rule) : Bool := decide (1 ≤ r.ID) && decide (r.ID ≤ 1073741824) && decide (1 ≤ r.Class) && decide (r.Class ≤ 999) && decide (0 ≤ r.Years) && decide (r.Years ≤ 200) && spanOk r.In
theorem closure_formed_cs (σ : List Blk) (r : Rule) : CSF Tryz.prog 78 [.agg (r.enc.map .d)] σ (.d (B (formed r))) := by
  refine CSF.of_body T.en78 Tryz.func78 rfl (by simp [Tryz.ntmps78]) (by simp [go_sem]) fun hwf => ?_
  refine awp_reg_seq fun K hK => ?_
  simp [go_sem, Tryz.ntmps78]
  repeat refine ⟨by omega, ?_⟩
  refine hK _ ?_; clear hK K
  refine awp_reg_seq fun K hK => ?_
  simp [go_sem]
  repeat refine ⟨by omega, ?_⟩
  refine CSm.mk (closure_span_cs _ r.In) ?_
  simp [go_sem]
  repeat refine ⟨by omega, ?_⟩
  refine hK _ ?_; clear hK K
  refine awp_ret ?_
  simp [go_sem, Tryz.results78, formed] <;> omega
theorem indexRule_cs (σ : List Blk) (c : Option Nat) (n : Nat) (g : Nat → Rule) (f : FuncId) (cap : List AV) (p : Rule → Bool) (hn : n < 1000000000) (hf : ∀ i, i < n → CSF Tryz.prog f (.agg ((g i).enc.map .d) :: cap) σ (.d (B (p (g i))))) : CSF Tryz.prog 117 [.d (SL c 6 Rule.enc n g), .clo (.func f) [] cap] σ (.d (I (idxFrom p (lst n g) 0))) := by
  refine CSF.of_body T.en117 Tryz.func117 rfl (by simp [Tryz.ntmps117]) (by simp [go_sem]) fun hwf => ?_
  refine awp_reg_seq fun K hK => ?_
  simp [go_sem, Tryz.ntmps117]
  repeat refine ⟨by omega, ?_⟩
  refine hK _ ?_; clear hK K
  refine awp_seq ?_
  refine awp_reg_seq fun K hK => ?_
  simp [go_sem]
  repeat refine ⟨by omega, ?_⟩
  refine hK _ ?_; clear hK K
  refine awp_block ?_
  refine awp_forget [0, 1, 7, 8] (by simp [go_sem, restr]; rfl) ?_
  refine awp_loopU (α := Nat) (fun i => [(8, .d (I i))]) (fun i => _) (fun i => i ≤ n ∧ idxFrom p (lst n g) 0 = idxFrom p ((lst n g).drop i) i) (fun i => n - i) 0 (by simp [go_sem]) rfl (by simp) ?_
  rintro i ⟨hi, hx⟩
  refine awp_reg_seq fun K hK => ?_
  simp [go_sem]
  repeat refine ⟨by omega, ?_⟩
  refine hK _ ?_; clear hK K
  refine awp_seq ?_
  refine awp_cond rfl (fun c0 => ?_) (fun c0 => ?_)
  · have d0 := c0; try simp at d0
    rw [drop_lst d0, idxFrom] at hx
    refine awp_skip ?_
    refine awp_seq ?_
    refine awp_block ?_
    refine awp_reg_seq fun K hK => ?_
    simp [go_sem, c0, d0]
    repeat refine ⟨by omega, ?_⟩
    refine hK _ ?_; clear hK K
    refine awp_reg_seq fun K hK => ?_
    simp [go_sem, c0, d0]
    repeat refine ⟨by omega, ?_⟩
    refine CSk.mk (hf i d0) ?_
    simp [go_sem, c0, d0]
    repeat refine ⟨by omega, ?_⟩
    refine hK _ ?_; clear hK K
    refine awp_cond rfl (fun c1 => ?_) (fun c1 => ?_)
    · have d1 := c1; try simp at d1
      refine awp_reg_seq fun K hK => ?_
      simp [go_sem, c0, d0, c1, d1]
      repeat refine ⟨by omega, ?_⟩
      refine hK _ ?_; clear hK K
      refine awp_ret ?_
      simp [go_sem, Tryz.results117, hx, c0, d0, c1, d1] <;> omega
    · have d1 := c1; try simp at d1
      refine awp_skip ?_
      refine awp_reg_end fun K hK => ?_
      simp [go_sem, c0, d0, c1, d1]
      try simp (disch := omega) only [wrapI]
      repeat refine ⟨by omega, ?_⟩
      refine hK _ ?_; clear hK K
      refine ⟨i + 1, back_of' (by simp) (.refl _) (by simp [go_sem, wrap_succ (i := i) (by omega), c0, d0, c1, d1]), ⟨by omega, by rw [hx, c1]; simp⟩, by omega⟩
  · have d0 := c0; try simp at d0
    rw [drop_all d0, idxFrom] at hx
    refine awp_exit ?_
    refine awp_reg_seq fun K hK => ?_
    simp [go_sem, c0, d0]
    repeat refine ⟨by omega, ?_⟩
    refine hK _ ?_; clear hK K
    refine awp_ret ?_
    simp [go_sem, Tryz.results117, hx, c0, d0] <;> omega
theorem containsRule_cs (σ : List Blk) (c : Option Nat) (n : Nat) (g : Nat → Rule) (f : FuncId) (cap : List AV) (p : Rule → Bool) (hn : n < 1000000000) (hf : ∀ i, i < n → CSF Tryz.prog f (.agg ((g i).enc.map .d) :: cap) σ (.d (B (p (g i))))) : CSF Tryz.prog 79 [.d (SL c 6 Rule.enc n g), .clo (.func f) [] cap] σ (.d (B ((lst n g).any p))) := by
  refine CSF.of_body T.en79 Tryz.func79 rfl (by simp [Tryz.ntmps79]) (by simp [go_sem]) fun hwf => ?_
  refine awp_reg_seq fun K hK => ?_
  simp [go_sem, Tryz.ntmps79]
  repeat refine ⟨by omega, ?_⟩
  refine hK _ ?_; clear hK K
  refine awp_reg_seq fun K hK => ?_
  simp [go_sem]
  repeat refine ⟨by omega, ?_⟩
  refine CSk.mk (indexRule_cs _ c n g f cap p hn hf) ?_
  simp [go_sem]
  repeat refine ⟨by omega, ?_⟩
  refine hK _ ?_; clear hK K
  refine awp_ret ?_
  simp [go_sem, Tryz.results79, idx_any] <;> omega
def clash (r o : Rule) : Bool := (o.Class == r.Class) && decide (o.In.From < r.In.Until) && decide (r.In.From < o.In.Until)
theorem closure_Check_1_cs (σ : List Blk) (τ : List Blk) (r o : Rule) : CSF Tryz.prog 80 [.agg (o.enc.map .d), .ptr τ.length 0] (τ ++ .var (r.enc.map .d) :: σ) (.d (B (clash r o))) := by
  refine CSF.of_body T.en80 Tryz.func80 rfl (by simp [Tryz.ntmps80]) (by simp [go_sem]) fun hwf => ?_
  refine awp_reg_seq fun K hK => ?_
  simp [go_sem, Tryz.ntmps80]
  repeat refine ⟨by omega, ?_⟩
  refine hK _ ?_; clear hK K
  refine awp_reg_seq fun K hK => ?_
  simp [go_sem]
  repeat refine ⟨by omega, ?_⟩
  refine hK _ ?_; clear hK K
  refine awp_ret ?_
  simp [go_sem, Tryz.results80, clash] <;> omega
def chkF (g : Nat → Rule) (i : Nat) : Nat → Int
  | 0 => 0
  | k + 1 => if formed (g i) = false then 2 else if (decide (0 < i) && decide ((g i).ID ≤ (g (i - 1)).ID)) = true then 5 else if (lst i g).any (clash (g i)) = true then 6 else chkF g (i + 1) k
def check (n : Nat) (g : Nat → Rule) : Int := if 64 < n then 8 else chkF g 0 n
theorem closure_Check_cs (σ : List Blk) (c : Option Nat) (n : Nat) (g : Nat → Rule) (hn : n < 1000000000) : CSF Tryz.prog 47 [.d (SL c 6 Rule.enc n g)] σ (.d (I (check n g))) := by
  refine CSF.of_body T.en47 Tryz.func47 rfl (by simp [Tryz.ntmps47]) (by simp [go_sem]) fun hwf => ?_
  refine awp_reg_seq fun K hK => ?_
  simp [go_sem, Tryz.ntmps47]
  repeat refine ⟨by omega, ?_⟩
  refine hK _ ?_; clear hK K
  refine awp_seq ?_
  refine awp_reg_seq fun K hK => ?_
  simp [go_sem]
  repeat refine ⟨by omega, ?_⟩
  refine hK _ ?_; clear hK K
  refine awp_cond rfl (fun c0 => ?_) (fun c0 => ?_)
  · have d0 := c0; try simp at d0
    refine awp_reg_seq fun K hK => ?_
    simp [go_sem, c0, d0]
    repeat refine ⟨by omega, ?_⟩
    refine hK _ ?_; clear hK K
    refine awp_ret ?_
    simp [go_sem, Tryz.results47, check, c0, d0] <;> omega
  · have d0 := c0; try simp at d0
    refine awp_skip ?_
    refine awp_seq ?_
    refine awp_reg_seq fun K hK => ?_
    simp [go_sem, c0, d0]
    repeat refine ⟨by omega, ?_⟩
    refine hK _ ?_; clear hK K
    refine awp_block ?_
    refine awp_forget [0, 8, 9, 10] (by simp [go_sem, restr]; rfl) ?_
    refine awp_loopU (α := Nat) (fun i => [(10, .d (I i))]) (fun i => _) (fun i => i ≤ n ∧ chkF g 0 n = chkF g i (n - i)) (fun i => n - i) 0 (by simp [go_sem]) rfl (by simp) ?_
    rintro i ⟨hi, hx⟩
    refine awp_reg_seq fun K hK => ?_
    simp [go_sem, c0, d0, hi, wrap_pred (i := i) (by omega)]
    repeat refine ⟨by omega, ?_⟩
    refine hK _ ?_; clear hK K
    refine awp_seq ?_
    refine awp_cond rfl (fun c1 => ?_) (fun c1 => ?_)
    · have d1 := c1; try simp at d1
      obtain ⟨k, hk⟩ : ∃ k, n - i = k + 1 := ⟨n - i - 1, by omega⟩
      have hk' : n - (i + 1) = k := by omega
      rw [hk, chkF] at hx
      refine awp_skip ?_
      refine awp_seq ?_
      refine awp_block ?_
      refine awp_reg_seq fun K hK => ?_
      simp [go_sem, c0, d0, hi, wrap_pred (i := i) (by omega), c1, d1]
      repeat refine ⟨by omega, ?_⟩
      refine hK _ ?_; clear hK K
      refine awp_block ?_
      refine awp_reg_seq fun K hK => ?_
      simp [go_sem, c0, d0, hi, wrap_pred (i := i) (by omega), c1, d1]
      repeat refine ⟨by omega, ?_⟩
      refine CSk.mk (closure_formed_cs _ _) ?_
      simp [go_sem, c0, d0, hi, wrap_pred (i := i) (by omega), c1, d1]
      repeat refine ⟨by omega, ?_⟩
      refine hK _ ?_; clear hK K
      refine awp_cond rfl (fun c2 => ?_) (fun c2 => ?_)
      · have d2 := c2; try simp at d2
        refine awp_reg_seq fun K hK => ?_
        simp [go_sem, c0, d0, hi, wrap_pred (i := i) (by omega), c1, d1, c2, d2]
        repeat refine ⟨by omega, ?_⟩
        refine hK _ ?_; clear hK K
        refine awp_ret ?_
        simp [go_sem, Tryz.results47, check, hx, c0, d0, hi, wrap_pred (i := i) (by omega), c1, d1, c2, d2] <;> omega
      · have d2 := c2; try simp at d2
        refine awp_draw_seq 14 T.mixed (by kernel_rfl) fun K hK => ?_
        simp [go_sem, c0, d0, hi, wrap_pred (i := i) (by omega), c1, d1, c2, d2]
        try simp (disch := omega) only [wrapI]
        repeat refine ⟨by omega, ?_⟩
        refine hK _ ?_; clear hK K
        refine awp_cond rfl (fun c3 => ?_) (fun c3 => ?_)
        · have d3 := c3; try simp at d3
          refine awp_reg_seq fun K hK => ?_
          simp [go_sem, c0, d0, hi, wrap_pred (i := i) (by omega), c1, d1, c2, d2, c3, d3]
          repeat refine ⟨by omega, ?_⟩
          refine hK _ ?_; clear hK K
          refine awp_ret ?_
          simp [go_sem, Tryz.results47, check, hx, c0, d0, hi, wrap_pred (i := i) (by omega), c1, d1, c2, d2, c3, d3] <;> omega
        · have d3 := c3; try simp at d3
          refine awp_reg_seq fun K hK => ?_
          simp [go_sem, c0, d0, hi, wrap_pred (i := i) (by omega), c1, d1, c2, d2, c3, d3]
          repeat refine ⟨by omega, ?_⟩
          refine CSk.mk (containsRule_cs _ _ i g _ _ (clash (g i)) (by omega) (fun q hq => closure_Check_1_cs [] σ (g i) (g q))) ?_
          simp [go_sem, c0, d0, hi, wrap_pred (i := i) (by omega), c1, d1, c2, d2, c3, d3]
          repeat refine ⟨by omega, ?_⟩
          refine hK _ ?_; clear hK K
          refine awp_cond rfl (fun c4 => ?_) (fun c4 => ?_)
          · have d4 := c4; try simp at d4
            refine awp_reg_seq fun K hK => ?_
            simp [go_sem, c0, d0, hi, wrap_pred (i := i) (by omega), c1, d1, c2, d2, c3, d3, c4, d4]
            repeat refine ⟨by omega, ?_⟩
            refine hK _ ?_; clear hK K
            refine awp_ret ?_
            simp [go_sem, Tryz.results47, check, hx, c0, d0, hi, wrap_pred (i := i) (by omega), c1, d1, c2, d2, c3, d3, c4, d4] <;> omega
          · have d4 := c4; try simp at d4
            refine awp_skip ?_
            refine awp_reg_end fun K hK => ?_
            simp [go_sem, c0, d0, hi, wrap_pred (i := i) (by omega), c1, d1, c2, d2, c3, d3, c4, d4]
            try simp (disch := omega) only [wrapI]
            repeat refine ⟨by omega, ?_⟩
            refine hK _ ?_; clear hK K
            refine ⟨i + 1, back_of' (by simp) (.refl _) (by simp [go_sem, wrap_succ (i := i) (by omega), c0, d0, hi, wrap_pred (i := i) (by omega), c1, d1, c2, d2, c3, d3, c4, d4]), ⟨by omega, by rw [hx, hk']; simp [d2, c3, c4]⟩, by omega⟩
    · have d1 := c1; try simp at d1
      obtain rfl : i = n := by omega
      rw [Nat.sub_self, chkF] at hx
      refine awp_exit ?_
      refine awp_reg_seq fun K hK => ?_
      simp [go_sem, c0, d0, hi, wrap_pred (i := i) (by omega), c1, d1]
      repeat refine ⟨by omega, ?_⟩
      refine hK _ ?_; clear hK K
      refine awp_ret ?_
      simp [go_sem, Tryz.results47, check, hx, c0, d0, hi, wrap_pred (i := i) (by omega), c1, d1] <;> omega
end Go.Proofs.YtkochmppmpmddaaGreat

/-! Pa -/
namespace Go.Arch
set_option linter.unusedVariables false
set_option linter.unusedSimpArgs false
def leapY (y : Int) : Bool := (y % 4 == 0) && ((y % 100 != 0) || (y % 400 == 0))
def lenM (y m : Int) : Int := if m = 2 then (if leapY y = true then 29 else 28) else if m = 4 ∨ m = 6 ∨ m = 9 ∨ m = 11 then 30 else 31
def lenF (y m : Int) : Int := if y < 1600 ∨ 4470 < y ∨ m < 1 ∨ 12 < m then 0 else lenM y m
def beg (y : Int) : Int := 365 * (y - 1600) + (y - 1600 + 3) / 4 - (y - 1600 + 99) / 100 + (y - 1600 + 399) / 400
def cum (y m : Int) : Int :=
  let l : Int := if leapY y = true then 1 else 0
  if m ≤ 1 then 0 else if m = 2 then 31 else if m = 3 then 59 + l else if m = 4 then 90 + l else if m = 5 then 120 + l else if m = 6 then 151 + l else if m = 7 then 181 + l
  else if m = 8 then 212 + l else if m = 9 then 243 + l else if m = 10 then 273 + l else if m = 11 then 304 + l else if m = 12 then 334 + l else 365 + l
theorem leap_or (y : Int) : leapY y = (((y % 4 == 0) && (y % 100 != 0)) || (y % 400 == 0)) := by
  unfold leapY
  by_cases h1 : y % 4 = 0
  · rw [h1]; rfl
  · have h2 : ¬ y % 400 = 0 := by omega
    rw [beq_false_of_ne h1, beq_false_of_ne h2]; rfl
theorem leap_iff (y : Int) : leapY y = true ↔ y % 4 = 0 ∧ (y % 100 ≠ 0 ∨ y % 400 = 0) := by simp [leapY]
theorem beg_succ (y : Int) : beg (y + 1) = beg y + 365 + (if leapY y = true then 1 else 0) := by
  unfold beg
  split
  · rename_i h
    rw [leap_iff] at h
    omega
  · rename_i h
    rw [leap_iff] at h
    have : ¬ y % 4 = 0 ∨ (y % 100 = 0 ∧ ¬ y % 400 = 0) := by
      by_cases h1 : y % 4 = 0
      · right; constructor
        · apply Classical.byContradiction; intro h2; exact h ⟨h1, .inl h2⟩
        · intro h2; exact h ⟨h1, .inr h2⟩
      · exact .inl h1
    omega
theorem beg_mono {a b : Int} (h : a ≤ b) : beg a ≤ beg b := by
  unfold beg; omega
theorem beg_strict {a b : Int} (h : a < b) : beg a + 365 ≤ beg b := by
  have h1 := beg_succ a
  have h2 := beg_mono (a := a + 1) (b := b) (by omega)
  split at h1 <;> omega
theorem before_eq {y : Int} (h : 1600 < y) : 365 * (y - 1600) + (y - 1600 - 1) / 4 + 1 - ((y - 1600 - 1) / 100 + 1) + (y - 1600 - 1) / 400 + 1 = beg y := by
  unfold beg; omega
theorem cum_succ {y m : Int} (h1 : 1 ≤ m) (h2 : m ≤ 12) : cum y (m + 1) = cum y m + lenM y m := by
  have : m = 1 ∨ m = 2 ∨ m = 3 ∨ m = 4 ∨ m = 5 ∨ m = 6 ∨ m = 7 ∨ m = 8 ∨ m = 9 ∨ m = 10 ∨ m = 11 ∨ m = 12 := by omega
  unfold cum lenM
  rcases this with rfl | rfl | rfl | rfl | rfl | rfl | rfl | rfl | rfl | rfl | rfl | rfl <;> by_cases hl : leapY y = true <;> simp [hl]
theorem lenM_pos (y m : Int) : 28 ≤ lenM y m := by
  unfold lenM; split
  · split <;> omega
  · split <;> omega
theorem lenM_le (y m : Int) : lenM y m ≤ 31 := by
  unfold lenM; split
  · split <;> omega
  · split <;> omega
theorem lenF_eq {y m : Int} (h1 : 1600 ≤ y) (h2 : y ≤ 4470) (h3 : 1 ≤ m) (h4 : m ≤ 12) : lenF y m = lenM y m := by
  unfold lenF; rw [if_neg (by omega)]
theorem cum_one (y : Int) : cum y 1 = 0 := by simp [cum]
theorem cum_end (y : Int) : cum y 13 = 365 + (if leapY y = true then 1 else 0) := by simp [cum]
theorem beg_cum (y : Int) : beg (y + 1) = beg y + cum y 13 := by rw [beg_succ, cum_end]; omega
def yearUp (d y : Int) : Nat → Int
  | 0 => y
  | n + 1 => if beg (y + 1) ≤ d then yearUp d (y + 1) n else y
def yearOf (d : Int) : Int := yearUp d 1600 3000
theorem yearUp_spec (d : Int) : ∀ (n : Nat) (y : Int), beg y ≤ d → d < beg (y + n + 1) → beg (yearUp d y n) ≤ d ∧ d < beg (yearUp d y n + 1)
  | 0, y, h1, h2 => ⟨h1, by simpa [yearUp] using h2⟩
  | n + 1, y, h1, h2 => by
    simp only [yearUp]
    split
    · rename_i h
      exact yearUp_spec d n (y + 1) h (by have e : y + 1 + (n : Int) + 1 = y + ((n + 1 : Nat) : Int) + 1 := by omega
                                          rw [e]; exact h2)
    · exact ⟨h1, by omega⟩
theorem beg_far : beg 4600 = 1095728 := by simp [beg]
theorem yearOf_spec {d : Int} (h1 : 0 ≤ d) (h2 : d ≤ 1048575) : beg (yearOf d) ≤ d ∧ d < beg (yearOf d + 1) := by
  have h3 : d < beg (1600 + (3000 : Nat) + 1) := by
    have := beg_mono (a := 4600) (b := 1600 + (3000 : Nat) + 1) (by decide)
    rw [beg_far] at this; omega
  exact yearUp_spec d 3000 1600 (by simpa [beg] using h1) h3
theorem year_unique {d a b : Int} (h1 : beg a ≤ d) (h2 : d < beg (a + 1)) (h3 : beg b ≤ d) (h4 : d < beg (b + 1)) : a = b := by
  rcases Int.lt_trichotomy a b with h | h | h
  · have := beg_mono (a := a + 1) (b := b) (by omega); omega
  · exact h
  · have := beg_mono (a := b + 1) (b := a) (by omega); omega
theorem yearOf_eq {d y : Int} (h1 : 0 ≤ d) (h2 : d ≤ 1048575) (h3 : beg y ≤ d) (h4 : d < beg (y + 1)) : yearOf d = y :=
  year_unique (yearOf_spec h1 h2).1 (yearOf_spec h1 h2).2 h3 h4
theorem beg_1600 : beg 1600 = 0 := by simp [beg]
theorem beg_4471 : beg 4471 = 1048612 := by simp [beg]
theorem beg_4470 : beg 4470 = 1048247 := by simp [beg]
theorem yearOf_range {d : Int} (h1 : 0 ≤ d) (h2 : d ≤ 1048575) : 1600 ≤ yearOf d ∧ yearOf d ≤ 4470 := by
  have h := yearOf_spec h1 h2
  constructor
  · apply Classical.byContradiction; intro hn
    have := beg_mono (a := yearOf d + 1) (b := 1600) (by omega)
    rw [beg_1600] at this; omega
  · apply Classical.byContradiction; intro hn
    have := beg_mono (a := 4471) (b := yearOf d) (by omega)
    rw [beg_4471] at this; omega
def monUp (y r m : Int) : Nat → Int
  | 0 => m
  | n + 1 => if cum y (m + 1) ≤ r then monUp y r (m + 1) n else m
def monOf (y r : Int) : Int := monUp y r 1 12
theorem monUp_spec (y r : Int) : ∀ (n : Nat) (m : Int), 1 ≤ m → m + n = 13 → cum y m ≤ r → r < cum y 13 → 1 ≤ monUp y r m n ∧ monUp y r m n ≤ 12 ∧ cum y (monUp y r m n) ≤ r ∧ r < cum y (monUp y r m n + 1)
  | 0, m, h0, h1, h2, h3 => by
    have : m = 13 := by omega
    subst this; omega
  | n + 1, m, h0, h1, h2, h3 => by
    simp only [monUp]
    split
    · rename_i h
      exact monUp_spec y r n (m + 1) (by omega) (by omega) h h3
    · exact ⟨h0, by omega, h2, by omega⟩
theorem monOf_spec {y r : Int} (h1 : 0 ≤ r) (h2 : r < cum y 13) : 1 ≤ monOf y r ∧ monOf y r ≤ 12 ∧ cum y (monOf y r) ≤ r ∧ r < cum y (monOf y r + 1) :=
  monUp_spec y r 12 1 (by omega) (by omega) (by rw [cum_one]; exact h1) h2
theorem cum_mono {y a b : Int} (h : a ≤ b) : cum y a ≤ cum y b := by
  unfold cum
  by_cases hl : leapY y = true <;> simp only [hl, if_true, if_false, Bool.false_eq_true] <;> (repeat' split) <;> omega
theorem month_unique {y r a b : Int} (h1 : cum y a ≤ r) (h2 : r < cum y (a + 1)) (h3 : cum y b ≤ r) (h4 : r < cum y (b + 1)) : a = b := by
  rcases Int.lt_trichotomy a b with h | h | h
  · have := cum_mono (y := y) (a := a + 1) (b := b) (by omega); omega
  · exact h
  · have := cum_mono (y := y) (a := b + 1) (b := a) (by omega); omega
def monD (d : Int) : Int := monOf (yearOf d) (d - beg (yearOf d))
def dayD (d : Int) : Int := d - beg (yearOf d) - cum (yearOf d) (monD d) + 1
theorem date_spec {d : Int} (h1 : 0 ≤ d) (h2 : d ≤ 1048575) : 1 ≤ monD d ∧ monD d ≤ 12 ∧ 1 ≤ dayD d ∧ dayD d ≤ lenM (yearOf d) (monD d) ∧ d = beg (yearOf d) + cum (yearOf d) (monD d) + dayD d - 1 := by
  have hy := yearOf_spec h1 h2
  rw [beg_cum] at hy
  have hm := monOf_spec (y := yearOf d) (r := d - beg (yearOf d)) (by omega) (by omega)
  have hc := cum_succ (y := yearOf d) hm.1 hm.2.1
  unfold dayD monD
  omega
def ofD (y m k : Int) : Int := beg y + cum y m + k - 1
def yearsF (d n : Int) : Int :=
  let y := yearOf d + n
  if 4470 < y then 1048575 else
    let t := ofD y (monD d) (min (dayD d) (lenM y (monD d)))
    if 1048575 < t then 1048575 else t
def yearEndF (d : Int) : Int := min (beg (yearOf d + 1) - 1) 1048575
end Go.Arch

/-! Bc -/
namespace Go.Proofs.YtkochmppmpmddaaGreat
open Go.Abs Go.Arch
set_option linter.unusedVariables false
set_option linter.unusedSimpArgs false
set_option maxRecDepth 100000
set_option maxHeartbeats 400000
theorem lenF_out {y m : Int} (h : ((y < 1600 ∨ 4470 < y) ∨ m < 1) ∨ 12 < m) : lenF y m = 0 := by unfold lenF; rw [if_pos (by omega)]
theorem lenF_in {y m : Int} (h : ((1600 ≤ y ∧ y ≤ 4470) ∧ 1 ≤ m) ∧ m ≤ 12) : lenF y m = lenM y m := by unfold lenF; rw [if_neg (by omega)]
theorem lenM_arr {y m : Int} (h1 : 1 ≤ m) (h2 : m ≤ 12) (h : m = 2 → leapY y = false) : loaded false (((([31, 28, 31, 30, 31, 30, 31, 31, 30, 31, 30, 31] : List Int).map fun n => AV.d (I n)).drop ((m - 1).toNat * 1)).take 1) = .d (I (lenM y m)) := by
  have hc : m = 1 ∨ m = 2 ∨ m = 3 ∨ m = 4 ∨ m = 5 ∨ m = 6 ∨ m = 7 ∨ m = 8 ∨ m = 9 ∨ m = 10 ∨ m = 11 ∨ m = 12 := by omega
  rcases hc with rfl | rfl | rfl | rfl | rfl | rfl | rfl | rfl | rfl | rfl | rfl | rfl <;> first | rfl | (simp [h, lenM]; rfl)
theorem lenM_feb {y : Int} (h : leapY y = true) : lenM y 2 = 29 := by simp [lenM, h]
theorem day_leap_cs (σ : List Blk) (y : Int) (hy : 0 ≤ y) : CSF Tryz.prog 182 [.d (I y)] σ (.d (B (leapY y))) := by
  refine CSF.of_body T.en182 Tryz.func182 rfl (by simp [Tryz.ntmps182]) (by simp [go_sem]) fun hwf => ?_
  refine awp_reg_seq fun K hK => ?_
  simp [go_sem, Tryz.ntmps182]
  repeat refine ⟨by omega, ?_⟩
  refine hK _ ?_; clear hK K
  refine awp_reg_seq fun K hK => ?_
  simp [go_sem]
  try simp (disch := omega) only [tmodI]
  repeat refine ⟨by omega, ?_⟩
  refine hK _ ?_; clear hK K
  refine awp_ret ?_
  simp [go_sem, Tryz.results182, leapY, Int.tmod_eq_emod_of_nonneg hy] <;> omega
def isDay (d : Int) : Prop := 0 ≤ d ∧ d ≤ 1048575
instance (d : Int) : Decidable (isDay d) := inferInstanceAs (Decidable (_ ∧ _))
theorem isDay_dec (d : Int) : decide (isDay d) = (decide (0 ≤ d) && decide (d ≤ 1048575)) := by
  unfold isDay; exact Bool.decide_and ..
theorem day_is_cs (σ : List Blk) (d : Int) : CSF Tryz.prog 181 [.d (I d)] σ (.d (B (decide (isDay d)))) := by
  refine CSF.of_body T.en181 Tryz.func181 rfl (by simp [Tryz.ntmps181]) (by simp [go_sem]) fun hwf => ?_
  refine awp_reg_seq fun K hK => ?_
  simp [go_sem, Tryz.ntmps181]
  repeat refine ⟨by omega, ?_⟩
  refine hK _ ?_; clear hK K
  refine awp_reg_seq fun K hK => ?_
  simp [go_sem]
  repeat refine ⟨by omega, ?_⟩
  refine hK _ ?_; clear hK K
  refine awp_ret ?_
  simp [go_sem, Tryz.results181, isDay_dec] <;> omega
theorem day_begin_cs (σ : List Blk) (y : Int) (h1 : 1600 ≤ y) (h2 : y ≤ 4700) : CSF Tryz.prog 170 [.d (I y)] σ (.d (I (beg y))) := by
  refine CSF.of_body T.en170 Tryz.func170 rfl (by simp [Tryz.ntmps170]) (by simp [go_sem]) fun hwf => ?_
  refine awp_reg_seq fun K hK => ?_
  simp [go_sem, Tryz.ntmps170]
  repeat refine ⟨by omega, ?_⟩
  refine hK _ ?_; clear hK K
  refine awp_reg_seq fun K hK => ?_
  simp [go_sem]
  try simp (disch := omega) only [wrapI]
  repeat refine ⟨by omega, ?_⟩
  refine hK _ ?_; clear hK K
  refine awp_reg_seq fun K hK => ?_
  simp [go_sem]
  try simp (disch := omega) only [tdivI, wrapI]
  repeat refine ⟨by omega, ?_⟩
  refine hK _ ?_; clear hK K
  refine awp_ret ?_
  simp [go_sem, Tryz.results170, beg] <;> omega
theorem day_lengths_cs (σ : List Blk)  : CSF Tryz.prog 183 [] σ (.agg ([31, 28, 31, 30, 31, 30, 31, 31, 30, 31, 30, 31].map fun n => .d (I n))) := by
  refine CSF.of_body T.en183 Tryz.func183 rfl (by simp [Tryz.ntmps183]) (by simp [go_sem]) fun hwf => ?_
  refine awp_reg_seq fun K hK => ?_
  simp [go_sem, Tryz.ntmps183]
  repeat refine ⟨by omega, ?_⟩
  refine hK _ ?_; clear hK K
  refine awp_reg_seq fun K hK => ?_
  simp [go_sem]
  repeat refine ⟨by omega, ?_⟩
  refine hK _ ?_; clear hK K
  refine awp_ret ?_
  simp [go_sem, Tryz.results183] <;> omega
theorem day_Length_cs (σ : List Blk) (y m : Int) : CSF Tryz.prog 169 [.d (I y), .d (I m)] σ (.d (I (lenF y m))) := by
  refine CSF.of_body T.en169 Tryz.func169 rfl (by simp [Tryz.ntmps169]) (by simp [go_sem]) fun hwf => ?_
  refine awp_reg_seq fun K hK => ?_
  simp [go_sem, Tryz.ntmps169]
  repeat refine ⟨by omega, ?_⟩
  refine hK _ ?_; clear hK K
  refine awp_seq ?_
  refine awp_reg_seq fun K hK => ?_
  simp [go_sem]
  repeat refine ⟨by omega, ?_⟩
  refine hK _ ?_; clear hK K
  refine awp_forget [0, 1, 18] (by simp only [restr, List.contains_cons, List.contains_nil, Nat.reduceBEq, Bool.or_false, Bool.or_true, Bool.true_or, Bool.false_or, if_true, if_false, Bool.false_eq_true]; rfl) ?_
  refine awp_cond rfl (fun c0 => ?_) (fun c0 => ?_)
  · have d0 := c0; try simp at d0
    refine awp_reg_seq fun K hK => ?_
    simp [go_sem, c0, d0]
    repeat refine ⟨by omega, ?_⟩
    refine hK _ ?_; clear hK K
    refine awp_ret ?_
    rw [lenF_out d0]; simp [go_sem, Tryz.results169]
  · have d0 := c0; try simp at d0
    refine awp_skip ?_
    refine awp_seq ?_
    refine awp_reg_seq fun K hK => ?_
    simp [go_sem, c0, d0]
    repeat refine ⟨by omega, ?_⟩
    refine CSm.mk (day_leap_cs _ y (by omega)) ?_
    simp [go_sem, c0, d0]
    repeat refine ⟨by omega, ?_⟩
    refine hK _ ?_; clear hK K
    refine awp_forget [1, 24] (by simp only [restr, List.contains_cons, List.contains_nil, Nat.reduceBEq, Bool.or_false, Bool.or_true, Bool.true_or, Bool.false_or, if_true, if_false, Bool.false_eq_true]; rfl) ?_
    refine awp_cond rfl (fun c1 => ?_) (fun c1 => ?_)
    · have d1 := c1; try simp at d1
      obtain ⟨rfl, d1⟩ := d1
      refine awp_reg_seq fun K hK => ?_
      simp [go_sem, c0, d0, c1, d1]
      repeat refine ⟨by omega, ?_⟩
      refine hK _ ?_; clear hK K
      refine awp_ret ?_
      rw [lenF_in (by omega), lenM_feb d1]; simp [go_sem, Tryz.results169]
    · have d1 := c1; try simp at d1
      refine awp_skip ?_
      refine awp_reg_seq fun K hK => ?_
      simp [go_sem, c0, d0, c1, d1]
      try simp (disch := omega) only [wrapI]
      repeat refine ⟨by omega, ?_⟩
      refine CSk.mk (day_lengths_cs _ ) ?_
      simp [go_sem, c0, d0, c1, d1]
      try simp (disch := omega) only [wrapI]
      have hL := lenM_arr (y := y) (m := m) (by omega) (by omega) d1
      simp [go_sem] at hL
      simp [go_sem, hL]
      repeat refine ⟨by omega, ?_⟩
      refine hK _ ?_; clear hK K
      refine awp_ret ?_
      rw [lenF_in (by omega)]; simp [go_sem, Tryz.results169]
def ofF (y m k : Int) : Int × Int := if k < 1 ∨ lenF y m < k then (0, 2) else if 1048575 < ofD y m k then (0, 2) else (ofD y m k, 0)
theorem lenF_ne {y m k : Int} (h1 : 1 ≤ k) (h2 : k ≤ lenF y m) : (1600 ≤ y ∧ y ≤ 4470) ∧ 1 ≤ m ∧ m ≤ 12 ∧ lenF y m = lenM y m := by
  unfold lenF at h2 ⊢
  split at h2
  · omega
  · rename_i h; rw [if_neg h]; exact ⟨by omega, by omega, by omega, rfl⟩
theorem beg_bd {y : Int} (h1 : 1600 ≤ y) (h2 : y ≤ 4700) : 0 ≤ beg y ∧ beg y ≤ 2000000 := by unfold beg; omega
theorem cum_bd (y : Int) {m : Int} (h1 : 1 ≤ m) (h2 : m ≤ 13) : 0 ≤ cum y m ∧ cum y m ≤ 400 := by
  have h3 := cum_mono (y := y) h1
  have h4 := cum_mono (y := y) h2
  rw [cum_one] at h3; rw [cum_end] at h4
  split at h4 <;> omega
theorem ofF_rng {y m k : Int} (h : 1 ≤ k ∧ k ≤ lenF y m) : ofF y m k = if 1048575 < ofD y m k then (0, 2) else (ofD y m k, 0) := by unfold ofF; rw [if_neg (by omega)]
theorem day_Of_cs (σ : List Blk) (y m k : Int) : CSF Tryz.prog 168 [.d (I y), .d (I m), .d (I k)] σ (.tup [.d (I (ofF y m k).1), .d (I (ofF y m k).2)]) := by
  refine CSF.of_body T.en168 Tryz.func168 rfl (by simp [Tryz.ntmps168]) (by simp [go_sem]) fun hwf => ?_
  refine awp_reg_seq fun K hK => ?_
  simp [go_sem, Tryz.ntmps168, cum_one]
  repeat refine ⟨by omega, ?_⟩
  refine hK _ ?_; clear hK K
  refine awp_seq ?_
  refine awp_reg_seq fun K hK => ?_
  simp [go_sem, cum_one]
  repeat refine ⟨by omega, ?_⟩
  refine CSk.mk (day_Length_cs _ _ _) ?_
  simp [go_sem, cum_one]
  repeat refine ⟨by omega, ?_⟩
  refine hK _ ?_; clear hK K
  refine awp_reg_seq fun K hK => ?_
  simp [go_sem, cum_one]
  repeat refine ⟨by omega, ?_⟩
  refine hK _ ?_; clear hK K
  refine awp_forget [0, 1, 2, 20] (by simp only [restr, List.contains_cons, List.contains_nil, Nat.reduceBEq, Bool.or_false, Bool.or_true, Bool.true_or, Bool.false_or, if_true, if_false, Bool.false_eq_true]; rfl) ?_
  refine awp_cond rfl (fun c0 => ?_) (fun c0 => ?_)
  · have d0 := c0; try simp at d0
    refine awp_reg_seq fun K hK => ?_
    simp [go_sem, cum_one, c0, d0]
    repeat refine ⟨by omega, ?_⟩
    refine hK _ ?_; clear hK K
    refine awp_ret ?_
    have hz : ofF y m k = (0, 2) := by unfold ofF; rw [if_pos (by omega)]
    rw [hz]; simp [go_sem, Tryz.results168]
  · have d0 := c0; try simp at d0
    obtain ⟨hy, hm1, hm2, hl⟩ := lenF_ne d0.1 d0.2
    have hb := beg_bd hy.1 (by omega)
    have hlm := lenM_le y m
    refine awp_skip ?_
    refine awp_reg_seq fun K hK => ?_
    simp [go_sem, cum_one, c0, d0]
    try simp (disch := omega) only [wrapI]
    repeat refine ⟨by omega, ?_⟩
    refine CSk.mk (day_begin_cs _ y (by omega) (by omega)) ?_
    simp [go_sem, cum_one, c0, d0]
    try simp (disch := omega) only [wrapI]
    repeat refine ⟨by omega, ?_⟩
    refine hK _ ?_; clear hK K
    refine awp_seq ?_
    refine awp_reg_seq fun K hK => ?_
    simp [go_sem, cum_one, c0, d0]
    repeat refine ⟨by omega, ?_⟩
    refine hK _ ?_; clear hK K
    refine awp_block ?_
    refine awp_forget [0, 1, 9, 10] (by simp [go_sem, restr]; rfl) ?_
    refine awp_loopU (α := Nat) (fun q => [(9, .d (I (beg y + k - 1 + cum y (q + 1)))), (10, .d (I ((q + 1 : Nat) : Int)))]) (fun q => _) (fun q => (q : Int) + 1 ≤ m) (fun q => 12 - q) 0 (by simp [go_sem, cum_one]) rfl (by omega) ?_
    rintro q hq
    have hcb := cum_bd y (m := q + 1) (by omega) (by omega)
    refine awp_seq ?_
    refine awp_reg_seq fun K hK => ?_
    simp [go_sem, cum_one, c0, d0]
    repeat refine ⟨by omega, ?_⟩
    refine hK _ ?_; clear hK K
    refine awp_forget [0, 1, 9, 10, 28] (by simp only [restr, List.contains_cons, List.contains_nil, Nat.reduceBEq, Bool.or_false, Bool.or_true, Bool.true_or, Bool.false_or, if_true, if_false, Bool.false_eq_true]; rfl) ?_
    refine awp_cond rfl (fun c1 => ?_) (fun c1 => ?_)
    · have d1 := c1; try simp at d1
      have hlq : lenF y (q + 1) = lenM y (q + 1) := lenF_in (by omega)
      have hcs := cum_succ (y := y) (m := (q : Int) + 1) (by omega) (by omega)
      have hlb := lenM_le y (q + 1)
      have hlp := lenM_pos y (q + 1)
      refine awp_skip ?_
      refine awp_seq ?_
      refine awp_block ?_
      refine awp_reg_end fun K hK => ?_
      simp [go_sem, cum_one, c0, d0, c1, d1]
      try simp (disch := omega) only [wrapI]
      repeat refine ⟨by omega, ?_⟩
      refine CSk.mk (day_Length_cs _ _ _) ?_
      simp [go_sem, cum_one, c0, d0, c1, d1]
      try simp (disch := omega) only [wrapI]
      repeat refine ⟨by omega, ?_⟩
      refine hK _ ?_; clear hK K
      refine awp_reg_end fun K hK => ?_
      simp [go_sem, cum_one, c0, d0, c1, d1]
      try simp (disch := omega) only [wrapI]
      repeat refine ⟨by omega, ?_⟩
      refine hK _ ?_; clear hK K
      refine ⟨q + 1, back_of' (by simp) (.refl _) (by (simp [go_sem, cum_one, c0, d0, c1, d1] <;> omega)), by omega, by omega⟩
    · have d1 := c1; try simp at d1
      obtain rfl : m = q + 1 := by omega
      have ho : ofD y (q + 1) k = beg y + k - 1 + cum y (q + 1) := by unfold ofD; omega
      refine awp_exit ?_
      refine awp_seq ?_
      refine awp_reg_seq fun K hK => ?_
      simp [go_sem, cum_one, c0, d0, c1, d1]
      repeat refine ⟨by omega, ?_⟩
      refine hK _ ?_; clear hK K
      refine awp_forget [9, 37] (by simp only [restr, List.contains_cons, List.contains_nil, Nat.reduceBEq, Bool.or_false, Bool.or_true, Bool.true_or, Bool.false_or, if_true, if_false, Bool.false_eq_true]; rfl) ?_
      refine awp_cond rfl (fun c2 => ?_) (fun c2 => ?_)
      · have d2 := c2; try simp at d2
        refine awp_reg_seq fun K hK => ?_
        simp [go_sem, cum_one, c0, d0, c1, d1, c2, d2]
        repeat refine ⟨by omega, ?_⟩
        refine hK _ ?_; clear hK K
        refine awp_ret ?_
        rw [ofF_rng d0, ho, if_pos (by omega)]; simp [go_sem, Tryz.results168]
      · have d2 := c2; try simp at d2
        refine awp_skip ?_
        refine awp_reg_seq fun K hK => ?_
        simp [go_sem, cum_one, c0, d0, c1, d1, c2, d2]
        repeat refine ⟨by omega, ?_⟩
        refine hK _ ?_; clear hK K
        refine awp_ret ?_
        rw [ofF_rng d0, ho, if_neg (by omega)]; simp [go_sem, Tryz.results168]
def dateF (d : Int) : Int × Int × Int × Int := if isDay d then (yearOf d, monD d, dayD d, 0) else (0, 0, 0, 2)
theorem guess_le {d : Int} (h : isDay d) : 1600 ≤ 1600 + 400 * (d / 146097) + d % 146097 / 366 ∧ beg (1600 + 400 * (d / 146097) + d % 146097 / 366) ≤ d := by
  obtain ⟨h1, h2⟩ := h
  have hc : d % 146097 / 366 = 0 ∨ d % 146097 / 366 = 1 ∨ d % 146097 / 366 = 2 ∨ 3 ≤ d % 146097 / 366 := by omega
  unfold beg
  rcases hc with h | h | h | h <;> omega
theorem year_top {d y : Int} (h : isDay d) (hb : beg y ≤ d) : y ≤ 4470 := by
  apply Classical.byContradiction; intro hn
  have := beg_mono (a := 4471) (b := y) (by omega)
  rw [beg_4471] at this; unfold isDay at h; omega
theorem day_Date_cs (σ : List Blk) (d : Int) : CSF Tryz.prog 167 [.d (I d)] σ (.tup [.d (I (dateF d).1), .d (I (dateF d).2.1), .d (I (dateF d).2.2.1), .d (I (dateF d).2.2.2)]) := by
  refine CSF.of_body T.en167 Tryz.func167 rfl (by simp [Tryz.ntmps167]) (by simp [go_sem]) fun hwf => ?_
  refine awp_reg_seq fun K hK => ?_
  simp [go_sem, Tryz.ntmps167, cum_one]
  repeat refine ⟨by omega, ?_⟩
  refine hK _ ?_; clear hK K
  refine awp_seq ?_
  refine awp_reg_seq fun K hK => ?_
  simp [go_sem, cum_one]
  repeat refine ⟨by omega, ?_⟩
  refine CSk.mk (day_is_cs _ _) ?_
  simp [go_sem, cum_one]
  repeat refine ⟨by omega, ?_⟩
  refine hK _ ?_; clear hK K
  refine awp_forget [0, 8] (by simp only [restr, List.contains_cons, List.contains_nil, Nat.reduceBEq, Bool.or_false, Bool.or_true, Bool.true_or, Bool.false_or, if_true, if_false, Bool.false_eq_true]; rfl) ?_
  refine awp_cond rfl (fun c0 => ?_) (fun c0 => ?_)
  · have d0 := c0; try simp at d0
    refine awp_reg_seq fun K hK => ?_
    simp [go_sem, cum_one, c0, d0]
    repeat refine ⟨by omega, ?_⟩
    refine hK _ ?_; clear hK K
    refine awp_ret ?_
    have hz : dateF d = (0, 0, 0, 2) := by unfold dateF; rw [if_neg d0]
    rw [hz]; simp [go_sem, Tryz.results167]
  · have d0 := c0; try simp at d0
    have hd : isDay d := d0
    have hgu := guess_le hd
    have hgt := year_top hd hgu.2
    refine awp_skip ?_
    refine awp_reg_seq fun K hK => ?_
    simp [go_sem, cum_one, c0, d0]
    try simp (disch := omega) only [tdivI, tmodI, wrapI]
    repeat refine ⟨by omega, ?_⟩
    refine hK _ ?_; clear hK K
    refine awp_seq ?_
    refine awp_block ?_
    refine awp_forget [0, 2] (by simp [go_sem, restr]; rfl) ?_
    refine awp_loopU (α := Int) (fun y => [(2, .d (I y))]) (fun y => _) (fun y => 1600 ≤ y ∧ beg y ≤ d) (fun y => (4471 - y).toNat) (1600 + 400 * (d / 146097) + d % 146097 / 366) (by simp [go_sem, cum_one]) rfl (hgu) ?_
    rintro y ⟨hy1, hy2⟩
    have hy3 := year_top hd hy2
    refine awp_seq ?_
    refine awp_reg_seq fun K hK => ?_
    simp [go_sem, cum_one, c0, d0]
    try simp (disch := omega) only [wrapI]
    repeat refine ⟨by omega, ?_⟩
    refine CSk.mk (day_begin_cs _ (y + 1) (by omega) (by omega)) ?_
    simp [go_sem, cum_one, c0, d0]
    try simp (disch := omega) only [wrapI]
    repeat refine ⟨by omega, ?_⟩
    refine hK _ ?_; clear hK K
    refine awp_forget [0, 2, 21] (by simp only [restr, List.contains_cons, List.contains_nil, Nat.reduceBEq, Bool.or_false, Bool.or_true, Bool.true_or, Bool.false_or, if_true, if_false, Bool.false_eq_true]; rfl) ?_
    refine awp_cond rfl (fun c1 => ?_) (fun c1 => ?_)
    · have d1 := c1; try simp at d1
      have hy4 := year_top hd d1
      refine awp_skip ?_
      refine awp_block ?_
      refine awp_reg_end fun K hK => ?_
      simp [go_sem, cum_one, c0, d0, c1, d1]
      try simp (disch := omega) only [wrapI]
      repeat refine ⟨by omega, ?_⟩
      refine hK _ ?_; clear hK K
      refine ⟨y + 1, back_of' (by simp) (.refl _) (by (simp [go_sem, cum_one, c0, d0, c1, d1] <;> omega)), ⟨by omega, d1⟩, by omega⟩
    · have d1 := c1; try simp at d1
      obtain rfl : yearOf d = y := yearOf_eq hd.1 hd.2 hy2 (by omega)
      have hbb := beg_bd hy1 (by omega)
      have hdi := hd
      unfold isDay at hdi
      refine awp_exit ?_
      refine awp_reg_seq fun K hK => ?_
      simp [go_sem, cum_one, c0, d0, c1, d1]
      try simp (disch := omega) only [wrapI]
      repeat refine ⟨by omega, ?_⟩
      refine CSk.mk (day_begin_cs _ (yearOf d) (by omega) (by omega)) ?_
      simp [go_sem, cum_one, c0, d0, c1, d1]
      try simp (disch := omega) only [wrapI]
      repeat refine ⟨by omega, ?_⟩
      refine hK _ ?_; clear hK K
      refine awp_seq ?_
      refine awp_reg_seq fun K hK => ?_
      simp [go_sem, cum_one, c0, d0, c1, d1]
      repeat refine ⟨by omega, ?_⟩
      refine hK _ ?_; clear hK K
      refine awp_block ?_
      refine awp_forget [0, 2, 3] (by simp [go_sem, restr]; rfl) ?_
      refine awp_loopU (α := Int) (fun m => [(0, .d (I (d - beg (yearOf d) - cum (yearOf d) m))), (3, .d (I m))]) (fun m => _) (fun m => 1 ≤ m ∧ m ≤ 12 ∧ cum (yearOf d) m ≤ d - beg (yearOf d)) (fun m => (12 - m).toNat) 1 (by simp [go_sem, cum_one]) rfl (⟨by omega, by omega, by rw [cum_one]; omega⟩) ?_
      rintro m ⟨hm1, hm2, hm3⟩
      have hlf : lenF (yearOf d) m = lenM (yearOf d) m := lenF_in (by omega)
      have hcs := cum_succ (y := yearOf d) hm1 hm2
      have hlb := lenM_le (yearOf d) m
      have hlp := lenM_pos (yearOf d) m
      have hcb := cum_bd (yearOf d) hm1 (by omega)
      refine awp_seq ?_
      refine awp_reg_seq fun K hK => ?_
      simp [go_sem, cum_one, c0, d0, c1, d1]
      repeat refine ⟨by omega, ?_⟩
      refine CSk.mk (day_Length_cs _ _ _) ?_
      simp [go_sem, cum_one, c0, d0, c1, d1]
      repeat refine ⟨by omega, ?_⟩
      refine hK _ ?_; clear hK K
      refine awp_forget [0, 2, 3, 32] (by simp only [restr, List.contains_cons, List.contains_nil, Nat.reduceBEq, Bool.or_false, Bool.or_true, Bool.true_or, Bool.false_or, if_true, if_false, Bool.false_eq_true]; rfl) ?_
      refine awp_cond rfl (fun c2 => ?_) (fun c2 => ?_)
      · have d2 := c2; try simp at d2
        have hm4 : m ≠ 12 := by
          rintro rfl
          have := (yearOf_spec hd.1 hd.2).2
          rw [beg_cum] at this
          simp only [Int.reduceAdd] at hcs
          omega
        refine awp_skip ?_
        refine awp_seq ?_
        refine awp_block ?_
        refine awp_reg_end fun K hK => ?_
        simp [go_sem, cum_one, c0, d0, c1, d1, c2, d2]
        try simp (disch := omega) only [wrapI]
        repeat refine ⟨by omega, ?_⟩
        refine CSk.mk (day_Length_cs _ _ _) ?_
        simp [go_sem, cum_one, c0, d0, c1, d1, c2, d2]
        try simp (disch := omega) only [wrapI]
        repeat refine ⟨by omega, ?_⟩
        refine hK _ ?_; clear hK K
        refine awp_reg_end fun K hK => ?_
        simp [go_sem, cum_one, c0, d0, c1, d1, c2, d2]
        try simp (disch := omega) only [wrapI]
        repeat refine ⟨by omega, ?_⟩
        refine hK _ ?_; clear hK K
        refine ⟨m + 1, back_of' (by simp) (.refl _) (by (simp [go_sem, cum_one, c0, d0, c1, d1, c2, d2] <;> omega)), ⟨by omega, by omega, by omega⟩, by omega⟩
      · have d2 := c2; try simp at d2
        obtain rfl : monD d = m := by
          unfold monD
          have := (yearOf_spec hd.1 hd.2).2
          rw [beg_cum] at this
          have hs := monOf_spec (y := yearOf d) (r := d - beg (yearOf d)) (by omega) (by omega)
          exact month_unique hs.2.2.1 hs.2.2.2 hm3 (by omega)
        refine awp_exit ?_
        refine awp_reg_seq fun K hK => ?_
        simp [go_sem, cum_one, c0, d0, c1, d1, c2, d2]
        try simp (disch := omega) only [wrapI]
        repeat refine ⟨by omega, ?_⟩
        refine hK _ ?_; clear hK K
        refine awp_ret ?_
        have hz : dateF d = (yearOf d, monD d, dayD d, 0) := by unfold dateF; rw [if_pos hd]
        rw [hz]; simp [go_sem, Tryz.results167, dayD]
def yearsR (d n : Int) : Int × Int := if isDay d ∧ 0 ≤ n ∧ n ≤ 200 then (yearsF d n, 0) else (0, 2)
theorem dateF_no {d : Int} (h : ¬ isDay d) : dateF d = (0, 0, 0, 2) := by unfold dateF; rw [if_neg h]
theorem dateF_ok {d : Int} (h : isDay d) : dateF d = (yearOf d, monD d, dayD d, 0) := by unfold dateF; rw [if_pos h]
theorem date_err {d : Int} : (dateF d).2.2.2 = 0 ↔ isDay d := by
  by_cases h : isDay d
  · simp [dateF_ok h, h]
  · simp [dateF_no h, h]
theorem years_of {d n : Int} (h : isDay d) (h0 : 0 ≤ n) (hn : yearOf d + n ≤ 4470) : ofF (yearOf d + n) (monD d) (min (dayD d) (lenF (yearOf d + n) (monD d))) = if 1048575 < ofD (yearOf d + n) (monD d) (min (dayD d) (lenM (yearOf d + n) (monD d))) then (0, 2) else (ofD (yearOf d + n) (monD d) (min (dayD d) (lenM (yearOf d + n) (monD d))), 0) := by
  have hs := date_spec h.1 h.2
  have hr := yearOf_range h.1 h.2
  have hl : lenF (yearOf d + n) (monD d) = lenM (yearOf d + n) (monD d) := lenF_in (by omega)
  have hp := lenM_pos (yearOf d + n) (monD d)
  rw [hl, ofF_rng (by rw [hl]; omega)]
theorem day_Years_cs (σ : List Blk) (d n : Int) : CSF Tryz.prog 155 [.d (I d), .d (I n)] σ (.tup [.d (I (yearsR d n).1), .d (I (yearsR d n).2)]) := by
  refine CSF.of_body T.en155 Tryz.func155 rfl (by simp [Tryz.ntmps155]) (by simp [go_sem]) fun hwf => ?_
  refine awp_reg_seq fun K hK => ?_
  simp [go_sem, Tryz.ntmps155]
  repeat refine ⟨by omega, ?_⟩
  refine hK _ ?_; clear hK K
  refine awp_reg_seq fun K hK => ?_
  simp [go_sem]
  repeat refine ⟨by omega, ?_⟩
  refine CSk.mk (day_Date_cs _ _) ?_
  simp [go_sem]
  repeat refine ⟨by omega, ?_⟩
  refine hK _ ?_; clear hK K
  refine awp_seq ?_
  refine awp_reg_seq fun K hK => ?_
  simp [go_sem]
  repeat refine ⟨by omega, ?_⟩
  refine hK _ ?_; clear hK K
  refine awp_forget [1, 6, 7, 8, 27] (by simp only [restr, List.contains_cons, List.contains_nil, Nat.reduceBEq, Bool.or_false, Bool.or_true, Bool.true_or, Bool.false_or, if_true, if_false, Bool.false_eq_true]; rfl) ?_
  refine awp_cond rfl (fun c0 => ?_) (fun c0 => ?_)
  · have d0 := c0; try simp at d0
    have hz : yearsR d n = (0, 2) := by
      unfold yearsR
      rw [if_neg]
      rintro ⟨h1, h2, h3⟩
      rw [dateF_ok h1] at d0
      simp at d0; omega
    refine awp_reg_seq fun K hK => ?_
    simp [go_sem, c0, d0]
    repeat refine ⟨by omega, ?_⟩
    refine hK _ ?_; clear hK K
    refine awp_ret ?_
    rw [hz]; simp [go_sem, Tryz.results155]
  · have d0 := c0; try simp at d0
    have hd : isDay d := date_err.1 d0.1.1
    have hr := yearOf_range hd.1 hd.2
    have hz : yearsR d n = (yearsF d n, 0) := by unfold yearsR; rw [if_pos ⟨hd, by omega, by omega⟩]
    simp only [dateF_ok hd] at c0 d0 ⊢
    refine awp_skip ?_
    refine awp_reg_seq fun K hK => ?_
    simp [go_sem, c0, d0]
    try simp (disch := omega) only [wrapI]
    repeat refine ⟨by omega, ?_⟩
    refine hK _ ?_; clear hK K
    refine awp_seq ?_
    refine awp_reg_seq fun K hK => ?_
    simp [go_sem, c0, d0]
    repeat refine ⟨by omega, ?_⟩
    refine hK _ ?_; clear hK K
    refine awp_forget [6, 7, 8, 32] (by simp only [restr, List.contains_cons, List.contains_nil, Nat.reduceBEq, Bool.or_false, Bool.or_true, Bool.true_or, Bool.false_or, if_true, if_false, Bool.false_eq_true]; rfl) ?_
    refine awp_cond rfl (fun c1 => ?_) (fun c1 => ?_)
    · have d1 := c1; try simp at d1
      have hz2 : yearsF d n = 1048575 := by unfold yearsF; rw [if_pos (by omega)]
      refine awp_reg_seq fun K hK => ?_
      simp [go_sem, c0, d0, c1, d1]
      repeat refine ⟨by omega, ?_⟩
      refine hK _ ?_; clear hK K
      refine awp_ret ?_
      rw [hz, hz2]; simp [go_sem, Tryz.results155]
    · have d1 := c1; try simp at d1
      have ho := years_of hd (n := n) (by omega) (by omega)
      have hz2 : yearsF d n = if 1048575 < ofD (yearOf d + n) (monD d) (min (dayD d) (lenM (yearOf d + n) (monD d))) then 1048575 else ofD (yearOf d + n) (monD d) (min (dayD d) (lenM (yearOf d + n) (monD d))) := by unfold yearsF; rw [if_neg (by omega)]
      generalize ofD (yearOf d + n) (monD d) (min (dayD d) (lenM (yearOf d + n) (monD d))) = g at ho hz2
      refine awp_skip ?_
      refine awp_reg_seq fun K hK => ?_
      simp [go_sem, c0, d0, c1, d1]
      repeat refine ⟨by omega, ?_⟩
      refine CSk.mk (day_Length_cs _ _ _) ?_
      simp [go_sem, c0, d0, c1, d1]
      repeat refine ⟨by omega, ?_⟩
      refine CSk.mk (day_Of_cs _ _ _ _) ?_
      simp [go_sem, c0, d0, c1, d1]
      simp only [ho]
      repeat refine ⟨by omega, ?_⟩
      refine hK _ ?_; clear hK K
      refine awp_seq ?_
      refine awp_reg_seq fun K hK => ?_
      simp [go_sem, c0, d0, c1, d1]
      repeat refine ⟨by omega, ?_⟩
      refine hK _ ?_; clear hK K
      refine awp_forget [10, 45] (by simp only [restr, List.contains_cons, List.contains_nil, Nat.reduceBEq, Bool.or_false, Bool.or_true, Bool.true_or, Bool.false_or, if_true, if_false, Bool.false_eq_true]; rfl) ?_
      refine awp_cond rfl (fun c2 => ?_) (fun c2 => ?_)
      · have d2 := c2; try simp at d2
        have hz3 : yearsF d n = 1048575 := by rw [hz2]; split at d2 <;> simp_all
        refine awp_reg_seq fun K hK => ?_
        simp [go_sem, c0, d0, c1, d1, c2, d2]
        repeat refine ⟨by omega, ?_⟩
        refine hK _ ?_; clear hK K
        refine awp_ret ?_
        rw [hz, hz3]; simp [go_sem, Tryz.results155]
      · have d2 := c2; try simp at d2
        refine awp_skip ?_
        refine awp_reg_seq fun K hK => ?_
        simp [go_sem, c0, d0, c1, d1, c2, d2]
        repeat refine ⟨by omega, ?_⟩
        refine hK _ ?_; clear hK K
        refine awp_ret ?_
        by_cases h3 : 1048575 < g
        · simp [h3] at d2
        · rw [hz, hz2]; simp [go_sem, Tryz.results155, h3]
def yearEndR (d : Int) : Int × Int := if isDay d then (yearEndF d, 0) else (0, 2)
theorem day_YearEnd_cs (σ : List Blk) (d : Int) : CSF Tryz.prog 156 [.d (I d)] σ (.tup [.d (I (yearEndR d).1), .d (I (yearEndR d).2)]) := by
  refine CSF.of_body T.en156 Tryz.func156 rfl (by simp [Tryz.ntmps156]) (by simp [go_sem]) fun hwf => ?_
  refine awp_reg_seq fun K hK => ?_
  simp [go_sem, Tryz.ntmps156]
  repeat refine ⟨by omega, ?_⟩
  refine hK _ ?_; clear hK K
  refine awp_reg_seq fun K hK => ?_
  simp [go_sem]
  repeat refine ⟨by omega, ?_⟩
  refine CSk.mk (day_Date_cs _ _) ?_
  simp [go_sem]
  repeat refine ⟨by omega, ?_⟩
  refine hK _ ?_; clear hK K
  refine awp_seq ?_
  refine awp_reg_seq fun K hK => ?_
  simp [go_sem]
  repeat refine ⟨by omega, ?_⟩
  refine hK _ ?_; clear hK K
  refine awp_forget [4, 7, 16] (by simp only [restr, List.contains_cons, List.contains_nil, Nat.reduceBEq, Bool.or_false, Bool.or_true, Bool.true_or, Bool.false_or, if_true, if_false, Bool.false_eq_true]; rfl) ?_
  refine awp_cond rfl (fun c0 => ?_) (fun c0 => ?_)
  · have d0 := c0; try simp at d0
    have hn : ¬ isDay d := fun h => d0 (date_err.2 h)
    have hz : yearEndR d = (0, 2) := by unfold yearEndR; rw [if_neg hn]
    refine awp_reg_seq fun K hK => ?_
    simp [go_sem, c0, d0]
    repeat refine ⟨by omega, ?_⟩
    refine hK _ ?_; clear hK K
    refine awp_ret ?_
    rw [hz]; simp [go_sem, Tryz.results156, dateF_no hn]
  · have d0 := c0; try simp at d0
    have hd : isDay d := date_err.1 d0
    have hr := yearOf_range hd.1 hd.2
    have hb := beg_bd (y := yearOf d + 1) (by omega) (by omega)
    have hz : yearEndR d = (yearEndF d, 0) := by unfold yearEndR; rw [if_pos hd]
    simp only [dateF_ok hd] at c0 d0 ⊢
    refine awp_skip ?_
    refine awp_reg_seq fun K hK => ?_
    simp [go_sem, c0, d0]
    try simp (disch := omega) only [wrapI]
    repeat refine ⟨by omega, ?_⟩
    refine CSk.mk (day_begin_cs _ _ (by first | assumption | omega | simp_all) (by first | assumption | omega | simp_all)) ?_
    simp [go_sem, c0, d0]
    try simp (disch := omega) only [wrapI]
    repeat refine ⟨by omega, ?_⟩
    refine hK _ ?_; clear hK K
    refine awp_ret ?_
    rw [hz]; simp [go_sem, Tryz.results156, yearEndF]
end Go.Proofs.YtkochmppmpmddaaGreat

/-! Bd -/
namespace Go.Proofs.YtkochmppmpmddaaGreat
open Go.Abs Go.Arch
set_option linter.unusedVariables false
set_option linter.unusedSimpArgs false
set_option maxRecDepth 100000
set_option maxHeartbeats 400000
theorem guess2_le {d : Int} (h : isDay d) : 1600 ≤ 1600 + d / 366 ∧ beg (1600 + d / 366) ≤ d := by
  obtain ⟨h1, h2⟩ := h
  have hc : d / 366 = 0 ∨ d / 366 = 1 ∨ d / 366 = 2 ∨ 3 ≤ d / 366 := by omega
  unfold beg
  rcases hc with h | h | h | h <;> omega
theorem lenM_same {y y' m : Int} (h : m ≠ 2) : lenM y m = lenM y' m := by unfold lenM; rw [if_neg h, if_neg h]
theorem lenM_two {y : Int} : lenM y 2 = if leapY y = true then 29 else 28 := by unfold lenM; rw [if_pos rfl]
theorem years_feb {d n : Int} (h : isDay d) : min (dayD d) (lenM (yearOf d + n) (monD d)) = if (monD d = 2 ∧ dayD d = 29) ∧ leapY (yearOf d + n) = false then 28 else dayD d := by
  have hs := date_spec h.1 h.2
  by_cases hm : monD d = 2
  · rw [hm, lenM_two]
    rw [hm, lenM_two] at hs
    cases hl : leapY (yearOf d + n) with
    | true => rw [if_pos rfl, if_neg (by simp)]; split at hs <;> omega
    | false =>
      rw [if_neg (by simp)]
      by_cases h29 : dayD d = 29
      · rw [if_pos ⟨⟨rfl, h29⟩, rfl⟩]; omega
      · rw [if_neg (by simp [h29])]; split at hs <;> omega
  · rw [lenM_same (y' := yearOf d) hm, if_neg (by simp [hm])]; omega
theorem years_ref {d n : Int} (h : isDay d) (h0 : 0 ≤ n) (h1 : n ≤ 200) {k : Int} (hk : k = if (monD d = 2 ∧ dayD d = 29) ∧ leapY (yearOf d + n) = false then 28 else dayD d) : yearsF d n = if (ofF (yearOf d + n) (monD d) k).2 = 0 then (ofF (yearOf d + n) (monD d) k).1 else 1048575 := by
  have hs := date_spec h.1 h.2
  have hr := yearOf_range h.1 h.2
  rw [← years_feb h] at hk
  subst hk
  by_cases hy : 4470 < yearOf d + n
  · have hp := lenM_pos (yearOf d + n) (monD d)
    have e1 : ofF (yearOf d + n) (monD d) (min (dayD d) (lenM (yearOf d + n) (monD d))) = (0, 2) := by
      unfold ofF; rw [if_pos]; rw [lenF_out (by omega)]; omega
    rw [e1]; unfold yearsF; simp [hy]
  · have hl : lenF (yearOf d + n) (monD d) = lenM (yearOf d + n) (monD d) := lenF_in (by omega)
    have ho := years_of h h0 (by omega)
    rw [hl] at ho
    rw [ho]; unfold yearsF; rw [if_neg hy]
    dsimp only
    split <;> simp
theorem yearEnd_ref {d : Int} (h : isDay d) : yearEndF d = if (ofF (yearOf d) 12 31).2 = 0 then (ofF (yearOf d) 12 31).1 else 1048575 := by
  have hr := yearOf_range h.1 h.2
  have hl : lenF (yearOf d) 12 = 31 := by rw [lenF_in (by omega)]; simp [lenM]
  rw [ofF_rng (by rw [hl]; omega)]
  have hc := cum_succ (y := yearOf d) (m := 12) (by omega) (by omega)
  have h13 := beg_cum (yearOf d)
  have hl2 : lenM (yearOf d) 12 = 31 := by simp [lenM]
  simp only [Int.reduceAdd] at hc
  unfold yearEndF ofD
  split <;> simp <;> omega
theorem ref02_leap_cs (σ : List Blk) (y : Int) (hy : 0 ≤ y) : CSF Tryz.prog 165 [.d (I y)] σ (.d (B (leapY y))) := by
  refine CSF.of_body T.en165 Tryz.func165 rfl (by simp [Tryz.ntmps165]) (by simp [go_sem]) fun hwf => ?_
  refine awp_reg_seq fun K hK => ?_
  simp [go_sem, Tryz.ntmps165]
  repeat refine ⟨by omega, ?_⟩
  refine hK _ ?_; clear hK K
  refine awp_reg_seq fun K hK => ?_
  simp [go_sem]
  try simp (disch := omega) only [tmodI]
  repeat refine ⟨by omega, ?_⟩
  refine hK _ ?_; clear hK K
  refine awp_ret ?_
  simp [go_sem, Tryz.results165, leap_or, Int.tmod_eq_emod_of_nonneg hy] <;> omega
theorem ref02_Good_cs (σ : List Blk) (d : Int) : CSF Tryz.prog 163 [.d (I d)] σ (.d (B (decide (isDay d)))) := by
  refine CSF.of_body T.en163 Tryz.func163 rfl (by simp [Tryz.ntmps163]) (by simp [go_sem]) fun hwf => ?_
  refine awp_reg_seq fun K hK => ?_
  simp [go_sem, Tryz.ntmps163]
  repeat refine ⟨by omega, ?_⟩
  refine hK _ ?_; clear hK K
  refine awp_reg_seq fun K hK => ?_
  simp [go_sem]
  repeat refine ⟨by omega, ?_⟩
  refine hK _ ?_; clear hK K
  refine awp_ret ?_
  simp [go_sem, Tryz.results163, isDay_dec] <;> omega
theorem ref02_before_cs (σ : List Blk) (y : Int) (h1 : 1600 ≤ y) (h2 : y ≤ 4700) : CSF Tryz.prog 179 [.d (I y)] σ (.d (I (beg y))) := by
  refine CSF.of_body T.en179 Tryz.func179 rfl (by simp [Tryz.ntmps179]) (by simp [go_sem]) fun hwf => ?_
  refine awp_reg_seq fun K hK => ?_
  simp [go_sem, Tryz.ntmps179]
  repeat refine ⟨by omega, ?_⟩
  refine hK _ ?_; clear hK K
  refine awp_reg_seq fun K hK => ?_
  simp [go_sem]
  try simp (disch := omega) only [wrapI]
  repeat refine ⟨by omega, ?_⟩
  refine hK _ ?_; clear hK K
  refine awp_seq ?_
  refine awp_reg_seq fun K hK => ?_
  simp [go_sem]
  repeat refine ⟨by omega, ?_⟩
  refine hK _ ?_; clear hK K
  refine awp_forget [3, 7] (by simp only [restr, List.contains_cons, List.contains_nil, Nat.reduceBEq, Bool.or_false, Bool.or_true, Bool.true_or, Bool.false_or, if_true, if_false, Bool.false_eq_true]; rfl) ?_
  refine awp_cond rfl (fun c0 => ?_) (fun c0 => ?_)
  · have d0 := c0; try simp at d0
    obtain rfl : y = 1600 := by omega
    refine awp_reg_seq fun K hK => ?_
    simp [go_sem, c0, d0]
    repeat refine ⟨by omega, ?_⟩
    refine hK _ ?_; clear hK K
    refine awp_ret ?_
    rw [beg_1600]; simp [go_sem, Tryz.results179]
  · have d0 := c0; try simp at d0
    refine awp_skip ?_
    refine awp_reg_seq fun K hK => ?_
    simp [go_sem, c0, d0]
    try simp (disch := omega) only [tdivI, wrapI]
    repeat refine ⟨by omega, ?_⟩
    refine hK _ ?_; clear hK K
    refine awp_ret ?_
    simp [go_sem, Tryz.results179]; rw [← before_eq (y := y) (by omega)]
theorem ref02_Length_cs (σ : List Blk) (y m : Int) : CSF Tryz.prog 180 [.d (I y), .d (I m)] σ (.d (I (lenF y m))) := by
  refine CSF.of_body T.en180 Tryz.func180 rfl (by simp [Tryz.ntmps180]) (by simp [go_sem]) fun hwf => ?_
  refine awp_reg_seq fun K hK => ?_
  simp [go_sem, Tryz.ntmps180]
  repeat refine ⟨by omega, ?_⟩
  refine hK _ ?_; clear hK K
  refine awp_seq ?_
  refine awp_reg_seq fun K hK => ?_
  simp [go_sem]
  repeat refine ⟨by omega, ?_⟩
  refine hK _ ?_; clear hK K
  refine awp_forget [0, 1, 18] (by simp only [restr, List.contains_cons, List.contains_nil, Nat.reduceBEq, Bool.or_false, Bool.or_true, Bool.true_or, Bool.false_or, if_true, if_false, Bool.false_eq_true]; rfl) ?_
  refine awp_cond rfl (fun c0 => ?_) (fun c0 => ?_)
  · have d0 := c0; try simp at d0
    refine awp_reg_seq fun K hK => ?_
    simp [go_sem, c0, d0]
    repeat refine ⟨by omega, ?_⟩
    refine hK _ ?_; clear hK K
    refine awp_ret ?_
    rw [lenF_out d0]; simp [go_sem, Tryz.results180]
  · have d0 := c0; try simp at d0
    refine awp_skip ?_
    refine awp_seq ?_
    refine awp_reg_seq fun K hK => ?_
    simp [go_sem, c0, d0]
    repeat refine ⟨by omega, ?_⟩
    refine CSm.mk (ref02_leap_cs _ y (by omega)) ?_
    simp [go_sem, c0, d0]
    repeat refine ⟨by omega, ?_⟩
    refine hK _ ?_; clear hK K
    refine awp_forget [1, 24] (by simp only [restr, List.contains_cons, List.contains_nil, Nat.reduceBEq, Bool.or_false, Bool.or_true, Bool.true_or, Bool.false_or, if_true, if_false, Bool.false_eq_true]; rfl) ?_
    refine awp_cond rfl (fun c1 => ?_) (fun c1 => ?_)
    · have d1 := c1; try simp at d1
      obtain ⟨rfl, d1⟩ := d1
      refine awp_reg_seq fun K hK => ?_
      simp [go_sem, c0, d0, c1, d1]
      repeat refine ⟨by omega, ?_⟩
      refine hK _ ?_; clear hK K
      refine awp_ret ?_
      rw [lenF_in (by omega), lenM_feb d1]; simp [go_sem, Tryz.results180]
    · have d1 := c1; try simp at d1
      refine awp_skip ?_
      refine awp_reg_seq fun K hK => ?_
      simp [go_sem, c0, d0, c1, d1]
      try simp (disch := omega) only [wrapI]
      have hL := lenM_arr (y := y) (m := m) (by omega) (by omega) d1
      simp [go_sem] at hL
      simp [go_sem, hL]
      repeat refine ⟨by omega, ?_⟩
      refine hK _ ?_; clear hK K
      refine awp_ret ?_
      rw [lenF_in (by omega)]; simp [go_sem, Tryz.results180]
theorem ref02_Of_cs (σ : List Blk) (y m k : Int) : CSF Tryz.prog 166 [.d (I y), .d (I m), .d (I k)] σ (.tup [.d (I (ofF y m k).1), .d (I (ofF y m k).2)]) := by
  refine CSF.of_body T.en166 Tryz.func166 rfl (by simp [Tryz.ntmps166]) (by simp [go_sem]) fun hwf => ?_
  refine awp_reg_seq fun K hK => ?_
  simp [go_sem, Tryz.ntmps166, cum_one]
  repeat refine ⟨by omega, ?_⟩
  refine hK _ ?_; clear hK K
  refine awp_seq ?_
  refine awp_reg_seq fun K hK => ?_
  simp [go_sem, cum_one]
  repeat refine ⟨by omega, ?_⟩
  refine CSm.mk (ref02_Length_cs _ _ _) ?_
  simp [go_sem, cum_one]
  repeat refine ⟨by omega, ?_⟩
  refine hK _ ?_; clear hK K
  refine awp_forget [0, 1, 2, 18] (by simp only [restr, List.contains_cons, List.contains_nil, Nat.reduceBEq, Bool.or_false, Bool.or_true, Bool.true_or, Bool.false_or, if_true, if_false, Bool.false_eq_true]; rfl) ?_
  refine awp_cond rfl (fun c0 => ?_) (fun c0 => ?_)
  · have d0 := c0; try simp at d0
    refine awp_reg_seq fun K hK => ?_
    simp [go_sem, cum_one, c0, d0]
    repeat refine ⟨by omega, ?_⟩
    refine hK _ ?_; clear hK K
    refine awp_ret ?_
    have hz : ofF y m k = (0, 2) := by unfold ofF; rw [if_pos (by omega)]
    rw [hz]; simp [go_sem, Tryz.results166]
  · have d0 := c0; try simp at d0
    obtain ⟨hy, hm1, hm2, hl⟩ := lenF_ne d0.1 d0.2
    have hb := beg_bd hy.1 (by omega)
    have hlm := lenM_le y m
    refine awp_skip ?_
    refine awp_reg_seq fun K hK => ?_
    simp [go_sem, cum_one, c0, d0]
    try simp (disch := omega) only [wrapI]
    repeat refine ⟨by omega, ?_⟩
    refine CSk.mk (ref02_before_cs _ y (by omega) (by omega)) ?_
    simp [go_sem, cum_one, c0, d0]
    try simp (disch := omega) only [wrapI]
    repeat refine ⟨by omega, ?_⟩
    refine hK _ ?_; clear hK K
    refine awp_seq ?_
    refine awp_reg_seq fun K hK => ?_
    simp [go_sem, cum_one, c0, d0]
    repeat refine ⟨by omega, ?_⟩
    refine hK _ ?_; clear hK K
    refine awp_block ?_
    refine awp_forget [0, 1, 8, 9] (by simp [go_sem, restr]; rfl) ?_
    refine awp_loopU (α := Nat) (fun q => [(8, .d (I (beg y + k - 1 + cum y (q + 1)))), (9, .d (I ((q + 1 : Nat) : Int)))]) (fun q => _) (fun q => (q : Int) + 1 ≤ m) (fun q => 12 - q) 0 (by simp [go_sem, cum_one]) rfl (by omega) ?_
    rintro q hq
    have hcb := cum_bd y (m := q + 1) (by omega) (by omega)
    refine awp_seq ?_
    refine awp_reg_seq fun K hK => ?_
    simp [go_sem, cum_one, c0, d0]
    repeat refine ⟨by omega, ?_⟩
    refine hK _ ?_; clear hK K
    refine awp_forget [0, 1, 8, 9, 26] (by simp only [restr, List.contains_cons, List.contains_nil, Nat.reduceBEq, Bool.or_false, Bool.or_true, Bool.true_or, Bool.false_or, if_true, if_false, Bool.false_eq_true]; rfl) ?_
    refine awp_cond rfl (fun c1 => ?_) (fun c1 => ?_)
    · have d1 := c1; try simp at d1
      have hlq : lenF y (q + 1) = lenM y (q + 1) := lenF_in (by omega)
      have hcs := cum_succ (y := y) (m := (q : Int) + 1) (by omega) (by omega)
      have hlb := lenM_le y (q + 1)
      have hlp := lenM_pos y (q + 1)
      refine awp_skip ?_
      refine awp_seq ?_
      refine awp_block ?_
      refine awp_reg_end fun K hK => ?_
      simp [go_sem, cum_one, c0, d0, c1, d1]
      try simp (disch := omega) only [wrapI]
      repeat refine ⟨by omega, ?_⟩
      refine CSk.mk (ref02_Length_cs _ _ _) ?_
      simp [go_sem, cum_one, c0, d0, c1, d1]
      try simp (disch := omega) only [wrapI]
      repeat refine ⟨by omega, ?_⟩
      refine hK _ ?_; clear hK K
      refine awp_reg_end fun K hK => ?_
      simp [go_sem, cum_one, c0, d0, c1, d1]
      try simp (disch := omega) only [wrapI]
      repeat refine ⟨by omega, ?_⟩
      refine hK _ ?_; clear hK K
      refine ⟨q + 1, back_of' (by simp) (.refl _) (by (simp [go_sem, cum_one, c0, d0, c1, d1] <;> omega)), by omega, by omega⟩
    · have d1 := c1; try simp at d1
      obtain rfl : m = q + 1 := by omega
      have ho : ofD y (q + 1) k = beg y + k - 1 + cum y (q + 1) := by unfold ofD; omega
      refine awp_exit ?_
      refine awp_seq ?_
      refine awp_reg_seq fun K hK => ?_
      simp [go_sem, cum_one, c0, d0, c1, d1]
      repeat refine ⟨by omega, ?_⟩
      refine hK _ ?_; clear hK K
      refine awp_forget [8, 35] (by simp only [restr, List.contains_cons, List.contains_nil, Nat.reduceBEq, Bool.or_false, Bool.or_true, Bool.true_or, Bool.false_or, if_true, if_false, Bool.false_eq_true]; rfl) ?_
      refine awp_cond rfl (fun c2 => ?_) (fun c2 => ?_)
      · have d2 := c2; try simp at d2
        refine awp_reg_seq fun K hK => ?_
        simp [go_sem, cum_one, c0, d0, c1, d1, c2, d2]
        repeat refine ⟨by omega, ?_⟩
        refine hK _ ?_; clear hK K
        refine awp_ret ?_
        rw [ofF_rng d0, ho, if_pos (by omega)]; simp [go_sem, Tryz.results166]
      · have d2 := c2; try simp at d2
        refine awp_skip ?_
        refine awp_reg_seq fun K hK => ?_
        simp [go_sem, cum_one, c0, d0, c1, d1, c2, d2]
        repeat refine ⟨by omega, ?_⟩
        refine hK _ ?_; clear hK K
        refine awp_ret ?_
        rw [ofF_rng d0, ho, if_neg (by omega)]; simp [go_sem, Tryz.results166]
theorem ref02_Date_cs (σ : List Blk) (d : Int) : CSF Tryz.prog 164 [.d (I d)] σ (.tup [.d (I (dateF d).1), .d (I (dateF d).2.1), .d (I (dateF d).2.2.1), .d (I (dateF d).2.2.2)]) := by
  refine CSF.of_body T.en164 Tryz.func164 rfl (by simp [Tryz.ntmps164]) (by simp [go_sem]) fun hwf => ?_
  refine awp_reg_seq fun K hK => ?_
  simp [go_sem, Tryz.ntmps164, cum_one]
  repeat refine ⟨by omega, ?_⟩
  refine hK _ ?_; clear hK K
  refine awp_seq ?_
  refine awp_reg_seq fun K hK => ?_
  simp [go_sem, cum_one]
  repeat refine ⟨by omega, ?_⟩
  refine CSk.mk (ref02_Good_cs _ _) ?_
  simp [go_sem, cum_one]
  repeat refine ⟨by omega, ?_⟩
  refine hK _ ?_; clear hK K
  refine awp_forget [0, 10] (by simp only [restr, List.contains_cons, List.contains_nil, Nat.reduceBEq, Bool.or_false, Bool.or_true, Bool.true_or, Bool.false_or, if_true, if_false, Bool.false_eq_true]; rfl) ?_
  refine awp_cond rfl (fun c0 => ?_) (fun c0 => ?_)
  · have d0 := c0; try simp at d0
    refine awp_reg_seq fun K hK => ?_
    simp [go_sem, cum_one, c0, d0]
    repeat refine ⟨by omega, ?_⟩
    refine hK _ ?_; clear hK K
    refine awp_ret ?_
    have hz : dateF d = (0, 0, 0, 2) := by unfold dateF; rw [if_neg d0]
    rw [hz]; simp [go_sem, Tryz.results164]
  · have d0 := c0; try simp at d0
    have hd : isDay d := d0
    have hgu := guess2_le hd
    have hgt := year_top hd hgu.2
    refine awp_skip ?_
    refine awp_reg_seq fun K hK => ?_
    simp [go_sem, cum_one, c0, d0]
    try simp (disch := omega) only [tdivI, wrapI]
    repeat refine ⟨by omega, ?_⟩
    refine hK _ ?_; clear hK K
    refine awp_seq ?_
    refine awp_block ?_
    refine awp_forget [0, 6] (by simp [go_sem, restr]; rfl) ?_
    refine awp_loopU (α := Int) (fun y => [(6, .d (I y))]) (fun y => _) (fun y => 1600 ≤ y ∧ beg y ≤ d) (fun y => (4471 - y).toNat) (1600 + d / 366) (by simp [go_sem, cum_one]) rfl (hgu) ?_
    rintro y ⟨hy1, hy2⟩
    have hy3 := year_top hd hy2
    refine awp_seq ?_
    refine awp_reg_seq fun K hK => ?_
    simp [go_sem, cum_one, c0, d0]
    try simp (disch := omega) only [wrapI]
    repeat refine ⟨by omega, ?_⟩
    refine CSk.mk (ref02_before_cs _ (y + 1) (by omega) (by omega)) ?_
    simp [go_sem, cum_one, c0, d0]
    try simp (disch := omega) only [wrapI]
    repeat refine ⟨by omega, ?_⟩
    refine hK _ ?_; clear hK K
    refine awp_forget [0, 6, 18] (by simp only [restr, List.contains_cons, List.contains_nil, Nat.reduceBEq, Bool.or_false, Bool.or_true, Bool.true_or, Bool.false_or, if_true, if_false, Bool.false_eq_true]; rfl) ?_
    refine awp_cond rfl (fun c1 => ?_) (fun c1 => ?_)
    · have d1 := c1; try simp at d1
      have hy4 := year_top hd d1
      refine awp_skip ?_
      refine awp_block ?_
      refine awp_reg_end fun K hK => ?_
      simp [go_sem, cum_one, c0, d0, c1, d1]
      try simp (disch := omega) only [wrapI]
      repeat refine ⟨by omega, ?_⟩
      refine hK _ ?_; clear hK K
      refine ⟨y + 1, back_of' (by simp) (.refl _) (by (simp [go_sem, cum_one, c0, d0, c1, d1] <;> omega)), ⟨by omega, d1⟩, by omega⟩
    · have d1 := c1; try simp at d1
      obtain rfl : yearOf d = y := yearOf_eq hd.1 hd.2 hy2 (by omega)
      have hbb := beg_bd hy1 (by omega)
      have hdi := hd
      unfold isDay at hdi
      refine awp_exit ?_
      refine awp_reg_seq fun K hK => ?_
      simp [go_sem, cum_one, c0, d0, c1, d1]
      try simp (disch := omega) only [wrapI]
      repeat refine ⟨by omega, ?_⟩
      refine CSk.mk (ref02_before_cs _ (yearOf d) (by omega) (by omega)) ?_
      simp [go_sem, cum_one, c0, d0, c1, d1]
      try simp (disch := omega) only [wrapI]
      repeat refine ⟨by omega, ?_⟩
      refine hK _ ?_; clear hK K
      refine awp_reg_seq fun K hK => ?_
      simp [go_sem, cum_one, c0, d0, c1, d1]
      repeat refine ⟨by omega, ?_⟩
      refine hK _ ?_; clear hK K
      refine awp_seq ?_
      refine awp_block ?_
      refine awp_forget [0, 6, 7] (by simp [go_sem, restr]; rfl) ?_
      refine awp_loopU (α := Int) (fun m => [(0, .d (I (d - beg (yearOf d) - cum (yearOf d) m))), (7, .d (I m))]) (fun m => _) (fun m => 1 ≤ m ∧ m ≤ 12 ∧ cum (yearOf d) m ≤ d - beg (yearOf d)) (fun m => (12 - m).toNat) 1 (by simp [go_sem, cum_one]) rfl (⟨by omega, by omega, by rw [cum_one]; omega⟩) ?_
      rintro m ⟨hm1, hm2, hm3⟩
      have hlf : lenF (yearOf d) m = lenM (yearOf d) m := lenF_in (by omega)
      have hcs := cum_succ (y := yearOf d) hm1 hm2
      have hlb := lenM_le (yearOf d) m
      have hlp := lenM_pos (yearOf d) m
      have hcb := cum_bd (yearOf d) hm1 (by omega)
      refine awp_seq ?_
      refine awp_reg_seq fun K hK => ?_
      simp [go_sem, cum_one, c0, d0, c1, d1]
      repeat refine ⟨by omega, ?_⟩
      refine CSk.mk (ref02_Length_cs _ _ _) ?_
      simp [go_sem, cum_one, c0, d0, c1, d1]
      repeat refine ⟨by omega, ?_⟩
      refine hK _ ?_; clear hK K
      refine awp_forget [0, 6, 7, 29] (by simp only [restr, List.contains_cons, List.contains_nil, Nat.reduceBEq, Bool.or_false, Bool.or_true, Bool.true_or, Bool.false_or, if_true, if_false, Bool.false_eq_true]; rfl) ?_
      refine awp_cond rfl (fun c2 => ?_) (fun c2 => ?_)
      · have d2 := c2; try simp at d2
        have hm4 : m ≠ 12 := by
          rintro rfl
          have := (yearOf_spec hd.1 hd.2).2
          rw [beg_cum] at this
          simp only [Int.reduceAdd] at hcs
          omega
        refine awp_skip ?_
        refine awp_block ?_
        refine awp_reg_seq fun K hK => ?_
        simp [go_sem, cum_one, c0, d0, c1, d1, c2, d2]
        try simp (disch := omega) only [wrapI]
        repeat refine ⟨by omega, ?_⟩
        refine CSk.mk (ref02_Length_cs _ _ _) ?_
        simp [go_sem, cum_one, c0, d0, c1, d1, c2, d2]
        try simp (disch := omega) only [wrapI]
        repeat refine ⟨by omega, ?_⟩
        refine hK _ ?_; clear hK K
        refine awp_reg_end fun K hK => ?_
        simp [go_sem, cum_one, c0, d0, c1, d1, c2, d2]
        try simp (disch := omega) only [wrapI]
        repeat refine ⟨by omega, ?_⟩
        refine hK _ ?_; clear hK K
        refine ⟨m + 1, back_of' (by simp) (.refl _) (by (simp [go_sem, cum_one, c0, d0, c1, d1, c2, d2] <;> omega)), ⟨by omega, by omega, by omega⟩, by omega⟩
      · have d2 := c2; try simp at d2
        obtain rfl : monD d = m := by
          unfold monD
          have := (yearOf_spec hd.1 hd.2).2
          rw [beg_cum] at this
          have hs := monOf_spec (y := yearOf d) (r := d - beg (yearOf d)) (by omega) (by omega)
          exact month_unique hs.2.2.1 hs.2.2.2 hm3 (by omega)
        refine awp_exit ?_
        refine awp_reg_seq fun K hK => ?_
        simp [go_sem, cum_one, c0, d0, c1, d1, c2, d2]
        try simp (disch := omega) only [wrapI]
        repeat refine ⟨by omega, ?_⟩
        refine hK _ ?_; clear hK K
        refine awp_ret ?_
        have hz : dateF d = (yearOf d, monD d, dayD d, 0) := by unfold dateF; rw [if_pos hd]
        rw [hz]; simp [go_sem, Tryz.results164, dayD]
theorem ref02_Years_cs (σ : List Blk) (d n : Int) : CSF Tryz.prog 151 [.d (I d), .d (I n)] σ (.tup [.d (I (yearsR d n).1), .d (I (yearsR d n).2)]) := by
  refine CSF.of_body T.en151 Tryz.func151 rfl (by simp [Tryz.ntmps151]) (by simp [go_sem]) fun hwf => ?_
  refine awp_reg_seq fun K hK => ?_
  simp [go_sem, Tryz.ntmps151]
  repeat refine ⟨by omega, ?_⟩
  refine hK _ ?_; clear hK K
  refine awp_seq ?_
  refine awp_reg_seq fun K hK => ?_
  simp [go_sem]
  repeat refine ⟨by omega, ?_⟩
  refine CSk.mk (ref02_Good_cs _ _) ?_
  simp [go_sem]
  repeat refine ⟨by omega, ?_⟩
  refine hK _ ?_; clear hK K
  refine awp_forget [0, 1, 22] (by simp only [restr, List.contains_cons, List.contains_nil, Nat.reduceBEq, Bool.or_false, Bool.or_true, Bool.true_or, Bool.false_or, if_true, if_false, Bool.false_eq_true]; rfl) ?_
  refine awp_cond rfl (fun c0 => ?_) (fun c0 => ?_)
  · have d0 := c0; try simp at d0
    have hz : yearsR d n = (0, 2) := by
      unfold yearsR
      rw [if_neg]
      rintro ⟨h1, h2, h3⟩
      rcases d0 with (h | h) | h
      · exact h h1
      · omega
      · omega
    refine awp_reg_seq fun K hK => ?_
    simp [go_sem, c0, d0]
    repeat refine ⟨by omega, ?_⟩
    refine hK _ ?_; clear hK K
    refine awp_ret ?_
    rw [hz]; simp [go_sem, Tryz.results151]
  · have d0 := c0; try simp at d0
    have hd : isDay d := d0.1.1
    have hr := yearOf_range hd.1 hd.2
    have hz : yearsR d n = (yearsF d n, 0) := by unfold yearsR; rw [if_pos ⟨hd, by omega, by omega⟩]
    have hdf := dateF_ok hd
    refine awp_skip ?_
    refine awp_reg_seq fun K hK => ?_
    simp [go_sem, c0, d0, hdf]
    repeat refine ⟨by omega, ?_⟩
    refine CSk.mk (ref02_Date_cs _ _) ?_
    simp [go_sem, c0, d0, hdf]
    repeat refine ⟨by omega, ?_⟩
    refine hK _ ?_; clear hK K
    refine awp_reg_seq fun K hK => ?_
    simp [go_sem, c0, d0, hdf]
    try simp (disch := omega) only [wrapI]
    repeat refine ⟨by omega, ?_⟩
    refine hK _ ?_; clear hK K
    refine awp_seq ?_
    refine awp_reg_seq fun K hK => ?_
    simp [go_sem, c0, d0, hdf]
    repeat refine ⟨by omega, ?_⟩
    refine CSm.mk (ref02_leap_cs _ (yearOf d + n) (by omega)) ?_
    simp [go_sem, c0, d0, hdf]
    repeat refine ⟨by omega, ?_⟩
    refine hK _ ?_; clear hK K
    refine awp_forget [6, 7, 8, 43] (by simp only [restr, List.contains_cons, List.contains_nil, Nat.reduceBEq, Bool.or_false, Bool.or_true, Bool.true_or, Bool.false_or, if_true, if_false, Bool.false_eq_true]; rfl) ?_
    refine awp_cond rfl (fun c1 => ?_) (fun c1 => ?_)
    · have d1 := c1; try simp at d1
      have hy := years_ref hd (n := n) (by omega) (by omega) (k := 28) (by rw [if_pos d1])
      rw [d1.1.1] at hy
      refine awp_reg_end fun K hK => ?_
      simp [go_sem, c0, d0, hdf, c1, d1]
      repeat refine ⟨by omega, ?_⟩
      refine hK _ ?_; clear hK K
      refine awp_reg_seq fun K hK => ?_
      simp [go_sem, c0, d0, hdf, c1, d1]
      repeat refine ⟨by omega, ?_⟩
      refine CSk.mk (ref02_Of_cs _ _ _ _) ?_
      simp [go_sem, c0, d0, hdf, c1, d1]
      repeat refine ⟨by omega, ?_⟩
      refine hK _ ?_; clear hK K
      refine awp_seq ?_
      refine awp_reg_seq fun K hK => ?_
      simp [go_sem, c0, d0, hdf, c1, d1]
      repeat refine ⟨by omega, ?_⟩
      refine hK _ ?_; clear hK K
      refine awp_forget [10, 52] (by simp only [restr, List.contains_cons, List.contains_nil, Nat.reduceBEq, Bool.or_false, Bool.or_true, Bool.true_or, Bool.false_or, if_true, if_false, Bool.false_eq_true]; rfl) ?_
      refine awp_cond rfl (fun c2 => ?_) (fun c2 => ?_)
      · have d2 := c2; try simp at d2
        rw [if_neg d2] at hy
        refine awp_reg_seq fun K hK => ?_
        simp [go_sem, c0, d0, hdf, c1, d1, c2, d2]
        repeat refine ⟨by omega, ?_⟩
        refine hK _ ?_; clear hK K
        refine awp_ret ?_
        rw [hz, hy]; simp [go_sem, Tryz.results151]
      · have d2 := c2; try simp at d2
        rw [if_pos d2] at hy
        refine awp_skip ?_
        refine awp_reg_seq fun K hK => ?_
        simp [go_sem, c0, d0, hdf, c1, d1, c2, d2]
        repeat refine ⟨by omega, ?_⟩
        refine hK _ ?_; clear hK K
        refine awp_ret ?_
        rw [hz, hy]; simp [go_sem, Tryz.results151]
    · have d1 := c1; try simp at d1
      have hy := years_ref hd (n := n) (by omega) (by omega) (k := dayD d) (by rw [if_neg]; rintro ⟨⟨h1, h2⟩, h3⟩; exact absurd (d1 h1 h2) (by simp [h3]))
      refine awp_skip ?_
      refine awp_reg_seq fun K hK => ?_
      simp [go_sem, c0, d0, hdf, c1, d1]
      repeat refine ⟨by omega, ?_⟩
      refine CSk.mk (ref02_Of_cs _ _ _ _) ?_
      simp [go_sem, c0, d0, hdf, c1, d1]
      repeat refine ⟨by omega, ?_⟩
      refine hK _ ?_; clear hK K
      refine awp_seq ?_
      refine awp_reg_seq fun K hK => ?_
      simp [go_sem, c0, d0, hdf, c1, d1]
      repeat refine ⟨by omega, ?_⟩
      refine hK _ ?_; clear hK K
      refine awp_forget [10, 52] (by simp only [restr, List.contains_cons, List.contains_nil, Nat.reduceBEq, Bool.or_false, Bool.or_true, Bool.true_or, Bool.false_or, if_true, if_false, Bool.false_eq_true]; rfl) ?_
      refine awp_cond rfl (fun c3 => ?_) (fun c3 => ?_)
      · have d3 := c3; try simp at d3
        rw [if_neg d3] at hy
        refine awp_reg_seq fun K hK => ?_
        simp [go_sem, c0, d0, hdf, c1, d1, c3, d3]
        repeat refine ⟨by omega, ?_⟩
        refine hK _ ?_; clear hK K
        refine awp_ret ?_
        rw [hz, hy]; simp [go_sem, Tryz.results151]
      · have d3 := c3; try simp at d3
        rw [if_pos d3] at hy
        refine awp_skip ?_
        refine awp_reg_seq fun K hK => ?_
        simp [go_sem, c0, d0, hdf, c1, d1, c3, d3]
        repeat refine ⟨by omega, ?_⟩
        refine hK _ ?_; clear hK K
        refine awp_ret ?_
        rw [hz, hy]; simp [go_sem, Tryz.results151]
theorem ref02_YearEnd_cs (σ : List Blk) (d : Int) : CSF Tryz.prog 152 [.d (I d)] σ (.tup [.d (I (yearEndR d).1), .d (I (yearEndR d).2)]) := by
  refine CSF.of_body T.en152 Tryz.func152 rfl (by simp [Tryz.ntmps152]) (by simp [go_sem]) fun hwf => ?_
  refine awp_reg_seq fun K hK => ?_
  simp [go_sem, Tryz.ntmps152]
  repeat refine ⟨by omega, ?_⟩
  refine hK _ ?_; clear hK K
  refine awp_reg_seq fun K hK => ?_
  simp [go_sem]
  repeat refine ⟨by omega, ?_⟩
  refine CSk.mk (ref02_Date_cs _ _) ?_
  simp [go_sem]
  repeat refine ⟨by omega, ?_⟩
  refine hK _ ?_; clear hK K
  refine awp_seq ?_
  refine awp_reg_seq fun K hK => ?_
  simp [go_sem]
  repeat refine ⟨by omega, ?_⟩
  refine hK _ ?_; clear hK K
  refine awp_forget [4, 7, 18] (by simp only [restr, List.contains_cons, List.contains_nil, Nat.reduceBEq, Bool.or_false, Bool.or_true, Bool.true_or, Bool.false_or, if_true, if_false, Bool.false_eq_true]; rfl) ?_
  refine awp_cond rfl (fun c0 => ?_) (fun c0 => ?_)
  · have d0 := c0; try simp at d0
    have hn : ¬ isDay d := fun h => d0 (date_err.2 h)
    have hz : yearEndR d = (0, 2) := by unfold yearEndR; rw [if_neg hn]
    refine awp_reg_seq fun K hK => ?_
    simp [go_sem, c0, d0]
    repeat refine ⟨by omega, ?_⟩
    refine hK _ ?_; clear hK K
    refine awp_ret ?_
    rw [hz]; simp [go_sem, Tryz.results152, dateF_no hn]
  · have d0 := c0; try simp at d0
    have hd : isDay d := date_err.1 d0
    have hy := yearEnd_ref hd
    have hz : yearEndR d = (yearEndF d, 0) := by unfold yearEndR; rw [if_pos hd]
    simp only [dateF_ok hd] at c0 d0 ⊢
    refine awp_skip ?_
    refine awp_reg_seq fun K hK => ?_
    simp [go_sem, c0, d0]
    repeat refine ⟨by omega, ?_⟩
    refine CSk.mk (ref02_Of_cs _ _ _ _) ?_
    simp [go_sem, c0, d0]
    repeat refine ⟨by omega, ?_⟩
    refine hK _ ?_; clear hK K
    refine awp_seq ?_
    refine awp_reg_seq fun K hK => ?_
    simp [go_sem, c0, d0]
    repeat refine ⟨by omega, ?_⟩
    refine hK _ ?_; clear hK K
    refine awp_forget [8, 26] (by simp only [restr, List.contains_cons, List.contains_nil, Nat.reduceBEq, Bool.or_false, Bool.or_true, Bool.true_or, Bool.false_or, if_true, if_false, Bool.false_eq_true]; rfl) ?_
    refine awp_cond rfl (fun c1 => ?_) (fun c1 => ?_)
    · have d1 := c1; try simp at d1
      rw [if_neg d1] at hy
      refine awp_reg_seq fun K hK => ?_
      simp [go_sem, c0, d0, c1, d1]
      repeat refine ⟨by omega, ?_⟩
      refine hK _ ?_; clear hK K
      refine awp_ret ?_
      rw [hz, hy]; simp [go_sem, Tryz.results152]
    · have d1 := c1; try simp at d1
      rw [if_pos d1] at hy
      refine awp_skip ?_
      refine awp_reg_seq fun K hK => ?_
      simp [go_sem, c0, d0, c1, d1]
      repeat refine ⟨by omega, ?_⟩
      refine hK _ ?_; clear hK K
      refine awp_ret ?_
      rw [hz, hy]; simp [go_sem, Tryz.results152]
end Go.Proofs.YtkochmppmpmddaaGreat

/-! Be -/
namespace Go.Proofs.YtkochmppmpmddaaGreat
open Go.Abs Go.Arch
set_option linter.unusedVariables false
set_option linter.unusedSimpArgs false
set_option maxRecDepth 100000
set_option maxHeartbeats 400000
structure Dating where
  First : Int
  Last : Int
def Dating.enc (m : Dating) : List D := [I m.First, I m.Last]
structure Ground where
  Kind : Int
  Source : Int
  Unit : Int
  Until : Int
def Ground.enc (m : Ground) : List D := [I m.Kind, I m.Source, I m.Unit, I m.Until]
def Ground.zero : Ground := ⟨0, 0, 0, 0⟩
def Rule.zero : Rule := ⟨0, 0, 0, false, ⟨0, 0⟩⟩
attribute [go_sem] Dating.enc Ground.enc
def datOk (m : Dating) : Bool := decide (0 ≤ m.First) && decide (m.First ≤ m.Last) && decide (m.Last ≤ 1048575)
def datChk (m : Dating) : Int := if datOk m = true then 0 else 1
theorem datChk_no {m : Dating} (h : (m.First < 0 ∨ m.Last < m.First) ∨ 1048575 < m.Last) : datChk m = 1 := by
  unfold datChk datOk; rw [if_neg]; simp; omega
theorem datChk_ok {m : Dating} (h : (0 ≤ m.First ∧ m.First ≤ m.Last) ∧ m.Last ≤ 1048575) : datChk m = 0 := by
  unfold datChk datOk; rw [if_pos]; simpa using h
theorem datChk_0 {m : Dating} : datChk m = 0 ↔ datOk m = true := by unfold datChk; split <;> simp_all
theorem datOk_day {m : Dating} (h : datOk m = true) : isDay m.Last := by
  unfold datOk at h; simp at h; unfold isDay; omega
theorem ofD_nn {y m k : Int} (h1 : 1600 ≤ y) (h2 : y ≤ 4700) (h3 : 1 ≤ m) (h4 : m ≤ 12) (h5 : 1 ≤ k) : 0 ≤ ofD y m k := by
  have := beg_bd h1 h2
  have := cum_bd y h3 (by omega)
  unfold ofD; omega
theorem yearsF_bd {d n : Int} (h : isDay d) (h0 : 0 ≤ n) : isDay (yearsF d n) := by
  have hs := date_spec h.1 h.2
  have hr := yearOf_range h.1 h.2
  unfold yearsF isDay
  dsimp only
  split
  · omega
  · have hp := lenM_pos (yearOf d + n) (monD d)
    have := ofD_nn (y := yearOf d + n) (m := monD d) (k := min (dayD d) (lenM (yearOf d + n) (monD d))) (by omega) (by omega) hs.1 hs.2.1 (by omega)
    split <;> omega
theorem yearsR_bd (d n : Int) : isDay (yearsR d n).1 := by
  unfold yearsR
  split
  · rename_i h; exact yearsF_bd h.1 h.2.1
  · unfold isDay; simp
theorem yearEndF_bd {d : Int} (h : isDay d) : isDay (yearEndF d) := by
  have hr := yearOf_range h.1 h.2
  have hb := beg_bd (y := yearOf d) (by omega) (by omega)
  have hs := beg_strict (a := yearOf d) (b := yearOf d + 1) (by omega)
  unfold yearEndF isDay; omega
theorem yearEndR_bd (d : Int) : isDay (yearEndR d).1 := by
  unfold yearEndR
  split
  · rename_i h; exact yearEndF_bd h
  · unfold isDay; simp
def lastF (r : Rule) (m : Dating) : Int := if r.YearEnd = true then (yearEndR (yearsR m.Last r.Years).1).1 else (yearsR m.Last r.Years).1
theorem lastF_bd (r : Rule) (m : Dating) : isDay (lastF r m) := by
  unfold lastF
  split
  · exact yearEndR_bd _
  · exact yearsR_bd _ _
theorem dating_Check_cs (σ : List Blk) (m : Dating) : CSF Tryz.prog 72 [.agg (m.enc.map .d)] σ (.d (I (datChk m))) := by
  refine CSF.of_body T.en72 Tryz.func72 rfl (by simp [Tryz.ntmps72]) (by simp [go_sem]) fun hwf => ?_
  refine awp_reg_seq fun K hK => ?_
  simp [go_sem, Tryz.ntmps72]
  repeat refine ⟨by omega, ?_⟩
  refine hK _ ?_; clear hK K
  refine awp_seq ?_
  refine awp_reg_seq fun K hK => ?_
  simp [go_sem]
  repeat refine ⟨by omega, ?_⟩
  refine hK _ ?_; clear hK K
  refine awp_forget [17] (by simp only [restr, List.contains_cons, List.contains_nil, Nat.reduceBEq, Bool.or_false, Bool.or_true, Bool.true_or, Bool.false_or, if_true, if_false, Bool.false_eq_true]; rfl) ?_
  refine awp_cond rfl (fun c0 => ?_) (fun c0 => ?_)
  · have d0 := c0; try simp at d0
    refine awp_reg_seq fun K hK => ?_
    simp [go_sem, c0, d0]
    repeat refine ⟨by omega, ?_⟩
    refine hK _ ?_; clear hK K
    refine awp_ret ?_
    rw [datChk_no d0]; simp [go_sem, Tryz.results72]
  · have d0 := c0; try simp at d0
    refine awp_skip ?_
    refine awp_reg_seq fun K hK => ?_
    simp [go_sem, c0, d0]
    repeat refine ⟨by omega, ?_⟩
    refine hK _ ?_; clear hK K
    refine awp_ret ?_
    rw [datChk_ok d0]; simp [go_sem, Tryz.results72]
theorem ref03_Good_cs (σ : List Blk) (m : Dating) : CSF Tryz.prog 122 [.agg (m.enc.map .d)] σ (.d (B (datOk m))) := by
  refine CSF.of_body T.en122 Tryz.func122 rfl (by simp [Tryz.ntmps122]) (by simp [go_sem]) fun hwf => ?_
  refine awp_reg_seq fun K hK => ?_
  simp [go_sem, Tryz.ntmps122]
  repeat refine ⟨by omega, ?_⟩
  refine hK _ ?_; clear hK K
  refine awp_reg_seq fun K hK => ?_
  simp [go_sem]
  repeat refine ⟨by omega, ?_⟩
  refine hK _ ?_; clear hK K
  refine awp_ret ?_
  simp [go_sem, Tryz.results122, datOk] <;> omega
theorem ref03_Check_cs (σ : List Blk) (m : Dating) : CSF Tryz.prog 92 [.agg (m.enc.map .d)] σ (.d (I (datChk m))) := by
  refine CSF.of_body T.en92 Tryz.func92 rfl (by simp [Tryz.ntmps92]) (by simp [go_sem]) fun hwf => ?_
  refine awp_reg_seq fun K hK => ?_
  simp [go_sem, Tryz.ntmps92]
  repeat refine ⟨by omega, ?_⟩
  refine hK _ ?_; clear hK K
  refine awp_seq ?_
  refine awp_reg_seq fun K hK => ?_
  simp [go_sem]
  repeat refine ⟨by omega, ?_⟩
  refine CSk.mk (ref03_Good_cs _ _) ?_
  simp [go_sem]
  repeat refine ⟨by omega, ?_⟩
  refine hK _ ?_; clear hK K
  refine awp_cond rfl (fun c0 => ?_) (fun c0 => ?_)
  · have d0 := c0; try simp at d0
    refine awp_reg_seq fun K hK => ?_
    simp [go_sem, c0, d0]
    repeat refine ⟨by omega, ?_⟩
    refine hK _ ?_; clear hK K
    refine awp_ret ?_
    simp [go_sem, Tryz.results92, datChk, c0, d0] <;> omega
  · have d0 := c0; try simp at d0
    refine awp_skip ?_
    refine awp_reg_seq fun K hK => ?_
    simp [go_sem, c0, d0]
    repeat refine ⟨by omega, ?_⟩
    refine hK _ ?_; clear hK K
    refine awp_ret ?_
    simp [go_sem, Tryz.results92, datChk, c0, d0] <;> omega
theorem closure_until_cs (σ : List Blk) (r : Rule) (m : Dating) : CSF Tryz.prog 136 [.agg (r.enc.map .d), .agg (m.enc.map .d)] σ (.d (I (lastF r m + 1))) := by
  refine CSF.of_body T.en136 Tryz.func136 rfl (by simp [Tryz.ntmps136]) (by simp [go_sem]) fun hwf => ?_
  refine awp_reg_seq fun K hK => ?_
  simp [go_sem, Tryz.ntmps136]
  repeat refine ⟨by omega, ?_⟩
  refine hK _ ?_; clear hK K
  refine awp_reg_seq fun K hK => ?_
  simp [go_sem]
  repeat refine ⟨by omega, ?_⟩
  refine CSk.mk (day_Years_cs _ m.Last r.Years) ?_
  simp [go_sem]
  repeat refine ⟨by omega, ?_⟩
  refine hK _ ?_; clear hK K
  refine awp_seq ?_
  refine awp_reg_seq fun K hK => ?_
  simp [go_sem]
  repeat refine ⟨by omega, ?_⟩
  refine hK _ ?_; clear hK K
  refine awp_forget [5, 16] (by simp only [restr, List.contains_cons, List.contains_nil, Nat.reduceBEq, Bool.or_false, Bool.or_true, Bool.true_or, Bool.false_or, if_true, if_false, Bool.false_eq_true]; rfl) ?_
  refine awp_cond rfl (fun c0 => ?_) (fun c0 => ?_)
  · have d0 := c0; try simp at d0
    have hl : lastF r m = (yearEndR (yearsR m.Last r.Years).1).1 := by unfold lastF; rw [if_pos c0]
    have hb := lastF_bd r m
    rw [hl] at hb ⊢
    unfold isDay at hb
    refine awp_reg_end fun K hK => ?_
    simp [go_sem, c0, d0]
    repeat refine ⟨by omega, ?_⟩
    refine CSk.mk (day_YearEnd_cs _ (yearsR m.Last r.Years).1) ?_
    simp [go_sem, c0, d0]
    repeat refine ⟨by omega, ?_⟩
    refine hK _ ?_; clear hK K
    refine awp_reg_seq fun K hK => ?_
    simp [go_sem, c0, d0]
    try simp (disch := omega) only [wrapI]
    repeat refine ⟨by omega, ?_⟩
    refine hK _ ?_; clear hK K
    refine awp_ret ?_
    simp [go_sem, Tryz.results136, c0, d0] <;> omega
  · have d0 := c0; try simp at d0
    have hl : lastF r m = (yearsR m.Last r.Years).1 := by unfold lastF; rw [if_neg (by simp [c0])]
    have hb := lastF_bd r m
    rw [hl] at hb ⊢
    unfold isDay at hb
    refine awp_skip ?_
    refine awp_reg_seq fun K hK => ?_
    simp [go_sem, c0, d0]
    try simp (disch := omega) only [wrapI]
    repeat refine ⟨by omega, ?_⟩
    refine hK _ ?_; clear hK K
    refine awp_ret ?_
    simp [go_sem, Tryz.results136, c0, d0] <;> omega
def untilR (r : Rule) (m : Dating) : Int × Int := if formed r = false then (0, 2) else if datChk m ≠ 0 then (0, 1) else (lastF r m + 1, 0)
def inB (k d : Int) (r : Rule) : Bool := (r.Class == k) && decide (r.In.From ≤ d) && decide (d < r.In.Until)
theorem closure_InForce_1_cs (σ : List Blk) (τ : List Blk) (r : Rule) (k d : Int) : CSF Tryz.prog 154 [.agg (r.enc.map .d), .ptr σ.length 0, .ptr (σ.length + 1) 0] (σ ++ .var [.d (I k)] :: .var [.d (I d)] :: τ) (.d (B (inB k d r))) := by
  refine CSF.of_body T.en154 Tryz.func154 rfl (by simp [Tryz.ntmps154]) (by simp [go_sem]) fun hwf => ?_
  refine awp_reg_seq fun K hK => ?_
  simp [go_sem, Tryz.ntmps154]
  repeat refine ⟨by omega, ?_⟩
  refine hK _ ?_; clear hK K
  refine awp_reg_seq fun K hK => ?_
  simp [go_sem]
  repeat refine ⟨by omega, ?_⟩
  refine hK _ ?_; clear hK K
  refine awp_ret ?_
  simp [go_sem, Tryz.results154, inB] <;> omega
def inForceI (n : Nat) (g : Nat → Rule) (k d : Int) : Int := idxFrom (inB k d) (lst n g) 0
theorem inForceI_lt (n : Nat) (g : Nat → Rule) (k d : Int) : inForceI n g k d < n := by
  rcases idx_spec (inB k d) (lst n g) 0 with ⟨h, _⟩ | ⟨q, h1, h2, _⟩
  · unfold inForceI; omega
  · unfold inForceI; rw [lst_length] at h1; omega
def inForceR (n : Nat) (g : Nat → Rule) (k d : Int) : Rule × Bool := if inForceI n g k d < 0 ∨ check n g ≠ 0 then (Rule.zero, false) else (g (inForceI n g k d).toNat, true)
theorem closure_InForce_cs (σ : List Blk) (c : Option Nat) (n : Nat) (g : Nat → Rule) (k d : Int) (hn : n < 1000000000) : CSF Tryz.prog 135 [.d (SL c 6 Rule.enc n g), .d (I k), .d (I d)] σ (.tup [.agg ((inForceR n g k d).1.enc.map .d), .d (B (inForceR n g k d).2)]) := by
  have hlt := inForceI_lt n g k d
  refine CSF.of_body T.en135 Tryz.func135 rfl (by simp [Tryz.ntmps135]) (by simp [go_sem]) fun hwf => ?_
  refine awp_reg_seq fun K hK => ?_
  simp [go_sem, Tryz.ntmps135]
  repeat refine ⟨by omega, ?_⟩
  refine hK _ ?_; clear hK K
  refine awp_reg_seq fun K hK => ?_
  simp [go_sem]
  repeat refine ⟨by omega, ?_⟩
  refine CSk.mk ((show CSF Tryz.prog 117 _ _ (.d (I (inForceI n g k d))) from indexRule_cs _ c n g _ _ (inB k d) hn (fun i hi => closure_InForce_1_cs σ _ (g i) k d))) ?_
  simp [go_sem]
  repeat refine ⟨by omega, ?_⟩
  refine hK _ ?_; clear hK K
  refine awp_seq ?_
  refine awp_reg_seq fun K hK => ?_
  simp [go_sem]
  repeat refine ⟨by omega, ?_⟩
  refine CSm.mk (closure_Check_cs _ c n g hn) ?_
  simp [go_sem]
  repeat refine ⟨by omega, ?_⟩
  refine hK _ ?_; clear hK K
  refine awp_forget [0, 6, 8, 18] (by simp only [restr, List.contains_cons, List.contains_nil, Nat.reduceBEq, Bool.or_false, Bool.or_true, Bool.true_or, Bool.false_or, if_true, if_false, Bool.false_eq_true]; rfl) ?_
  refine awp_cond rfl (fun c0 => ?_) (fun c0 => ?_)
  · have d0 := c0; try simp at d0
    refine awp_reg_seq fun K hK => ?_
    simp [go_sem, c0, d0]
    repeat refine ⟨by omega, ?_⟩
    refine hK _ ?_; clear hK K
    refine awp_ret ?_
    have hz : inForceR n g k d = (Rule.zero, false) := by unfold inForceR; rw [if_pos d0]
    rw [hz]; simp [go_sem, Tryz.results135, Rule.zero]
  · have d0 := c0; try simp at d0
    refine awp_skip ?_
    refine awp_reg_seq fun K hK => ?_
    simp [go_sem, c0, d0]
    repeat refine ⟨by omega, ?_⟩
    refine hK _ ?_; clear hK K
    refine awp_ret ?_
    have hz : inForceR n g k d = (g (inForceI n g k d).toNat, true) := by unfold inForceR; rw [if_neg (by omega)]
    rw [hz]; simp [go_sem, Tryz.results135]
def closedR (n : Nat) (g : Nat → Rule) (k : Int) (m : Dating) (d : Int) : Ground × Bool :=
  if (inForceR n g k d).2 = false ∨ datChk m ≠ 0 ∨ lastF (inForceR n g k d).1 m + 1 ≤ d then (Ground.zero, false) else (⟨1, (inForceR n g k d).1.ID, 0, lastF (inForceR n g k d).1 m + 1⟩, true)
theorem closure_Closed_cs (σ : List Blk) (c : Option Nat) (n : Nat) (g : Nat → Rule) (k : Int) (m : Dating) (d : Int) (hn : n < 1000000000) : CSF Tryz.prog 103 [.d (SL c 6 Rule.enc n g), .d (I k), .agg (m.enc.map .d), .d (I d)] σ (.tup [.agg ((closedR n g k m d).1.enc.map .d), .d (B (closedR n g k m d).2)]) := by
  refine CSF.of_body T.en103 Tryz.func103 rfl (by simp [Tryz.ntmps103]) (by simp [go_sem]) fun hwf => ?_
  refine awp_reg_seq fun K hK => ?_
  simp [go_sem, Tryz.ntmps103]
  repeat refine ⟨by omega, ?_⟩
  refine hK _ ?_; clear hK K
  refine awp_reg_seq fun K hK => ?_
  simp [go_sem]
  repeat refine ⟨by omega, ?_⟩
  refine CSk.mk (closure_InForce_cs _ c n g k d hn) ?_
  simp [go_sem]
  repeat refine ⟨by omega, ?_⟩
  refine hK _ ?_; clear hK K
  refine awp_seq ?_
  refine awp_reg_seq fun K hK => ?_
  simp [go_sem]
  repeat refine ⟨by omega, ?_⟩
  refine CSm.mk (dating_Check_cs _ m) ?_
  simp [go_sem]
  repeat refine ⟨by omega, ?_⟩
  refine CSm.mk (closure_until_cs _ (inForceR n g k d).1 m) ?_
  simp [go_sem]
  repeat refine ⟨by omega, ?_⟩
  refine hK _ ?_; clear hK K
  refine awp_forget [6, 8, 10, 32] (by simp only [restr, List.contains_cons, List.contains_nil, Nat.reduceBEq, Bool.or_false, Bool.or_true, Bool.true_or, Bool.false_or, if_true, if_false, Bool.false_eq_true]; rfl) ?_
  refine awp_cond rfl (fun c0 => ?_) (fun c0 => ?_)
  · have d0 := c0; try simp at d0
    have hz : closedR n g k m d = (Ground.zero, false) := by unfold closedR; rw [if_pos (by rcases d0 with (h | h) | h <;> simp [h])]
    refine awp_reg_seq fun K hK => ?_
    simp [go_sem, c0, d0]
    repeat refine ⟨by omega, ?_⟩
    refine hK _ ?_; clear hK K
    refine awp_ret ?_
    rw [hz]; simp [go_sem, Tryz.results103, Ground.zero]
  · have d0 := c0; try simp at d0
    have hz : closedR n g k m d = (⟨1, (inForceR n g k d).1.ID, 0, lastF (inForceR n g k d).1 m + 1⟩, true) := by unfold closedR; rw [if_neg (by simp [d0])]
    refine awp_skip ?_
    refine awp_draw_seq 6 T.mixed (by kernel_rfl) fun K hK => ?_
    simp [go_sem, c0, d0]
    repeat refine ⟨by omega, ?_⟩
    refine CSg.mk (closure_until_cs _ (inForceR n g k d).1 m) ?_
    simp [go_sem, c0, d0]
    repeat refine ⟨by omega, ?_⟩
    refine hK _ ?_; clear hK K
    refine awp_ret ?_
    rw [hz]; simp [go_sem, Tryz.results103]
theorem cloneRule_cs (σ : List Blk) (c : Option Nat) (n : Nat) (g : Nat → Rule) (hn : n < 1000000000) : CSF Tryz.prog 54 [.d (SL c 6 Rule.enc n g)] σ (.d (SL none 6 Rule.enc n g)) := by
  refine CSF.of_body T.en54 Tryz.func54 rfl (by simp [Tryz.ntmps54]) (by simp [go_sem]) fun hwf => ?_
  refine awp_reg_seq fun K hK => ?_
  simp [go_sem, Tryz.ntmps54]
  repeat refine ⟨by omega, ?_⟩
  refine hK _ ?_; clear hK K
  refine awp_seq ?_
  refine awp_reg_seq fun K hK => ?_
  simp [go_sem, -Bool.forall_bool]
  intro b1 hb1
  repeat refine ⟨by omega, ?_⟩
  refine hK _ ?_; clear hK K
  refine awp_cond rfl (fun c0 => ?_) (fun c0 => ?_)
  · have d0 := c0; try simp at d0
    refine awp_reg_seq fun K hK => ?_
    simp [go_sem, c0, d0]
    repeat refine ⟨by omega, ?_⟩
    refine hK _ ?_; clear hK K
    refine awp_ret ?_
    have := hb1 c0
    simp [go_sem, Tryz.results54, this]
  · have d0 := c0; try simp at d0
    refine awp_skip ?_
    refine awp_reg_seq fun K hK => ?_
    simp [go_sem, c0, d0]
    repeat refine ⟨by omega, ?_⟩
    refine hK _ ?_; clear hK K
    refine awp_freeze (σ.length) (by simp [go_sem]; exact ⟨rfl, rfl, rfl⟩) (by simp [go_sem]; rfl) (by simp [go_sem, hwf.frz, hwf.frz0]; rfl) ?_
    refine awp_ret ?_
    simp [go_sem, Tryz.results54, c0, d0] <;> omega
theorem cloneRuleM_cs (σ : List Blk) (c : Option Nat) (n : Nat) (g : Nat → Rule) (hn : n < 1000000000) : CS Tryz.prog 54 [.d (SL c 6 Rule.enc n g)] σ (fun r σ' X => r = .ms σ.length 6 0 n ∧ σ' = σ ++ [.arr 6 n fun i => Rule.enc (g i)] ∧ X = []) := by
  refine CS.of_bodyW T.en54 Tryz.func54 rfl (by simp [Tryz.ntmps54]) fun hwf => ?_
  refine awp_reg_seq fun K hK => ?_
  simp [go_sem, Tryz.ntmps54]
  repeat refine ⟨by omega, ?_⟩
  refine hK _ ?_; clear hK K
  refine awp_seq ?_
  refine awp_reg_seq fun K hK => ?_
  simp [go_sem, -Bool.forall_bool]
  intro b1 hb1
  repeat refine ⟨by omega, ?_⟩
  refine hK _ ?_; clear hK K
  refine awp_cond rfl (fun c0 => ?_) (fun c0 => ?_)
  · have d0 := c0; try simp at d0
    refine awp_reg_seq fun K hK => ?_
    simp [go_sem, c0, d0]
    repeat refine ⟨by omega, ?_⟩
    refine hK _ ?_; clear hK K
    refine awp_thawT 2 6 (fun i => Rule.enc (g i)) (by simp [go_sem]) (by simp [go_sem]; rfl) ?_
    refine awp_ret ?_
    obtain rfl := hb1 c0
    simp [go_sem, Tryz.results54]
  · have d0 := c0; try simp at d0
    refine awp_skip ?_
    refine awp_reg_seq fun K hK => ?_
    simp [go_sem, c0, d0]
    repeat refine ⟨by omega, ?_⟩
    refine hK _ ?_; clear hK K
    refine awp_ret ?_
    simp [go_sem, Tryz.results54, c0, d0] <;> omega
def endR (n : Nat) (g : Nat → Rule) (id d : Int) : (Nat × (Nat → Rule)) × Int :=
  if check n g ≠ 0 then ((0, g), 1) else if idxFrom (fun r => r.ID == id) (lst n g) 0 < 0 then ((0, g), 7)
  else if d ≤ (g (idxFrom (fun r => r.ID == id) (lst n g) 0).toNat).In.From ∨ (g (idxFrom (fun r => r.ID == id) (lst n g) 0).toNat).In.Until < d then ((0, g), 2)
  else ((n, fun q => if q = (idxFrom (fun r => r.ID == id) (lst n g) 0).toNat then { g q with In := ⟨(g q).In.From, d⟩ } else g q), 0)
theorem idx_lt' {α : Type} (p : α → Bool) (n : Nat) (g : Nat → α) : idxFrom p (lst n g) 0 < n := by
  rcases idx_spec p (lst n g) 0 with ⟨h, _⟩ | ⟨q, h1, h2, _⟩
  · omega
  · rw [lst_length] at h1; omega
def askedR (n : Nat) (g : Nat → Rule) (k : Int) (m : Dating) (d : Int) : Int := if check n g ≠ 0 ∨ datChk m ≠ 0 then 1 else if k < 1 ∨ 999 < k ∨ d < 0 ∨ 1048575 < d then 2 else 0
theorem closure_asked_cs (σ : List Blk) (c : Option Nat) (n : Nat) (g : Nat → Rule) (k : Int) (m : Dating) (d : Int) (hn : n < 1000000000) : CSF Tryz.prog 137 [.d (SL c 6 Rule.enc n g), .d (I k), .agg (m.enc.map .d), .d (I d)] σ (.d (I (askedR n g k m d))) := by
  refine CSF.of_body T.en137 Tryz.func137 rfl (by simp [Tryz.ntmps137]) (by simp [go_sem]) fun hwf => ?_
  refine awp_reg_seq fun K hK => ?_
  simp [go_sem, Tryz.ntmps137]
  repeat refine ⟨by omega, ?_⟩
  refine hK _ ?_; clear hK K
  refine awp_seq ?_
  refine awp_block ?_
  refine awp_reg_seq fun K hK => ?_
  simp [go_sem]
  repeat refine ⟨by omega, ?_⟩
  refine CSk.mk (closure_Check_cs _ c n g hn) ?_
  simp [go_sem]
  repeat refine ⟨by omega, ?_⟩
  refine CSm.mk (dating_Check_cs _ m) ?_
  simp [go_sem]
  repeat refine ⟨by omega, ?_⟩
  refine hK _ ?_; clear hK K
  refine awp_forget [1, 3, 9] (by simp only [restr, List.contains_cons, List.contains_nil, Nat.reduceBEq, Bool.or_false, Bool.or_true, Bool.true_or, Bool.false_or, if_true, if_false, Bool.false_eq_true]; rfl) ?_
  refine awp_cond rfl (fun c0 => ?_) (fun c0 => ?_)
  · have d0 := c0; try simp at d0
    refine awp_reg_seq fun K hK => ?_
    simp [go_sem, c0, d0]
    repeat refine ⟨by omega, ?_⟩
    refine hK _ ?_; clear hK K
    refine awp_ret ?_
    have hz : askedR n g k m d = 1 := by unfold askedR; rw [if_pos (by omega)]
    rw [hz]; simp [go_sem, Tryz.results137]
  · have d0 := c0; try simp at d0
    refine awp_reg_seq fun K hK => ?_
    simp [go_sem, c0, d0]
    repeat refine ⟨by omega, ?_⟩
    refine hK _ ?_; clear hK K
    refine awp_forget [18] (by simp only [restr, List.contains_cons, List.contains_nil, Nat.reduceBEq, Bool.or_false, Bool.or_true, Bool.true_or, Bool.false_or, if_true, if_false, Bool.false_eq_true]; rfl) ?_
    refine awp_cond rfl (fun c1 => ?_) (fun c1 => ?_)
    · have d1 := c1; try simp at d1
      refine awp_reg_seq fun K hK => ?_
      simp [go_sem, c0, d0, c1, d1]
      repeat refine ⟨by omega, ?_⟩
      refine hK _ ?_; clear hK K
      refine awp_ret ?_
      have hz : askedR n g k m d = 2 := by unfold askedR; rw [if_neg (by omega), if_pos (by omega)]
      rw [hz]; simp [go_sem, Tryz.results137]
    · have d1 := c1; try simp at d1
      refine awp_skip ?_
      refine awp_reg_seq fun K hK => ?_
      simp [go_sem, c0, d0, c1, d1]
      repeat refine ⟨by omega, ?_⟩
      refine hK _ ?_; clear hK K
      refine awp_ret ?_
      have hz : askedR n g k m d = 0 := by unfold askedR; rw [if_neg (by omega), if_neg (by omega)]
      rw [hz]; simp [go_sem, Tryz.results137]
end Go.Proofs.YtkochmppmpmddaaGreat

/-! Bf -/
namespace Go.Proofs.YtkochmppmpmddaaGreat
open Go.Abs Go.Arch
set_option linter.unusedVariables false
set_option linter.unusedSimpArgs false
set_option maxRecDepth 100000
set_option maxHeartbeats 400000
theorem chkF_zero {g : Nat → Rule} : ∀ {k i : Nat}, chkF g i k = 0 → ∀ q, i ≤ q → q < i + k → formed (g q) = true ∧ (0 < q → (g (q - 1)).ID < (g q).ID) ∧ (lst q g).any (clash (g q)) = false
  | 0, i, h, q, h1, h2 => by omega
  | k + 1, i, h, q, h1, h2 => by
    rw [chkF] at h
    split at h
    · omega
    · rename_i hf
      split at h
      · omega
      · rename_i ho
        split at h
        · omega
        · rename_i hc
          by_cases e : q = i
          · subst e
            refine ⟨by simpa using hf, fun hq => ?_, by simpa using hc⟩
            simp [hq] at ho; omega
          · exact chkF_zero h q (by omega) (by omega)
theorem check_zero {n : Nat} {g : Nat → Rule} (h : check n g = 0) : n ≤ 64 ∧ ∀ q, q < n → formed (g q) = true ∧ (0 < q → (g (q - 1)).ID < (g q).ID) ∧ (lst q g).any (clash (g q)) = false := by
  unfold check at h
  split at h
  · omega
  · exact ⟨by omega, fun q hq => chkF_zero h q (by omega) (by omega)⟩
theorem inForce_formed {n : Nat} {g : Nat → Rule} {k d : Int} (h : (inForceR n g k d).2 = true) : formed (inForceR n g k d).1 = true := by
  unfold inForceR at h ⊢
  split at h
  · simp at h
  · rename_i hc
    rw [if_neg hc]
    have hlt := inForceI_lt n g k d
    have h0 : check n g = 0 := by omega
    exact ((check_zero h0).2 _ (by omega)).1
theorem any_drop {α : Type} {p : α → Bool} {l : List α} {q : Nat} (h : (l.drop q).any p = true) : l.any p = true := by
  rw [List.any_eq_true] at h ⊢
  obtain ⟨x, h1, h2⟩ := h
  exact ⟨x, List.mem_of_mem_drop h1, h2⟩
theorem ref31_Few_cs (σ : List Blk) (c : Option Nat) (n : Nat) (g : Nat → Rule) : CSF Tryz.prog 38 [.d (SL c 6 Rule.enc n g)] σ (.d (B (decide ((n : Int) ≤ 20)))) := by
  refine CSF.of_body T.en38 Tryz.func38 rfl (by simp [Tryz.ntmps38]) (by simp [go_sem]) fun hwf => ?_
  refine awp_reg_seq fun K hK => ?_
  simp [go_sem, Tryz.ntmps38]
  repeat refine ⟨by omega, ?_⟩
  refine hK _ ?_; clear hK K
  refine awp_reg_seq fun K hK => ?_
  simp [go_sem]
  repeat refine ⟨by omega, ?_⟩
  refine hK _ ?_; clear hK K
  refine awp_ret ?_
  simp [go_sem, Tryz.results38] <;> omega
theorem ref31_Spanned_cs (σ : List Blk) (s : Span) : CSF Tryz.prog 120 [.agg (s.enc.map .d)] σ (.d (B (spanOk s))) := by
  refine CSF.of_body T.en120 Tryz.func120 rfl (by simp [Tryz.ntmps120]) (by simp [go_sem]) fun hwf => ?_
  refine awp_reg_seq fun K hK => ?_
  simp [go_sem, Tryz.ntmps120]
  repeat refine ⟨by omega, ?_⟩
  refine hK _ ?_; clear hK K
  refine awp_reg_seq fun K hK => ?_
  simp [go_sem]
  repeat refine ⟨by omega, ?_⟩
  refine hK _ ?_; clear hK K
  refine awp_ret ?_
  simp [go_sem, Tryz.results120, spanOk] <;> omega
theorem ref31_Form_cs (σ : List Blk) (r : Rule) : CSF Tryz.prog 87 [.agg (r.enc.map .d)] σ (.d (B (formed r))) := by
  refine CSF.of_body T.en87 Tryz.func87 rfl (by simp [Tryz.ntmps87]) (by simp [go_sem]) fun hwf => ?_
  refine awp_reg_seq fun K hK => ?_
  simp [go_sem, Tryz.ntmps87]
  repeat refine ⟨by omega, ?_⟩
  refine hK _ ?_; clear hK K
  refine awp_reg_seq fun K hK => ?_
  simp [go_sem]
  repeat refine ⟨by omega, ?_⟩
  refine CSm.mk (ref31_Spanned_cs _ r.In) ?_
  simp [go_sem]
  repeat refine ⟨by omega, ?_⟩
  refine hK _ ?_; clear hK K
  refine awp_ret ?_
  simp [go_sem, Tryz.results87, formed] <;> omega
def meetB (a b : Span) : Bool := decide (a.From < b.Until) && decide (b.From < a.Until)
theorem ref31_meet_cs (σ : List Blk) (a b : Span) : CSF Tryz.prog 88 [.agg (a.enc.map .d), .agg (b.enc.map .d)] σ (.d (B (meetB a b))) := by
  refine CSF.of_body T.en88 Tryz.func88 rfl (by simp [Tryz.ntmps88]) (by simp [go_sem]) fun hwf => ?_
  refine awp_reg_seq fun K hK => ?_
  simp [go_sem, Tryz.ntmps88]
  repeat refine ⟨by omega, ?_⟩
  refine hK _ ?_; clear hK K
  refine awp_reg_seq fun K hK => ?_
  simp [go_sem]
  repeat refine ⟨by omega, ?_⟩
  refine hK _ ?_; clear hK K
  refine awp_ret ?_
  simp [go_sem, Tryz.results88, meetB] <;> omega
theorem ref31_Check_cs (σ : List Blk) (c : Option Nat) (n : Nat) (g : Nat → Rule) (hn : n < 1000000000) : CSF Tryz.prog 57 [.d (SL c 6 Rule.enc n g)] σ (.d (I (check n g))) := by
  refine CSF.of_body T.en57 Tryz.func57 rfl (by simp [Tryz.ntmps57]) (by simp [go_sem]) fun hwf => ?_
  refine awp_reg_seq fun K hK => ?_
  simp [go_sem, Tryz.ntmps57]
  repeat refine ⟨by omega, ?_⟩
  refine hK _ ?_; clear hK K
  refine awp_seq ?_
  refine awp_reg_seq fun K hK => ?_
  simp [go_sem]
  repeat refine ⟨by omega, ?_⟩
  refine hK _ ?_; clear hK K
  refine awp_forget [0, 9] (by simp only [restr, List.contains_cons, List.contains_nil, Nat.reduceBEq, Bool.or_false, Bool.or_true, Bool.true_or, Bool.false_or, if_true, if_false, Bool.false_eq_true]; rfl) ?_
  refine awp_cond rfl (fun c0 => ?_) (fun c0 => ?_)
  · have d0 := c0; try simp at d0
    refine awp_reg_seq fun K hK => ?_
    simp [go_sem, c0, d0]
    repeat refine ⟨by omega, ?_⟩
    refine hK _ ?_; clear hK K
    refine awp_ret ?_
    simp [go_sem, Tryz.results57, check, c0, d0] <;> omega
  · have d0 := c0; try simp at d0
    refine awp_skip ?_
    refine awp_seq ?_
    refine awp_reg_seq fun K hK => ?_
    simp [go_sem, c0, d0]
    repeat refine ⟨by omega, ?_⟩
    refine hK _ ?_; clear hK K
    refine awp_block ?_
    refine awp_forget [0, 10, 11, 12] (by simp [go_sem, restr]; rfl) ?_
    refine awp_loopU (α := Nat) (fun i => [(12, .d (I i))]) (fun i => _) (fun i => i ≤ n ∧ chkF g 0 n = chkF g i (n - i)) (fun i => n - i) 0 (by simp [go_sem]) rfl (by simp) ?_
    rintro i ⟨hi, hx⟩
    refine awp_reg_seq fun K hK => ?_
    simp [go_sem, c0, d0, hi, wrap_pred (i := i) (by omega)]
    repeat refine ⟨by omega, ?_⟩
    refine hK _ ?_; clear hK K
    refine awp_seq ?_
    refine awp_forget [0, 10, 11, 12, 13] (by simp only [restr, List.contains_cons, List.contains_nil, Nat.reduceBEq, Bool.or_false, Bool.or_true, Bool.true_or, Bool.false_or, if_true, if_false, Bool.false_eq_true]; rfl) ?_
    refine awp_cond rfl (fun c1 => ?_) (fun c1 => ?_)
    · have d1 := c1; try simp at d1
      obtain ⟨k, hk⟩ : ∃ k, n - i = k + 1 := ⟨n - i - 1, by omega⟩
      have hk' : n - (i + 1) = k := by omega
      rw [hk, chkF] at hx
      refine awp_skip ?_
      refine awp_seq ?_
      refine awp_block ?_
      refine awp_reg_seq fun K hK => ?_
      simp [go_sem, c0, d0, hi, wrap_pred (i := i) (by omega), c1, d1]
      repeat refine ⟨by omega, ?_⟩
      refine hK _ ?_; clear hK K
      refine awp_seq ?_
      refine awp_reg_seq fun K hK => ?_
      simp [go_sem, c0, d0, hi, wrap_pred (i := i) (by omega), c1, d1]
      repeat refine ⟨by omega, ?_⟩
      refine CSk.mk (ref31_Form_cs _ (g i)) ?_
      simp [go_sem, c0, d0, hi, wrap_pred (i := i) (by omega), c1, d1]
      repeat refine ⟨by omega, ?_⟩
      refine hK _ ?_; clear hK K
      refine awp_forget [0, 3, 4, 10, 11, 12, 19] (by simp only [restr, List.contains_cons, List.contains_nil, Nat.reduceBEq, Bool.or_false, Bool.or_true, Bool.true_or, Bool.false_or, if_true, if_false, Bool.false_eq_true]; rfl) ?_
      refine awp_cond rfl (fun c2 => ?_) (fun c2 => ?_)
      · have d2 := c2; try simp at d2
        refine awp_reg_seq fun K hK => ?_
        simp [go_sem, c0, d0, hi, wrap_pred (i := i) (by omega), c1, d1, c2, d2]
        repeat refine ⟨by omega, ?_⟩
        refine hK _ ?_; clear hK K
        refine awp_ret ?_
        simp [go_sem, Tryz.results57, check, hx, c0, d0, hi, wrap_pred (i := i) (by omega), c1, d1, c2, d2] <;> omega
      · have d2 := c2; try simp at d2
        refine awp_skip ?_
        refine awp_seq ?_
        refine awp_draw_seq 13 T.mixed (by kernel_rfl) fun K hK => ?_
        simp [go_sem, c0, d0, hi, wrap_pred (i := i) (by omega), c1, d1, c2, d2]
        try simp (disch := omega) only [wrapI]
        repeat refine ⟨by omega, ?_⟩
        refine hK _ ?_; clear hK K
        refine awp_forget [0, 3, 4, 10, 11, 12, 32] (by simp only [restr, List.contains_cons, List.contains_nil, Nat.reduceBEq, Bool.or_false, Bool.or_true, Bool.true_or, Bool.false_or, if_true, if_false, Bool.false_eq_true]; rfl) ?_
        refine awp_cond rfl (fun c3 => ?_) (fun c3 => ?_)
        · have d3 := c3; try simp at d3
          refine awp_reg_seq fun K hK => ?_
          simp [go_sem, c0, d0, hi, wrap_pred (i := i) (by omega), c1, d1, c2, d2, c3, d3]
          repeat refine ⟨by omega, ?_⟩
          refine hK _ ?_; clear hK K
          refine awp_ret ?_
          simp [go_sem, Tryz.results57, check, hx, c0, d0, hi, wrap_pred (i := i) (by omega), c1, d1, c2, d2, c3, d3] <;> omega
        · have d3 := c3; try simp at d3
          refine awp_skip ?_
          refine awp_reg_seq fun K hK => ?_
          simp [go_sem, c0, d0, hi, wrap_pred (i := i) (by omega), c1, d1, c2, d2, c3, d3]
          repeat refine ⟨by omega, ?_⟩
          refine hK _ ?_; clear hK K
          refine awp_block ?_
          refine awp_forget [0, 4, 10, 11, 12, 35, 36, 37] (by simp [go_sem, restr]; rfl) ?_
          refine awp_loopU (α := Nat) (fun q => [(37, .d (I q))]) (fun q => _) (fun q => q ≤ i ∧ (lst i g).any (clash (g i)) = ((lst i g).drop q).any (clash (g i))) (fun q => i - q) 0 (by simp [go_sem]) rfl (by simp) ?_
          rintro q ⟨hq, hy⟩
          refine awp_reg_seq fun K hK => ?_
          simp [go_sem, c0, d0, hi, wrap_pred (i := i) (by omega), c1, d1, c2, d2, c3, d3, hq]
          repeat refine ⟨by omega, ?_⟩
          refine hK _ ?_; clear hK K
          refine awp_seq ?_
          refine awp_forget [0, 4, 10, 11, 12, 35, 36, 37, 38] (by simp only [restr, List.contains_cons, List.contains_nil, Nat.reduceBEq, Bool.or_false, Bool.or_true, Bool.true_or, Bool.false_or, if_true, if_false, Bool.false_eq_true]; rfl) ?_
          refine awp_cond rfl (fun c4 => ?_) (fun c4 => ?_)
          · have d4 := c4; try simp at d4
            rw [drop_lst d4, List.any_cons] at hy
            refine awp_skip ?_
            refine awp_seq ?_
            refine awp_block ?_
            refine awp_reg_seq fun K hK => ?_
            simp [go_sem, c0, d0, hi, wrap_pred (i := i) (by omega), c1, d1, c2, d2, c3, d3, hq, c4, d4]
            repeat refine ⟨by omega, ?_⟩
            refine hK _ ?_; clear hK K
            refine awp_reg_seq fun K hK => ?_
            simp [go_sem, c0, d0, hi, wrap_pred (i := i) (by omega), c1, d1, c2, d2, c3, d3, hq, c4, d4]
            repeat refine ⟨by omega, ?_⟩
            refine CSm.mk (ref31_meet_cs _ (g q).In (g i).In) ?_
            simp [go_sem, c0, d0, hi, wrap_pred (i := i) (by omega), c1, d1, c2, d2, c3, d3, hq, c4, d4]
            repeat refine ⟨by omega, ?_⟩
            refine hK _ ?_; clear hK K
            refine awp_forget [0, 4, 10, 11, 12, 35, 36, 37, 52] (by simp only [restr, List.contains_cons, List.contains_nil, Nat.reduceBEq, Bool.or_false, Bool.or_true, Bool.true_or, Bool.false_or, if_true, if_false, Bool.false_eq_true]; rfl) ?_
            refine awp_cond rfl (fun c5 => ?_) (fun c5 => ?_)
            · have d5 := c5; try simp at d5
              have hany : (lst i g).any (clash (g i)) = true := by rw [hy]; simp only [clash, Bool.and_assoc]; rw [show ((g q).Class == (g i).Class && (decide ((g q).In.From < (g i).In.Until) && decide ((g i).In.From < (g q).In.Until))) = true from c5]; rfl
              refine awp_reg_seq fun K hK => ?_
              simp [go_sem, c0, d0, hi, wrap_pred (i := i) (by omega), c1, d1, c2, d2, c3, d3, hq, c4, d4, c5, d5, hany]
              repeat refine ⟨by omega, ?_⟩
              refine hK _ ?_; clear hK K
              refine awp_ret ?_
              simp [go_sem, Tryz.results57, check, hx, c0, d0, hi, wrap_pred (i := i) (by omega), c1, d1, c2, d2, c3, d3, hq, c4, d4, c5, d5, hany] <;> omega
            · have d5 := c5; try simp at d5
              refine awp_skip ?_
              refine awp_reg_end fun K hK => ?_
              simp [go_sem, c0, d0, hi, wrap_pred (i := i) (by omega), c1, d1, c2, d2, c3, d3, hq, c4, d4, c5, d5]
              try simp (disch := omega) only [wrapI]
              repeat refine ⟨by omega, ?_⟩
              refine hK _ ?_; clear hK K
              refine ⟨q + 1, back_of' (by simp) (.refl _) (by (simp [go_sem, wrap_succ (i := q) (by omega), c0, d0, hi, wrap_pred (i := i) (by omega), c1, d1, c2, d2, c3, d3, hq, c4, d4, c5, d5] <;> omega)), ⟨by omega, by rw [hy, show clash (g i) (g q) = false by unfold clash; rw [Bool.and_assoc]; exact c5]; rfl⟩, by omega⟩
          · have d4 := c4; try simp at d4
            have hany : (lst i g).any (clash (g i)) = false := by rw [hy, drop_all (by omega)]; rfl
            refine awp_exit ?_
            refine awp_reg_end fun K hK => ?_
            simp [go_sem, c0, d0, hi, wrap_pred (i := i) (by omega), c1, d1, c2, d2, c3, d3, hq, c4, d4]
            try simp (disch := omega) only [wrapI]
            repeat refine ⟨by omega, ?_⟩
            refine hK _ ?_; clear hK K
            refine ⟨i + 1, back_of' (by simp) (.refl _) (by (simp [go_sem, wrap_succ (i := i) (by omega), c0, d0, hi, wrap_pred (i := i) (by omega), c1, d1, c2, d2, c3, d3, hq, c4, d4] <;> omega)), ⟨by omega, by rw [hx, hk']; simp [d2, c3, hany]⟩, by omega⟩
    · have d1 := c1; try simp at d1
      obtain rfl : i = n := by omega
      rw [Nat.sub_self, chkF] at hx
      refine awp_exit ?_
      refine awp_reg_seq fun K hK => ?_
      simp [go_sem, c0, d0, hi, wrap_pred (i := i) (by omega), c1, d1]
      repeat refine ⟨by omega, ?_⟩
      refine hK _ ?_; clear hK K
      refine awp_ret ?_
      simp [go_sem, Tryz.results57, check, hx, c0, d0, hi, wrap_pred (i := i) (by omega), c1, d1] <;> omega
theorem ref31_InForce_cs (σ : List Blk) (c : Option Nat) (n : Nat) (g : Nat → Rule) (k d : Int) (hn : n < 1000000000) : CSF Tryz.prog 128 [.d (SL c 6 Rule.enc n g), .d (I k), .d (I d)] σ (.tup [.agg ((inForceR n g k d).1.enc.map .d), .d (B (inForceR n g k d).2)]) := by
  refine CSF.of_body T.en128 Tryz.func128 rfl (by simp [Tryz.ntmps128]) (by simp [go_sem]) fun hwf => ?_
  refine awp_reg_seq fun K hK => ?_
  simp [go_sem, Tryz.ntmps128]
  repeat refine ⟨by omega, ?_⟩
  refine hK _ ?_; clear hK K
  refine awp_seq ?_
  refine awp_reg_seq fun K hK => ?_
  simp [go_sem]
  repeat refine ⟨by omega, ?_⟩
  refine CSk.mk (ref31_Check_cs _ c n g hn) ?_
  simp [go_sem]
  repeat refine ⟨by omega, ?_⟩
  refine hK _ ?_; clear hK K
  refine awp_forget [0, 1, 2, 6, 12] (by simp only [restr, List.contains_cons, List.contains_nil, Nat.reduceBEq, Bool.or_false, Bool.or_true, Bool.true_or, Bool.false_or, if_true, if_false, Bool.false_eq_true]; rfl) ?_
  refine awp_cond rfl (fun c0 => ?_) (fun c0 => ?_)
  · have d0 := c0; try simp at d0
    have hz : inForceR n g k d = (Rule.zero, false) := by unfold inForceR; rw [if_pos (.inr d0)]
    refine awp_reg_seq fun K hK => ?_
    simp [go_sem, c0, d0]
    repeat refine ⟨by omega, ?_⟩
    refine hK _ ?_; clear hK K
    refine awp_ret ?_
    rw [hz]; simp [go_sem, Tryz.results128, Rule.zero]
  · have d0 := c0; try simp at d0
    refine awp_skip ?_
    refine awp_seq ?_
    refine awp_reg_seq fun K hK => ?_
    simp [go_sem, c0, d0]
    repeat refine ⟨by omega, ?_⟩
    refine hK _ ?_; clear hK K
    refine awp_block ?_
    refine awp_forget [1, 2, 6, 14, 15, 16] (by simp [go_sem, restr]; rfl) ?_
    refine awp_loopU (α := Nat) (fun i => [(16, .d (I i))]) (fun i => _) (fun i => i ≤ n ∧ inForceI n g k d = idxFrom (inB k d) ((lst n g).drop i) i) (fun i => n - i) 0 (by simp [go_sem]) rfl (⟨by omega, rfl⟩) ?_
    rintro i ⟨hi, hx⟩
    refine awp_reg_seq fun K hK => ?_
    simp [go_sem, c0, d0]
    repeat refine ⟨by omega, ?_⟩
    refine hK _ ?_; clear hK K
    refine awp_seq ?_
    refine awp_forget [1, 2, 6, 14, 15, 16, 17] (by simp only [restr, List.contains_cons, List.contains_nil, Nat.reduceBEq, Bool.or_false, Bool.or_true, Bool.true_or, Bool.false_or, if_true, if_false, Bool.false_eq_true]; rfl) ?_
    refine awp_cond rfl (fun c1 => ?_) (fun c1 => ?_)
    · have d1 := c1; try simp at d1
      rw [drop_lst d1, idxFrom] at hx
      refine awp_skip ?_
      refine awp_seq ?_
      refine awp_block ?_
      refine awp_reg_seq fun K hK => ?_
      simp [go_sem, c0, d0, c1, d1]
      repeat refine ⟨by omega, ?_⟩
      refine hK _ ?_; clear hK K
      refine awp_reg_seq fun K hK => ?_
      simp [go_sem, c0, d0, c1, d1]
      repeat refine ⟨by omega, ?_⟩
      refine hK _ ?_; clear hK K
      refine awp_forget [1, 2, 6, 9, 14, 15, 16, 37] (by simp only [restr, List.contains_cons, List.contains_nil, Nat.reduceBEq, Bool.or_false, Bool.or_true, Bool.true_or, Bool.false_or, if_true, if_false, Bool.false_eq_true]; rfl) ?_
      refine awp_cond rfl (fun c2 => ?_) (fun c2 => ?_)
      · have d2 := c2; try simp at d2
        rw [if_pos (show inB k d (g i) = true from c2)] at hx
        have hz : inForceR n g k d = (g i, true) := by unfold inForceR; rw [if_neg (by omega), hx]; rfl
        refine awp_reg_seq fun K hK => ?_
        simp [go_sem, c0, d0, c1, d1, c2, d2]
        repeat refine ⟨by omega, ?_⟩
        refine hK _ ?_; clear hK K
        refine awp_ret ?_
        rw [hz]; simp [go_sem, Tryz.results128, d2]
      · have d2 := c2; try simp at d2
        refine awp_skip ?_
        refine awp_reg_end fun K hK => ?_
        simp [go_sem, c0, d0, c1, d1, c2, d2]
        try simp (disch := omega) only [wrapI]
        repeat refine ⟨by omega, ?_⟩
        refine hK _ ?_; clear hK K
        refine ⟨i + 1, back_of' (by simp) (.refl _) (by (simp [go_sem, wrap_succ (i := i) (by omega), c0, d0, c1, d1, c2, d2] <;> omega)), ⟨by omega, by rw [hx, if_neg (by rw [show inB k d (g i) = false from c2]; simp)]⟩, by omega⟩
    · have d1 := c1; try simp at d1
      rw [drop_all d1, idxFrom] at hx
      have hz : inForceR n g k d = (Rule.zero, false) := by unfold inForceR; rw [if_pos (by omega)]
      refine awp_exit ?_
      refine awp_reg_seq fun K hK => ?_
      simp [go_sem, c0, d0, c1, d1]
      repeat refine ⟨by omega, ?_⟩
      refine hK _ ?_; clear hK K
      refine awp_ret ?_
      rw [hz]; simp [go_sem, Tryz.results128, Rule.zero]
theorem ref31_Until_cs (σ : List Blk) (r : Rule) (m : Dating) : CSF Tryz.prog 129 [.agg (r.enc.map .d), .agg (m.enc.map .d)] σ (.tup [.d (I (untilR r m).1), .d (I (untilR r m).2)]) := by
  refine CSF.of_body T.en129 Tryz.func129 rfl (by simp [Tryz.ntmps129]) (by simp [go_sem]) fun hwf => ?_
  refine awp_reg_seq fun K hK => ?_
  simp [go_sem, Tryz.ntmps129]
  repeat refine ⟨by omega, ?_⟩
  refine hK _ ?_; clear hK K
  refine awp_seq ?_
  refine awp_reg_seq fun K hK => ?_
  simp [go_sem]
  repeat refine ⟨by omega, ?_⟩
  refine CSk.mk (ref31_Form_cs _ r) ?_
  simp [go_sem]
  repeat refine ⟨by omega, ?_⟩
  refine hK _ ?_; clear hK K
  refine awp_forget [2, 3, 10] (by simp only [restr, List.contains_cons, List.contains_nil, Nat.reduceBEq, Bool.or_false, Bool.or_true, Bool.true_or, Bool.false_or, if_true, if_false, Bool.false_eq_true]; rfl) ?_
  refine awp_cond rfl (fun c0 => ?_) (fun c0 => ?_)
  · have d0 := c0; try simp at d0
    have hz : untilR r m = (0, 2) := by unfold untilR; rw [if_pos d0]
    refine awp_reg_seq fun K hK => ?_
    simp [go_sem, c0, d0]
    repeat refine ⟨by omega, ?_⟩
    refine hK _ ?_; clear hK K
    refine awp_ret ?_
    rw [hz]; simp [go_sem, Tryz.results129]
  · have d0 := c0; try simp at d0
    refine awp_skip ?_
    refine awp_seq ?_
    refine awp_reg_seq fun K hK => ?_
    simp [go_sem, c0, d0]
    repeat refine ⟨by omega, ?_⟩
    refine CSk.mk (ref03_Check_cs _ m) ?_
    simp [go_sem, c0, d0]
    repeat refine ⟨by omega, ?_⟩
    refine hK _ ?_; clear hK K
    refine awp_forget [2, 3, 13] (by simp only [restr, List.contains_cons, List.contains_nil, Nat.reduceBEq, Bool.or_false, Bool.or_true, Bool.true_or, Bool.false_or, if_true, if_false, Bool.false_eq_true]; rfl) ?_
    refine awp_cond rfl (fun c1 => ?_) (fun c1 => ?_)
    · have d1 := c1; try simp at d1
      have hz : untilR r m = (0, 1) := by unfold untilR; rw [if_neg (by simp [d0]), if_pos d1]
      refine awp_reg_seq fun K hK => ?_
      simp [go_sem, c0, d0, c1, d1]
      repeat refine ⟨by omega, ?_⟩
      refine hK _ ?_; clear hK K
      refine awp_ret ?_
      rw [hz]; simp [go_sem, Tryz.results129]
    · have d1 := c1; try simp at d1
      have hz : untilR r m = (lastF r m + 1, 0) := by unfold untilR; rw [if_neg (by simp [d0]), if_neg (by simp [d1])]
      refine awp_skip ?_
      refine awp_reg_seq fun K hK => ?_
      simp [go_sem, c0, d0, c1, d1]
      repeat refine ⟨by omega, ?_⟩
      refine CSk.mk (ref02_Years_cs _ m.Last r.Years) ?_
      simp [go_sem, c0, d0, c1, d1]
      repeat refine ⟨by omega, ?_⟩
      refine hK _ ?_; clear hK K
      refine awp_seq ?_
      refine awp_reg_seq fun K hK => ?_
      simp [go_sem, c0, d0, c1, d1]
      repeat refine ⟨by omega, ?_⟩
      refine hK _ ?_; clear hK K
      refine awp_forget [6, 23] (by simp only [restr, List.contains_cons, List.contains_nil, Nat.reduceBEq, Bool.or_false, Bool.or_true, Bool.true_or, Bool.false_or, if_true, if_false, Bool.false_eq_true]; rfl) ?_
      refine awp_cond rfl (fun c2 => ?_) (fun c2 => ?_)
      · have d2 := c2; try simp at d2
        have hl : lastF r m = (yearEndR (yearsR m.Last r.Years).1).1 := by unfold lastF; rw [if_pos c2]
        have hb := lastF_bd r m
        rw [hl] at hb hz
        unfold isDay at hb
        refine awp_reg_end fun K hK => ?_
        simp [go_sem, c0, d0, c1, d1, c2, d2]
        repeat refine ⟨by omega, ?_⟩
        refine CSk.mk (ref02_YearEnd_cs _ (yearsR m.Last r.Years).1) ?_
        simp [go_sem, c0, d0, c1, d1, c2, d2]
        repeat refine ⟨by omega, ?_⟩
        refine hK _ ?_; clear hK K
        refine awp_reg_seq fun K hK => ?_
        simp [go_sem, c0, d0, c1, d1, c2, d2]
        try simp (disch := omega) only [wrapI]
        repeat refine ⟨by omega, ?_⟩
        refine hK _ ?_; clear hK K
        refine awp_ret ?_
        rw [hz]; simp [go_sem, Tryz.results129]
      · have d2 := c2; try simp at d2
        have hl : lastF r m = (yearsR m.Last r.Years).1 := by unfold lastF; rw [if_neg (by simp [c2])]
        have hb := lastF_bd r m
        rw [hl] at hb hz
        unfold isDay at hb
        refine awp_skip ?_
        refine awp_reg_seq fun K hK => ?_
        simp [go_sem, c0, d0, c1, d1, c2, d2]
        try simp (disch := omega) only [wrapI]
        repeat refine ⟨by omega, ?_⟩
        refine hK _ ?_; clear hK K
        refine awp_ret ?_
        rw [hz]; simp [go_sem, Tryz.results129]
theorem ref31_Closed_cs (σ : List Blk) (c : Option Nat) (n : Nat) (g : Nat → Rule) (k : Int) (m : Dating) (d : Int) (hn : n < 1000000000) : CSF Tryz.prog 97 [.d (SL c 6 Rule.enc n g), .d (I k), .agg (m.enc.map .d), .d (I d)] σ (.tup [.agg ((closedR n g k m d).1.enc.map .d), .d (B (closedR n g k m d).2)]) := by
  refine CSF.of_body T.en97 Tryz.func97 rfl (by simp [Tryz.ntmps97]) (by simp [go_sem]) fun hwf => ?_
  refine awp_reg_seq fun K hK => ?_
  simp [go_sem, Tryz.ntmps97]
  repeat refine ⟨by omega, ?_⟩
  refine hK _ ?_; clear hK K
  refine awp_reg_seq fun K hK => ?_
  simp [go_sem]
  repeat refine ⟨by omega, ?_⟩
  refine CSk.mk (ref31_InForce_cs _ c n g k d hn) ?_
  simp [go_sem]
  repeat refine ⟨by omega, ?_⟩
  refine hK _ ?_; clear hK K
  refine awp_seq ?_
  refine awp_reg_seq fun K hK => ?_
  simp [go_sem]
  repeat refine ⟨by omega, ?_⟩
  refine hK _ ?_; clear hK K
  refine awp_forget [3, 6, 8, 10, 22] (by simp only [restr, List.contains_cons, List.contains_nil, Nat.reduceBEq, Bool.or_false, Bool.or_true, Bool.true_or, Bool.false_or, if_true, if_false, Bool.false_eq_true]; rfl) ?_
  refine awp_cond rfl (fun c0 => ?_) (fun c0 => ?_)
  · have d0 := c0; try simp at d0
    have hz : closedR n g k m d = (Ground.zero, false) := by unfold closedR; rw [if_pos (.inl d0)]
    refine awp_reg_seq fun K hK => ?_
    simp [go_sem, c0, d0]
    repeat refine ⟨by omega, ?_⟩
    refine hK _ ?_; clear hK K
    refine awp_ret ?_
    rw [hz]; simp [go_sem, Tryz.results97, Ground.zero]
  · have d0 := c0; try simp at d0
    have hf := inForce_formed d0
    have hu : untilR (inForceR n g k d).1 m = if datChk m ≠ 0 then (0, 1) else (lastF (inForceR n g k d).1 m + 1, 0) := by unfold untilR; rw [if_neg (by simp [hf])]
    refine awp_skip ?_
    refine awp_reg_seq fun K hK => ?_
    simp [go_sem, c0, d0]
    repeat refine ⟨by omega, ?_⟩
    refine CSk.mk (ref31_Until_cs _ (inForceR n g k d).1 m) ?_
    simp [go_sem, c0, d0]
    repeat refine ⟨by omega, ?_⟩
    refine hK _ ?_; clear hK K
    refine awp_seq ?_
    refine awp_reg_seq fun K hK => ?_
    simp [go_sem, c0, d0]
    repeat refine ⟨by omega, ?_⟩
    refine hK _ ?_; clear hK K
    refine awp_forget [8, 10, 12, 36] (by simp only [restr, List.contains_cons, List.contains_nil, Nat.reduceBEq, Bool.or_false, Bool.or_true, Bool.true_or, Bool.false_or, if_true, if_false, Bool.false_eq_true]; rfl) ?_
    refine awp_cond rfl (fun c1 => ?_) (fun c1 => ?_)
    · have d1 := c1; try simp at d1
      have hz : closedR n g k m d = (Ground.zero, false) := by
        unfold closedR
        by_cases h : datChk m ≠ 0
        · rw [if_pos (.inr (.inl h))]
        · rw [hu, if_neg h] at d1
          rw [if_pos (.inr (.inr (by simpa using d1)))]
      refine awp_reg_seq fun K hK => ?_
      simp [go_sem, c0, d0, c1, d1]
      repeat refine ⟨by omega, ?_⟩
      refine hK _ ?_; clear hK K
      refine awp_ret ?_
      rw [hz]; simp [go_sem, Tryz.results97, Ground.zero]
    · have d1 := c1; try simp at d1
      have h0 : datChk m = 0 := by
        apply Classical.byContradiction
        intro h
        rw [hu, if_pos h] at d1; simp at d1
      rw [if_neg (by simp [h0])] at hu
      have hz : closedR n g k m d = (⟨1, (inForceR n g k d).1.ID, 0, lastF (inForceR n g k d).1 m + 1⟩, true) := by
        rw [hu] at d1
        unfold closedR; rw [if_neg (by simp [d0, h0]; simpa using d1)]
      refine awp_skip ?_
      refine awp_reg_seq fun K hK => ?_
      simp [go_sem, c0, d0, c1, d1]
      repeat refine ⟨by omega, ?_⟩
      refine hK _ ?_; clear hK K
      refine awp_ret ?_
      rw [hz]; simp [go_sem, Tryz.results97, hu]
theorem Rule.ext_iff' {a b : Rule} : a = b ↔ (((((a.ID = b.ID ∧ a.Class = b.Class) ∧ a.Years = b.Years) ∧ a.YearEnd = b.YearEnd) ∧ a.In.From = b.In.From) ∧ a.In.Until = b.In.Until) := by
  obtain ⟨a1, a2, a3, a4, ⟨a5, a6⟩⟩ := a
  obtain ⟨b1, b2, b3, b4, ⟨b5, b6⟩⟩ := b
  simp [and_assoc]
theorem Span.ext_iff' {a b : Span} : a = b ↔ a.From = b.From ∧ a.Until = b.Until := by
  obtain ⟨a5, a6⟩ := a
  obtain ⟨b5, b6⟩ := b
  simp
theorem lst_ext {α : Type} {n : Nat} {f g : Nat → α} : lst n f = lst n g ↔ ∀ i, i < n → f i = g i := by
  constructor
  · intro h i hi
    have := congrArg (fun l => l[i]?) h
    simpa [lst_get hi] using this
  · intro h; unfold lst; exact List.map_congr_left fun i hi => h i (by simpa using hi)
def nextC (k f : Int) (b : Rule × Bool) (r : Rule) : Bool := ((r.Class == k) && decide (f ≤ r.In.From)) && (!b.2 || decide (r.In.From < b.1.In.From))
def nextF (g : Nat → Rule) (k f : Int) : Nat → Rule × Bool
  | 0 => (Rule.zero, false)
  | i + 1 => if nextC k f (nextF g k f i) (g i) = true then (g i, true) else nextF g k f i
theorem nextF_zero (g : Nat → Rule) (k f : Int) : nextF g k f 0 = (Rule.zero, false) := rfl
end Go.Proofs.YtkochmppmpmddaaGreat

/-! Bg -/
namespace Go.Proofs.YtkochmppmpmddaaGreat
open Go.Abs Go.Arch
set_option linter.unusedVariables false
set_option linter.unusedSimpArgs false
set_option maxRecDepth 100000
set_option maxHeartbeats 400000
instance : Inhabited Span := ⟨⟨0, 0⟩⟩
def clSpan (m : Dating) (r : Rule) : Span := ⟨r.In.From, min r.In.Until (lastF r m + 1)⟩
def joins (S : List Span) (s : Span) : Prop := 0 < S.length ∧ (nth S (S.length - 1)).Until = s.From
instance (S : List Span) (s : Span) : Decidable (joins S s) := inferInstanceAs (Decidable (_ ∧ _))
def addSpan (S : List Span) (s : Span) : List Span :=
  if s.From < s.Until then (if joins S s then S.set (S.length - 1) ⟨(nth S (S.length - 1)).From, s.Until⟩ else S ++ [s]) else S
theorem addSpan_len (S : List Span) (s : Span) : (addSpan S s).length ≤ S.length + 1 := by
  unfold addSpan; split
  · split <;> simp
  · omega
def refLoop (n : Nat) (g : Nat → Rule) (k : Int) (m : Dating) : Nat → Rule × Bool → List Span → List Span
  | 0, _, S => S
  | q + 1, p, S => if p.2 = true then refLoop n g k m q (nextF g k p.1.In.Until n) (addSpan S (clSpan m p.1)) else S
def refSpans (n : Nat) (g : Nat → Rule) (k : Int) (m : Dating) : List Span := refLoop n g k m 1048577 (nextF g k 0 n) []
def refSpansR (n : Nat) (g : Nat → Rule) (k : Int) (m : Dating) : List Span × Int := if check n g ≠ 0 ∨ datChk m ≠ 0 then ([], 1) else if k < 1 ∨ 999 < k then ([], 2) else (refSpans n g k m, 0)
theorem nextF_spec (g : Nat → Rule) (k f : Int) : ∀ n, (nextF g k f n).2 = true → ∃ i, i < n ∧ (nextF g k f n).1 = g i ∧ (g i).Class = k ∧ f ≤ (g i).In.From
  | 0, h => by simp [nextF] at h
  | n + 1, h => by
    rw [nextF] at h ⊢
    split
    · rename_i hc
      refine ⟨n, by omega, rfl, ?_⟩
      unfold nextC at hc; simp at hc; exact ⟨hc.1.1, hc.1.2⟩
    · rename_i hc
      rw [if_neg hc] at h
      obtain ⟨i, h1, h2⟩ := nextF_spec g k f n h
      exact ⟨i, by omega, h2⟩
theorem formed_in {r : Rule} (h : formed r = true) : 0 ≤ r.In.From ∧ r.In.From < r.In.Until ∧ r.In.Until ≤ 1048576 := by
  unfold formed spanOk at h; simp at h; omega
theorem next_ok {n : Nat} {g : Nat → Rule} (h0 : check n g = 0) {k f : Int} (h : (nextF g k f n).2 = true) : formed (nextF g k f n).1 = true ∧ f ≤ (nextF g k f n).1.In.From := by
  obtain ⟨i, h1, h2, h3, h4⟩ := nextF_spec g k f n h
  rw [h2]; exact ⟨((check_zero h0).2 i h1).1, h4⟩
def opensF : List Span → Int → Int
  | [], f => f
  | s :: S, f => opensF S (if s.From ≤ f ∧ f < s.Until then s.Until else f)
def refOpensR (n : Nat) (g : Nat → Rule) (k : Int) (m : Dating) (f : Int) : Int × Int :=
  if (refSpansR n g k m).2 ≠ 0 then (0, (refSpansR n g k m).2) else if f < 0 ∨ 1048575 < f then (0, 2) else if 1048575 < opensF (refSpansR n g k m).1 f then (0, 23) else (opensF (refSpansR n g k m).1 f, 0)
theorem refLoop_len (n : Nat) (g : Nat → Rule) (k : Int) (m : Dating) : ∀ (q : Nat) (p : Rule × Bool) (S : List Span), (refLoop n g k m q p S).length ≤ S.length + q
  | 0, p, S => by simp [refLoop]
  | q + 1, p, S => by
    rw [refLoop]
    split
    · have := refLoop_len n g k m q (nextF g k p.1.In.Until n) (addSpan S (clSpan m p.1))
      have := addSpan_len S (clSpan m p.1)
      omega
    · omega
theorem refSpansR_len (n : Nat) (g : Nat → Rule) (k : Int) (m : Dating) : (refSpansR n g k m).1.length < 2000000 := by
  unfold refSpansR
  split
  · simp
  · split
    · simp
    · have := refLoop_len n g k m 1048577 (nextF g k 0 n) []
      simp only [List.length_nil] at this; simp only [refSpans]; omega
theorem drop_nth {α : Type} [Inhabited α] {l : List α} {i : Nat} (h : i < l.length) : l.drop i = nth l i :: l.drop (i + 1) := by
  rw [List.drop_eq_getElem_cons h, nth_eq h]
end Go.Proofs.YtkochmppmpmddaaGreat
