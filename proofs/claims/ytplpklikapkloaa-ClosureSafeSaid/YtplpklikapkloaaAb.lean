/- Abstract values: states, the rules for code, and a function's contract out of its body. -/
import Derived.Test.YtplpklikapkloaaAa
namespace Go.Abs
set_option linter.unusedVariables false
set_option linter.unusedSimpArgs false

def St.put (s : St) (dst : Option Tmp) (av : AV) : St :=
  match dst with
  | none => s
  | some d => if Nat.blt d s.N then { s with t := Abs.put s.t d av } else { s with t := Abs.del s.t d }

def St.del (s : St) (dst : Option Tmp) : St :=
  match dst with
  | none => s
  | some d => { s with t := Abs.del s.t d }

theorem beq_ne {m k : Nat} (h : m ≠ k) : Nat.beq m k = false := by
  cases hb : Nat.beq m k with
  | false => rfl
  | true => exact absurd (Nat.eq_of_beq_eq_true hb) h

theorem R_setIfInBounds {w : World} {j : Js} {tm : Array Value} {d k : Nat} {v : Value} (hd : d < tm.size) :
    (tm.setIfInBounds d v).getD k Go.undef = if d = k then v else tm.getD k Go.undef := by
  simp only [Array.getD_eq_getD_getElem?, Array.getElem?_setIfInBounds]
  by_cases h : d = k
  · subst h; simp [hd]
  · simp [h]

theorem Rel.put {j0 : J0} {j : Js} {s : St} {a : Act} {w : World} (h : Rel j0 s j a w) (dst : Option Tmp) {av : AV} {v : Value} (hr : R w j av v) : Rel j0 (s.put dst av) j (a.put dst v) w := by
  cases dst with
  | none => exact h
  | some d =>
    simp only [St.put, Act.put]
    by_cases hd : d < s.N
    · rw [if_pos (by simpa using hd)]
      refine ⟨h.defers, h.rdok, by simpa using h.size, fun k av' hk => ?_, h.sto, h.len0, h.ag⟩
      simp only at hk ⊢
      rw [get_put] at hk
      rw [R_setIfInBounds (w := w) (j := j) (by rw [h.size]; exact hd)]
      by_cases hkd : d = k
      · subst hkd; simp at hk; subst hk; simp; exact ⟨hd, hr⟩
      · rw [if_neg hkd] at hk ⊢; exact h.tmp k av' hk
    · rw [if_neg (by simpa using hd)]
      refine ⟨h.defers, h.rdok, by simpa using h.size, fun k av' hk => ?_, h.sto, h.len0, h.ag⟩
      simp only at hk ⊢
      rw [get_del] at hk
      by_cases hkd : d = k
      · simp [hkd] at hk
      · simp [hkd] at hk
        have hz : a.tmps.setIfInBounds d v = a.tmps := by
          apply Array.setIfInBounds_eq_of_size_le; rw [h.size]; exact Nat.le_of_not_lt hd
        rw [hz]; exact h.tmp k av' hk

theorem Rel.del {j0 : J0} {j : Js} {s : St} {a : Act} {w : World} (h : Rel j0 s j a w) (dst : Option Tmp) (v : Value) : Rel j0 (s.del dst) j (a.put dst v) w := by
  cases dst with
  | none => exact h
  | some d =>
    simp only [St.del, Act.put]
    refine ⟨h.defers, h.rdok, by simpa using h.size, fun k av' hk => ?_, h.sto, h.len0, h.ag⟩
    simp only at hk ⊢
    rw [get_del] at hk
    by_cases hkd : d = k
    · simp [hkd] at hk
    · simp [hkd] at hk
      have := h.tmp k av' hk
      refine ⟨this.1, ?_⟩
      have hz : (a.tmps.setIfInBounds d v).getD k Go.undef = a.tmps.getD k Go.undef := by
        simp [Array.getD_eq_getD_getElem?, Array.getElem?_setIfInBounds, hkd]
      rw [hz]; exact this.2

/-- scrubbing that leans on nothing: a key that is scrubbed is gone -/
def scrub' (X : List Nat) (t : List (Nat × AV)) : List (Nat × AV) :=
  match t with
  | [] => []
  | (k, v) :: t => if v.avoids X then (k, v) :: scrub' X t else Abs.del (scrub' X t) k

theorem scrub'_spec {X : List Nat} : ∀ {t : List (Nat × AV)} {k : Nat} {av : AV}, get (scrub' X t) k = some av → get t k = some av ∧ av.avoids X = true
  | [], _, _, h => by simp [scrub', get] at h
  | (q, u) :: t, k, av, h => by
    have ih := scrub'_spec (X := X) (t := t) (k := k) (av := av)
    simp only [scrub'] at h
    by_cases hu : u.avoids X = true
    · rw [if_pos hu] at h
      simp only [get] at h ⊢
      by_cases hq : q = k
      · simp [hq] at h ⊢; subst h; exact ⟨rfl, hu⟩
      · simp only [beq_ne hq] at h ⊢
        exact ih (by simpa using h)
    · rw [if_neg hu, get_del] at h
      by_cases hq : q = k
      · simp [hq] at h
      · simp [hq] at h
        have := ih h
        exact ⟨by simp [get, hq, this.1], this.2⟩

theorem get_mem : ∀ {t : List (Nat × AV)} {k : Nat} {av : AV}, get t k = some av → (k, av) ∈ t
  | [], _, _, h => by simp [get] at h
  | (q, u) :: t, k, av, h => by
    simp only [get] at h
    by_cases hq : q = k
    · simp [hq] at h; simp [hq, h]
    · simp only [beq_ne hq, Bool.false_eq_true, if_false] at h
      exact List.mem_cons_of_mem _ (get_mem h)

theorem del_mem : ∀ {t : List (Nat × AV)} {k : Nat} {p : Nat × AV}, p ∈ Abs.del t k → p ∈ t
  | [], _, _, h => by simp [Abs.del] at h
  | (q, u) :: t, k, p, h => by
    simp only [Abs.del] at h
    split at h
    · exact List.mem_cons_of_mem _ (del_mem h)
    · rcases List.mem_cons.1 h with h | h
      · rw [h]; simp
      · exact List.mem_cons_of_mem _ (del_mem h)

theorem scrub'_mem {X : List Nat} : ∀ {t : List (Nat × AV)} {k : Nat} {av : AV}, (k, av) ∈ scrub' X t → (k, av) ∈ t ∧ av.avoids X = true
  | [], _, _, h => by simp [scrub'] at h
  | (q, u) :: t, k, av, h => by
    simp only [scrub'] at h
    by_cases hu : u.avoids X = true
    · rw [if_pos hu] at h
      rcases List.mem_cons.1 h with h | h
      · cases h; exact ⟨by simp, hu⟩
      · have := scrub'_mem h
        exact ⟨List.mem_cons_of_mem _ this.1, this.2⟩
    · rw [if_neg hu] at h
      have := scrub'_mem (del_mem h)
      exact ⟨List.mem_cons_of_mem _ this.1, this.2⟩

theorem scrub'_id {X : List Nat} : ∀ {t : List (Nat × AV)}, (∀ k av, (k, av) ∈ t → av.avoids X = true) → scrub' X t = t
  | [], _ => rfl
  | (q, u) :: t, h => by
    simp only [scrub']
    rw [if_pos (h q u (by simp)), scrub'_id fun k av hk => h k av (List.mem_cons_of_mem _ hk)]

/-- the state behind a step that may have moved X -/
def St.after (s : St) (σ : List Blk) (X : List Nat) : St :=
  match X with
  | [] => { s with σ := σ }
  | X => { s with σ := σ, t := scrub' X s.t, mv := s.mv ++ X }

theorem Ag.trans {j j1 j2 : Js} {X Y : List Nat} (h : Ag j j1 X) (hl : j.length ≤ j1.length) (k : Ag j1 j2 Y) : Ag j j2 (X ++ Y) := by
  intro b hb hn
  simp at hn
  rw [k b (Nat.lt_of_lt_of_le hb hl) hn.2, h b hb hn.1]

theorem Rel.after {j0 : J0} {j j' : Js} {s : St} {a : Act} {w w' : World} {σ : List Blk} {X : List Nat} (h : Rel j0 s j a w) (he : Ev j w j' w') (hs : RelS w' j' σ) (hl : j.length ≤ j'.length) (hag : Ag j j' X) : Rel j0 (s.after σ X) j' a w' := by
  have hmv : Ag j0.js j' (s.mv ++ X) := h.ag.trans h.len0 hag
  unfold St.after
  split
  · refine ⟨h.defers.mono he, h.rdok' he, h.size, fun k av hk => ?_, hs, Nat.le_trans h.len0 hl, by simpa using hmv⟩
    have := h.tmp k av hk
    refine ⟨this.1, this.2.mono he h.sto.lt hag ?_⟩
    exact avoids_nil av
  · refine ⟨h.defers.mono he, h.rdok' he, h.size, fun k av hk => ?_, hs, Nat.le_trans h.len0 hl, hmv⟩
    have hk' := scrub'_spec hk
    have := h.tmp k av hk'.1
    exact ⟨this.1, this.2.mono he h.sto.lt hag hk'.2⟩
where
  avoids_nil : ∀ av : AV, av.avoids [] = true := by
    intro av
    induction av using AV.rec (motive_2 := fun l => avoidsL [] l = true) <;> simp_all [AV.avoids, avoidsL]

/-! code -/
def thenA (K : St → Prop) (Q : Exit → St → Prop) : Exit → St → Prop
  | .normal, s => K s
  | e, s => Q e s

def inBlockA (id : Nat) (Q : Exit → St → Prop) : Exit → St → Prop
  | .exit id', s => if Nat.beq id' id then Q .normal s else Q (.exit id') s
  | e, s => Q e s

section
variable {P : Program} {Q : Exit → St → Prop} {s : St}

theorem AWP.mono {c : Code} {Q' : Exit → St → Prop} (h : AWP P c Q s) (hq : ∀ e s, Q e s → Q' e s) : AWP P c Q' s :=
  fun j0 j a w hr => wpIn_mono (h j0 j a w hr) fun _ _ _ ⟨s', j', h1, h2, h3⟩ => ⟨s', j', h1, h2, hq _ _ h3⟩

theorem awp_skip (h : Q .normal s) : AWP P .skip Q s := fun j0 j a w hr => wpIn_skip ⟨s, j, hr, .refl _ _, h⟩
theorem awp_label {l : Nat} (h : Q .normal s) : AWP P (.label l) Q s := fun j0 j a w hr => wpIn_label ⟨s, j, hr, .refl _ _, h⟩
theorem awp_ret (h : Q .ret s) : AWP P .ret Q s := fun j0 j a w hr => wpIn_ret ⟨s, j, hr, .refl _ _, h⟩
theorem awp_exit {id : Nat} (h : Q (.exit id) s) : AWP P (.exit id) Q s := fun j0 j a w hr => wpIn_exit ⟨s, j, hr, .refl _ _, h⟩

theorem awp_seq {x y : Code} (h : AWP P x (thenA (AWP P y Q) Q) s) : AWP P (.seq x y) Q s := by
  intro j0 j a w hr
  refine wpIn_seq (wpIn_mono (h j0 j a w hr) ?_)
  rintro e a' w' ⟨s', j', hr', hev, hq⟩
  cases e with
  | normal =>
    refine wpIn_mono (hq j0 j' a' w' hr') ?_
    rintro e a'' w'' ⟨s'', j'', h1, h2, h3⟩
    exact ⟨s'', j'', h1, hev.trans h2, h3⟩
  | exit id => exact ⟨s', j', hr', hev, hq⟩
  | goto l => exact ⟨s', j', hr', hev, hq⟩
  | ret => exact ⟨s', j', hr', hev, hq⟩
  | panic c => exact ⟨s', j', hr', hev, hq⟩
  | outgrown => exact ⟨s', j', hr', hev, hq⟩

theorem awp_block {id : Nat} {c : Code} (h : AWP P c (inBlockA id Q) s) : AWP P (.block id c) Q s := by
  intro j0 j a w hr
  refine wpIn_block (wpIn_mono (h j0 j a w hr) ?_)
  rintro e a' w' ⟨s', j', hr', hev, hq⟩
  cases e with
  | exit id' =>
    simp only [inBlockA] at hq
    simp only [Exit.inBlock]
    by_cases hid : id' = id
    · subst hid; simp at hq ⊢; exact ⟨s', j', hr', hev, hq⟩
    · simp [hid] at hq ⊢; exact ⟨s', j', hr', hev, hq⟩
  | normal => exact ⟨s', j', hr', hev, hq⟩
  | goto l => exact ⟨s', j', hr', hev, hq⟩
  | ret => exact ⟨s', j', hr', hev, hq⟩
  | panic c => exact ⟨s', j', hr', hev, hq⟩
  | outgrown => exact ⟨s', j', hr', hev, hq⟩

/-- a state that says less -/
def Sub (s s' : St) : Prop := ∀ j0 j a w, Rel j0 s j a w → ∃ j', Rel j0 s' j' a w ∧ Ev j w j' w

theorem Sub.refl (s : St) : Sub s s := fun _ j _ _ h => ⟨j, h, .refl _ _⟩
theorem Sub.trans {s s' s'' : St} (h : Sub s s') (k : Sub s' s'') : Sub s s'' := fun j0 j a w hr =>
  let ⟨j1, h1, e1⟩ := h j0 j a w hr
  let ⟨j2, h2, e2⟩ := k j0 j1 a w h1
  ⟨j2, h2, e1.trans e2⟩

theorem awp_sub {c : Code} {s' : St} (hs : Sub s s') (h : AWP P c Q s') : AWP P c Q s := by
  intro j0 j a w hr
  obtain ⟨j', hr', he⟩ := hs j0 j a w hr
  exact wpIn_mono (h j0 j' a w hr') fun _ _ _ ⟨s'', j'', h1, h2, h3⟩ => ⟨s'', j'', h1, he.trans h2, h3⟩

/-- the post, too, may be met by a state that says less -/
theorem awp_post {c : Code} (h : AWP P c (fun e s' => ∃ s'', Sub s' s'' ∧ Q e s'') s) : AWP P c Q s := by
  intro j0 j a w hr
  refine wpIn_mono (h j0 j a w hr) ?_
  rintro e a' w' ⟨s', j', hr', hev, s'', hsub, hq⟩
  obtain ⟨j'', h1, h2⟩ := hsub _ _ _ _ hr'
  exact ⟨s'', j'', h1, hev.trans h2, hq⟩

end

/-! operands -/
def ofConst : Value → AV
  | .agg cs => .agg (cs.toList.map fun c => .d (.v c))
  | v => .d (.v v)

def val (s : St) : Operand → Option AV
  | .tmp t => get s.t t
  | .const v => some (ofConst v)
  | .func f => some (.clo (.func f) [] [])
  | .global _ => none

theorem R_ofConst (w : World) (j : Js) (v : Value) : R w j (ofConst v) v := by
  cases v with
  | agg cs =>
    refine .agg cs (by simp) fun k hk => ?_
    simp only [List.length_map, Array.length_toList] at hk
    have h1 : (cs.toList.map fun c => AV.d (.v c)).getD k .undef = AV.d (.v (cs.getD k Go.undef)) := by
      simp [List.getD_eq_getElem?_getD, hk, Array.getD_eq_getD_getElem?]
    rw [h1]; exact .d (.v _)
  | _ => exact .d (.v _)

theorem val_rel {j0 : J0} {j : Js} {s : St} {a : Act} {w : World} (h : Rel j0 s j a w) {x : Operand} {av : AV} (hv : val s x = some av) : R w j av (a.eval x) := by
  cases x with
  | tmp t => exact (h.tmp t av hv).2
  | const v => simp only [val, Option.some.injEq] at hv; subst hv; exact R_ofConst w j v
  | func f => simp only [val, Option.some.injEq] at hv; subst hv; exact .clo #[] #[] rfl rfl (by simp) (by simp)
  | global g => simp [val] at hv

theorem awp_cond {P : Program} {Q : Exit → St → Prop} {s : St} {c : Operand} {x y : Code} {b : Bool} (hc : val s c = some (.d (.v (.bool b)))) (ht : b = true → AWP P x Q s) (hf : b = false → AWP P y Q s) : AWP P (.cond c x y) Q s := by
  intro j0 j a w hr
  have hv := val_rel hr hc
  have hb : a.eval c = .bool b := by
    generalize a.eval c = u at hv
    cases hv with | d h => cases h; rfl
  refine wpIn_cond hb ?_
  cases b with
  | true => exact ht rfl j0 j a w hr
  | false => exact hf rfl j0 j a w hr

/-! a call -/
def initT : List AV → Nat → List (Nat × AV)
  | [], _ => []
  | x :: xs, k => (k, x) :: initT xs (k + 1)

theorem get_initT : ∀ (args : List AV) (m k : Nat), get (initT args m) k = if m ≤ k ∧ k < m + args.length then some (args.getD (k - m) .undef) else none
  | [], m, k => by simp [initT, get]
  | x :: xs, m, k => by
    simp only [initT, get, get_initT xs (m + 1) k, List.length_cons]
    by_cases h : m = k
    · subst h; simp
    · simp only [beq_ne h, Bool.false_eq_true, if_false]
      by_cases h2 : m + 1 ≤ k ∧ k < m + 1 + xs.length
      · rw [if_pos h2, if_pos (by omega), show k - m = (k - (m + 1)) + 1 by omega]; simp
      · rw [if_neg h2, if_neg (by omega)]

def St.init (N : Nat) (args : List AV) (σ : List Blk) : St := { N := N, t := initT args 0, σ := σ, mv := [] }

/-- the cells of a variable's value -/
def cellsOf : AV → List AV
  | .agg cs => cs
  | x => [x]

end Go.Abs
