/- Abstract values: loops and joins, with what is forgotten on the way. -/
import Derived.Test.YtplpklikapkloaaAu
namespace Go.Abs
set_option linter.unusedVariables false
set_option linter.unusedSimpArgs false

/-- from the head sh the code has come to s'; what s'' says is less: temporaries are forgotten, and the last blocks -/
structure Back (sh s' s'' : St) : Prop where
  N : s''.N = s'.N
  mv : ∀ x ∈ s'.mv, x ∈ s''.mv
  σ : ∃ g, s'.σ = s''.σ ++ g
  blk : Leaves sh.σ s''.σ
  t : ∀ k av, get s''.t k = some av → get s'.t k = some av ∧ (get sh.t k = some av ∨ av.under sh.σ.length)

theorem Back.rel {sh s' s'' : St} (h : Back sh s' s'') {j0 : J0} {jh j : Js} {ah a : Act} {wh w : World} (hh : Rel j0 sh jh ah wh) (hr : Rel j0 s' j a w) (hle : jh.length ≤ j.length) : ∃ j', Rel j0 s'' j' a w ∧ Ev j w j' w ∧ jh.length ≤ j'.length := by
  obtain ⟨g, hg⟩ := h.σ
  have hsto := hr.sto
  rw [hg] at hsto
  obtain ⟨g1, g2, g3⟩ := hh.sto.drop hsto h.blk (X := List.range jh.length) (fun b hb hn => absurd (by simpa using hb) hn) hle
  have hlen : (j.take jh.length).length = jh.length := by simp; omega
  have he : Ev j w (j.take jh.length) w := ⟨Nat.le_refl _, fun _ _ _ => rfl, fun b _ hm => g2 _ hm, fun _ _ => rfl, fun _ _ => rfl, rfl, rfl, rfl, fun _ r h => ⟨r, h⟩⟩
  refine ⟨j.take jh.length, ⟨hr.defers.mono he, hr.rdok, by rw [h.N]; exact hr.size, fun k av hk => ?_, g1, by rw [hlen]; exact hh.len0, ?_⟩, he, by omega⟩
  · obtain ⟨h1, h2⟩ := h.t k av hk
    have h3 := hr.tmp k av h1
    rw [h.N]
    refine ⟨h3.1, ?_⟩
    rcases h2 with h2 | h2
    · exact (hh.tmp k av h2).2.shrink g2 (fun b hb => g3 b (by omega)) h3.2
    · exact h3.2.less g2 g3 (by rw [hlen, hh.sto.len]; exact h2)
  · intro b hb hn
    rw [← g3 b (by have := hh.len0; omega)]
    exact hr.ag b hb fun hm => hn (h.mv b hm)

theorem Back.len {sh s' s'' : St} (h : Back sh s' s'') {j0 : J0} {jh j : Js} {ah a : Act} {wh w : World} (hh : Rel j0 sh jh ah wh) (hr : Rel j0 s' j a w) : jh.length ≤ j.length := by
  obtain ⟨g, hg⟩ := h.σ
  have h1 := h.blk.len
  have h2 := hh.sto.len
  have h3 := hr.sto.len
  rw [hg, List.length_append] at h3
  omega

/-- temporaries are forgotten -/
structure Less (s s' : St) : Prop where
  N : s'.N = s.N
  mv : ∀ x ∈ s.mv, x ∈ s'.mv
  σ : s'.σ = s.σ
  t : ∀ k av, get s'.t k = some av → get s.t k = some av

theorem Less.sub {s s' : St} (h : Less s s') : Sub s s' := fun j0 j a w hr =>
  ⟨j, ⟨hr.defers, hr.rdok, by rw [h.N]; exact hr.size, fun k av hk => by rw [h.N]; exact hr.tmp k av (h.t k av hk), by rw [h.σ]; exact hr.sto, hr.len0, fun b hb hn => hr.ag b hb fun hm => hn (h.mv b hm)⟩, .refl _ _⟩

def subT : List (Nat × AV) → List (Nat × AV) → Prop
  | [], _ => True
  | (k, v) :: t, u => get u k = some v ∧ subT t u

theorem subT_get : ∀ {t u : List (Nat × AV)} {k : Nat} {av : AV}, subT t u → get t k = some av → get u k = some av
  | [], u, k, av, _, h => by simp [get] at h
  | (q, v) :: t, u, k, av, hs, h => by
    simp only [get] at h
    by_cases hq : q = k
    · subst hq; simp at h; subst h; exact hs.1
    · simp only [beq_ne hq, Bool.false_eq_true, if_false] at h; exact subT_get hs.2 h

theorem less_of {N : Nat} {t t' : List (Nat × AV)} {σ : List Blk} {mv : List Nat} (h : subT t' t) : Sub ⟨N, t, σ, mv⟩ ⟨N, t', σ, mv⟩ :=
  Less.sub ⟨rfl, fun _ h => h, rfl, fun k av hk => subT_get h hk⟩

def backT (th : List (Nat × AV)) (n : Nat) : List (Nat × AV) → List (Nat × AV) → Prop
  | [], _ => True
  | (k, v) :: t, u => get u k = some v ∧ (get th k = some v ∨ v.under n) ∧ backT th n t u

theorem backT_get : ∀ {th t u : List (Nat × AV)} {n k : Nat} {av : AV}, backT th n t u → get t k = some av → get u k = some av ∧ (get th k = some av ∨ av.under n)
  | _, [], u, n, k, av, _, h => by simp [get] at h
  | th, (q, v) :: t, u, n, k, av, hs, h => by
    simp only [get] at h
    by_cases hq : q = k
    · subst hq; simp at h; subst h; exact ⟨hs.1, hs.2.1⟩
    · simp only [beq_ne hq, Bool.false_eq_true, if_false] at h; exact backT_get hs.2.2 h

/-- the store is as it was at the head, with new blocks behind it -/
theorem back_of {N : Nat} {th t' t'' : List (Nat × AV)} {σh g : List Blk} {mvh mv mv' : List Nat} {Nh : Nat} (h : backT th σh.length t'' t') (hm : ∀ x ∈ mv, x ∈ mv' := by simp) : Back ⟨Nh, th, σh, mvh⟩ ⟨N, t', σh ++ g, mv⟩ ⟨N, t'', σh, mv'⟩ :=
  ⟨rfl, hm, ⟨g, rfl⟩, .refl _, fun k av hk => backT_get h hk⟩

theorem back0 {N : Nat} {th t' t'' : List (Nat × AV)} {σ : List Blk} {mvh mv mv' : List Nat} {Nh : Nat} (h : backT th σ.length t'' t') (hm : ∀ x ∈ mv, x ∈ mv' := by simp) : Back ⟨Nh, th, σ, mvh⟩ ⟨N, t', σ, mv⟩ ⟨N, t'', σ, mv'⟩ :=
  ⟨rfl, hm, ⟨[], by simp⟩, .refl _, fun k av hk => backT_get h hk⟩

/-- the store has turned at some of its blocks -/
theorem back_of' {N : Nat} {th t' t'' : List (Nat × AV)} {σh σ' σ'' : List Blk} {mvh mv mv' : List Nat} {Nh : Nat} (hσ : ∃ g, σ' = σ'' ++ g) (hb : Leaves σh σ'') (h : backT th σh.length t'' t') (hm : ∀ x ∈ mv, x ∈ mv' := by simp) : Back ⟨Nh, th, σh, mvh⟩ ⟨N, t', σ', mv⟩ ⟨N, t'', σ'', mv'⟩ :=
  ⟨rfl, hm, hσ, hb, fun k av hk => backT_get h hk⟩

section
variable {P : Program} {Q : Exit → St → Prop} {s : St}

theorem awp_loopN {c : Code} {α : Type} (st : α → St) (ok : α → Prop) (μ : α → Nat) (x₀ : α) (h0 : Sub s (st x₀)) (hx₀ : ok x₀)
    (round : ∀ x, ok x → AWP P c (thenA (fun s' => ∃ x', Back (st x) s' (st x') ∧ ok x' ∧ μ x' < μ x) Q) (st x)) : AWP P (.loop c) Q s := by
  intro j0 j a w hr
  obtain ⟨j₁, hr₁, he₁⟩ := h0 j0 j a w hr
  intro b k cs hro hb hfr
  have key : ∀ n x j₁ a w₁, μ x = n → ok x → Rel j0 (st x) j₁ a w₁ → Ev j w j₁ w₁ →
      ∃ e a' w', APost j0 j w Q e a' w' ∧ ArrivesIn (Machine.fenced P (FW j0.rd)) P (lone (b.atR a (.code c :: .inLoop c :: k)) cs w₁) b k cs e a' w' := by
    intro n
    induction n using Nat.strongRecOn with
    | _ n ih =>
      intro x j₁ a w₁ hn hx hr he
      obtain ⟨e, a₁, w₂, ⟨s', j₂, hr₂, he₂, hq⟩, harr⟩ := round x hx j0 j₁ a w₁ hr b (.inLoop c :: k) cs hro hb hfr
      cases e with
      | normal =>
        obtain ⟨x', hback, hx', hlt⟩ := hq
        obtain ⟨j₃, hr₃, he₃, _⟩ := hback.rel hr hr₂ (hback.len hr hr₂)
        obtain ⟨e₂, a₂, w₃, hq₂, harr₂⟩ := ih (μ x') (hn ▸ hlt) x' j₃ a₁ w₂ rfl hx' hr₃ ((he.trans he₂).trans he₃)
        exact ⟨e₂, a₂, w₃, hq₂, .of_steps (StepsIn.trans harr (.one (fenced_calm hb hfr rfl) stepR_inLoop)) harr₂⟩
      | exit id => exact ⟨_, a₁, w₂, ⟨s', j₂, hr₂, he.trans he₂, hq⟩, .pass (x := .inLoop c) rfl (fun _ _ => .inl (by simp)) harr⟩
      | goto l => exact ⟨_, a₁, w₂, ⟨s', j₂, hr₂, he.trans he₂, hq⟩, .pass (x := .inLoop c) rfl (fun _ _ => .inl (by simp)) harr⟩
      | ret => exact ⟨_, a₁, w₂, ⟨s', j₂, hr₂, he.trans he₂, hq⟩, .pass (x := .inLoop c) rfl (fun _ _ => .inl (by simp)) harr⟩
      | panic ch => exact ⟨_, a₁, w₂, ⟨s', j₂, hr₂, he.trans he₂, hq⟩, .pass (x := .inLoop c) rfl (fun _ _ => .inl (by simp)) harr⟩
      | outgrown => exact ⟨_, a₁, w₂, ⟨s', j₂, hr₂, he.trans he₂, hq⟩, .pass (x := .inLoop c) rfl (fun _ _ => .inl (by simp)) harr⟩
  obtain ⟨e, a', w', hq, harr⟩ := key _ x₀ j₁ a w rfl hx₀ hr₁ he₁
  exact ⟨e, a', w', hq, .of_steps (.one (fenced_calm hb hfr rfl) stepR_loop) harr⟩

/-- ways meet again -/
theorem awp_cut {x z : Code} {α : Type} (st : α → St) (ok : α → Prop) (h : AWP P x (thenA (fun s' => ∃ y, Back s s' (st y) ∧ ok y) Q) s) (hz : ∀ y, ok y → AWP P z Q (st y)) : AWP P (.seq x z) Q s := by
  refine awp_seq ?_
  intro j0 j a w hr
  refine wpIn_mono (h j0 j a w hr) ?_
  rintro e a' w' ⟨s', j', hr', hev, hq⟩
  cases e with
  | normal =>
    obtain ⟨y, hback, hy⟩ := hq
    obtain ⟨j₃, hr₃, he₃, _⟩ := hback.rel hr hr' (hback.len hr hr')
    exact ⟨st y, j₃, hr₃, hev.trans he₃, hz y hy⟩
  | exit id => exact ⟨s', j', hr', hev, hq⟩
  | goto l => exact ⟨s', j', hr', hev, hq⟩
  | ret => exact ⟨s', j', hr', hev, hq⟩
  | panic c => exact ⟨s', j', hr', hev, hq⟩
  | outgrown => exact ⟨s', j', hr', hev, hq⟩

end

def puts : List (Nat × AV) → List (Nat × AV) → List (Nat × AV)
  | t, [] => t
  | t, (k, v) :: us => puts (Abs.put t k v) us

theorem puts_get : ∀ {us t u : List (Nat × AV)} {k : Nat} {av : AV}, subT us u → (∀ k av, get t k = some av → get u k = some av) → get (puts t us) k = some av → get u k = some av
  | [], t, u, k, av, _, ht, h => ht k av h
  | (q, v) :: us, t, u, k, av, hs, ht, h => by
    refine puts_get (t := Abs.put t q v) hs.2 (fun k' av' h' => ?_) h
    rw [get_put] at h'
    split at h'
    · rename_i hq; subst hq; cases h'; exact hs.1
    · exact ht k' av' h'

/-- only some temporaries are wanted -/
theorem awp_forget {P : Program} {c : Code} {Q : Exit → St → Prop} {N : Nat} {t t' : List (Nat × AV)} {σ : List Blk} {mv : List Nat} (L : List Nat) (h : restr L t = t') (h' : AWP P c Q ⟨N, t', σ, mv⟩) : AWP P c Q ⟨N, t, σ, mv⟩ := by
  refine awp_sub (s' := ⟨N, t', σ, mv⟩) (Less.sub ⟨rfl, fun _ h => h, rfl, fun k av hk => ?_⟩) h'
  simp only at hk
  rw [← h, get_restr] at hk
  split at hk
  · exact hk
  · simp at hk

/-- a loop: some temporaries turn, the others stay -/
theorem awp_loopU {P : Program} {c : Code} {Q : Exit → St → Prop} {α : Type} {N : Nat} {t : List (Nat × AV)} {σ : List Blk} {mv : List Nat} (upd : α → List (Nat × AV)) (σf : α → List Blk) (ok : α → Prop) (μ : α → Nat) (x₀ : α) (h0 : subT (upd x₀) t) (hσ : σ = σf x₀) (hx₀ : ok x₀)
    (round : ∀ x, ok x → AWP P c (thenA (fun s' => ∃ x', Back ⟨N, puts t (upd x), σf x, mv⟩ s' ⟨N, puts t (upd x'), σf x', mv⟩ ∧ ok x' ∧ μ x' < μ x) Q) ⟨N, puts t (upd x), σf x, mv⟩) : AWP P (.loop c) Q ⟨N, t, σ, mv⟩ :=
  awp_loopN (fun x => ⟨N, puts t (upd x), σf x, mv⟩) ok μ x₀ (by subst hσ; exact Less.sub ⟨rfl, fun _ h => h, rfl, fun k av hk => puts_get h0 (fun _ _ h => h) hk⟩) hx₀ round

/-- more blocks may have moved -/
theorem awp_mv {P : Program} {c : Code} {Q : Exit → St → Prop} {N : Nat} {t : List (Nat × AV)} {σ : List Blk} {mv : List Nat} (M : List Nat) (hm : ∀ x ∈ mv, x ∈ M) (h : AWP P c Q ⟨N, t, σ, M⟩) : AWP P c Q ⟨N, t, σ, mv⟩ :=
  awp_sub (s' := ⟨N, t, σ, M⟩) (Less.sub ⟨rfl, hm, rfl, fun k av hk => hk⟩) h

/-- an element of a list -/
def nth {α : Type} [Inhabited α] (l : List α) (i : Nat) : α := l[i]?.getD default
theorem nth_eq {α : Type} [Inhabited α] {l : List α} {i : Nat} (h : i < l.length) : nth l i = l[i] := by simp [nth, h]

/-- so many elements as a slice that nobody writes -/
abbrev SL {α : Type} (cap : Option Nat) (sz : Nat) (enc : α → List D) (n : Nat) (f : Nat → α) : D := .sl cap sz n fun i => enc (f i)

/-- them as a list -/
def lst {α : Type} (n : Nat) (f : Nat → α) : List α := (List.range n).map f
theorem lst_length {α : Type} (n : Nat) (f : Nat → α) : (lst n f).length = n := by simp [lst]
theorem lst_get {α : Type} {n : Nat} {f : Nat → α} {i : Nat} (h : i < n) : (lst n f)[i]? = some (f i) := by simp [lst, h]
theorem lst_nth {α : Type} [Inhabited α] (l : List α) : lst l.length (nth l) = l := by
  apply List.ext_getElem?
  intro i
  by_cases h : i < l.length
  · rw [lst_get h, nth_eq h]; simp [h]
  · rw [List.getElem?_eq_none (by rw [lst_length]; omega), List.getElem?_eq_none (by omega)]

theorem thenA_ret (K : St → Prop) (Q : Exit → St → Prop) (s : St) : thenA K Q .ret s = Q .ret s := rfl
theorem thenA_exit (K : St → Prop) (Q : Exit → St → Prop) (s : St) (i : Nat) : thenA K Q (.exit i) s = Q (.exit i) s := rfl
theorem thenA_normal (K : St → Prop) (Q : Exit → St → Prop) (s : St) : thenA K Q .normal s = K s := rfl
theorem inBlock_ret (id : Nat) (Q : Exit → St → Prop) (s : St) : inBlockA id Q .ret s = Q .ret s := rfl
theorem inBlock_normal (id : Nat) (Q : Exit → St → Prop) (s : St) : inBlockA id Q .normal s = Q .normal s := rfl
theorem inBlock_exit (id i : Nat) (Q : Exit → St → Prop) (s : St) : inBlockA id Q (.exit i) s = if Nat.beq i id then Q .normal s else Q (.exit i) s := rfl

attribute [go_sem] puts
attribute [go_sem ↓] thenA_ret thenA_exit thenA_normal inBlock_ret inBlock_normal inBlock_exit backT subT
end Go.Abs
