/- Abstract values: a function's contract, its own memory forgotten at the end. -/
import Derived.Test.YtplpklikapkloaaAt
namespace Go.Abs
set_option linter.unusedVariables false
set_option linter.unusedSimpArgs false

/-! the references in a value -/
mutual
def AV.under (n : Nat) : AV → Prop
  | .undef => True
  | .iff b x => b = true → x.under n
  | .d _ => True
  | .agg cs => underL n cs
  | .tup cs => underL n cs
  | .ptr b _ => b < n
  | .pe b _ _ _ => b < n
  | .el _ => True
  | .ms b _ _ _ => b < n
  | .mp b => b < n
  | .clo _ fs cs => underL n fs ∧ underL n cs
  | .yld b => b < n
def underL (n : Nat) : List AV → Prop
  | [] => True
  | x :: xs => x.under n ∧ underL n xs
end

theorem underL_getD {n : Nat} : ∀ {cs : List AV} {k : Nat}, underL n cs → k < cs.length → (cs.getD k .undef).under n
  | [], _, _, hk => by simp at hk
  | x :: xs, 0, h, _ => by simp [underL] at h; simpa using h.1
  | x :: xs, k + 1, h, hk => by
    simp [underL] at h
    have := underL_getD (k := k) h.2 (by simpa using hk)
    simpa using this

/-- fewer blocks are known -/
theorem RD.less {w : World} {j j' : Js} (hs : ∀ o, o ∈ j → o ∈ j') {d : D} {v : Value} (h : RD w j' d v) : RD w j d v := by
  induction h with
  | v x => exact .v x
  | sl a c val hcap hle ha hlt hb hlen hcell hrel ih => exact .sl a c val hcap hle ha hlt (fun hm => hb (hs _ hm)) hlen hcell ih
  | zero p c hcap hp => exact .zero p c hcap hp

theorem R.less {w : World} {j j' : Js} (hs : ∀ o, o ∈ j → o ∈ j') (ha : ∀ b : Nat, b < j.length → j'[b]? = j[b]?) {av : AV} {v : Value} (h : R w j' av v) (hu : av.under j.length) : R w j av v := by
  induction h with
  | undef v => exact .undef v
  | iff h h0 ih => exact .iff (fun hb => ih hb (by simpa [AV.under, hb] using hu)) h0
  | d h => exact .d (h.less hs)
  | agg vs hsz h ih => exact .agg vs hsz fun k hk => ih k hk (underL_getD (by simpa [AV.under] using hu) hk)
  | tup vs hsz h ih => exact .tup vs hsz fun k hk => ih k hk (underL_getD (by simpa [AV.under] using hu) hk)
  | ptr h => exact .ptr (by rw [← ha _ (by simpa [AV.under] using hu)]; exact h)
  | pe h => exact .pe (by rw [← ha _ (by simpa [AV.under] using hu)]; exact h)
  | el a val h1 hlt hb hcell hrel => exact .el a val h1 hlt (fun hm => hb (hs _ hm)) hcell fun k hk => (hrel k hk).less hs
  | ms c e m h h1 h2 h3 => exact .ms c e m (by rw [← ha _ (by simpa [AV.under] using hu)]; exact h) h1 h2 h3
  | ms0 p h => exact .ms0 p (by rw [← ha _ (by simpa [AV.under] using hu)]; exact h)
  | mp h => exact .mp (by rw [← ha _ (by simpa [AV.under] using hu)]; exact h)
  | yld h => exact .yld (by rw [← ha _ (by simpa [AV.under] using hu)]; exact h)
  | @clo fn fs cs ff cc h1 h2 h3 h4 ih3 ih4 =>
    have hb : underL j.length fs ∧ underL j.length cs := by simpa [AV.under] using hu
    exact .clo ff cc h1 h2 (fun k hk => ih3 k hk (underL_getD hb.1 hk)) (fun k hk => ih4 k hk (underL_getD hb.2 hk))

theorem idx_lt {j : Js} {b : Nat} {o : Option Nat} (h : j[b]? = some o) : b < j.length := (List.getElem?_eq_some_iff.1 h).1

/-- what was known under j is known under it still -/
theorem R.shrink {w w' : World} {j j' jt : Js} (hs : ∀ o, o ∈ jt → o ∈ j') (ha : ∀ b : Nat, b < j.length → j'[b]? = jt[b]?) {av : AV} {u : Value} (h2 : R w j av u) : ∀ {v : Value}, R w' j' av v → R w' jt av v := by
  have key : ∀ {b : Nat} {o o'}, j[b]? = some o → j'[b]? = some o' → jt[b]? = some o' := fun h h' => by rw [← ha _ (idx_lt h)]; exact h'
  induction h2 with
  | undef v => exact fun _ => .undef _
  | iff h h0 ih =>
    intro v h1
    cases h1 with
    | iff h1 h10 => exact .iff (fun hb => ih hb (h1 hb)) h10
  | d h =>
    intro v h1
    cases h1 with | d h1 => exact .d (h1.less hs)
  | agg vs hsz h ih =>
    intro v h1
    cases h1 with
    | agg vs' hsz' h' => exact .agg vs' hsz' fun k hk => ih k hk (h' k hk)
  | tup vs hsz h ih =>
    intro v h1
    cases h1 with
    | tup vs' hsz' h' => exact .tup vs' hsz' fun k hk => ih k hk (h' k hk)
  | ptr h =>
    intro v h1
    cases h1 with | ptr h1 => exact .ptr (key h h1)
  | pe h =>
    intro v h1
    cases h1 with | pe h1 => exact .pe (key h h1)
  | el a val h1 hlt hb hcell hrel =>
    intro v h1
    cases h1 with
    | el a' val' g1 g2 g3 g4 g5 => exact .el a' val' g1 g2 (fun hm => g3 (hs _ hm)) g4 fun k hk => (g5 k hk).less hs
  | ms c e m h _ _ _ =>
    intro v h1
    cases h1 with
    | ms c' e' m' g1 g2 g3 g4 => exact .ms c' e' m' (key h g1) g2 g3 g4
    | ms0 p g1 => exact .ms0 p (key h g1)
  | ms0 p h =>
    intro v h1
    cases h1 with
    | ms c' e' m' g1 g2 g3 g4 => exact .ms c' e' m' (key h g1) g2 g3 g4
    | ms0 p g1 => exact .ms0 p (key h g1)
  | mp h =>
    intro v h1
    cases h1 with | mp h1 => exact .mp (key h h1)
  | yld h =>
    intro v h1
    cases h1 with | yld h1 => exact .yld (key h h1)
  | clo ff cc h1 h2 h3 h4 ih3 ih4 =>
    intro v h1
    cases h1 with
    | clo ff' cc' g1 g2 g3 g4 => exact .clo ff' cc' g1 g2 (fun k hk => ih3 k hk (g3 k hk)) (fun k hk => ih4 k hk (g4 k hk))

def blkUnder (n : Nat) : Blk → Prop
  | .var cs => ∀ k, k < cs.length → (cs.getD k .undef).under n
  | .lp L _ _ => ∀ k av, (k, av) ∈ L.t → av.under n
  | _ => True

theorem R.under {w : World} {j : Js} {av : AV} {v : Value} (h : R w j av v) : av.under j.length := by
  have all : ∀ {cs : List AV}, (∀ k, k < cs.length → (cs.getD k .undef).under j.length) → underL j.length cs := by
    intro cs
    induction cs with
    | nil => intro _; trivial
    | cons x xs ih =>
      intro hx
      exact ⟨by simpa using hx 0 (by simp), ih fun k hk => by simpa using hx (k + 1) (by simpa using hk)⟩
  induction h with
  | undef v => trivial
  | iff h h0 ih => exact ih
  | d h => trivial
  | agg vs hsz h ih => exact all ih
  | tup vs hsz h ih => exact all ih
  | ptr h => exact idx_lt h
  | pe h => exact idx_lt h
  | el a val h1 hlt hb hcell hrel => trivial
  | ms c e m h h1 h2 h3 => exact idx_lt h
  | ms0 p h => exact idx_lt h
  | mp h => exact idx_lt h
  | clo ff cc h1 h2 h3 h4 ih3 ih4 => exact ⟨all ih3, all ih4⟩
  | yld h => exact idx_lt h

theorem under_avoids {n : Nat} {X : List Nat} (hX : ∀ b ∈ X, n ≤ b) (av : AV) : av.under n → av.avoids X = true := by
  have key : ∀ b, b < n → X.contains b = false := fun b hb => by
    simp only [List.contains_eq_mem, decide_eq_false_iff_not]
    intro hm; have := hX b hm; omega
  induction av using AV.rec (motive_2 := fun l => underL n l → avoidsL X l = true) with
  | undef => intro _; rfl
  | iff b x ih => intro h; cases b with
    | false => rfl
    | true => simpa [AV.avoids] using ih (h rfl)
  | d x => intro _; rfl
  | agg cs ih => intro h; exact ih h
  | tup cs ih => intro h; exact ih h
  | ptr b off => intro h; simp only [AV.avoids, key b h]; rfl
  | pe b sz i k => intro h; simp only [AV.avoids, key b h]; rfl
  | el cs => intro _; rfl
  | ms b sz lo m => intro h; simp only [AV.avoids, key b h]; rfl
  | mp b => intro h; simp only [AV.avoids, key b h]; rfl
  | clo fn fs cs ih1 ih2 => intro h; simp only [AV.avoids, ih1 h.1, ih2 h.2]; rfl
  | yld b => intro h; simp only [AV.avoids, key b h]; rfl
  | nil => rfl
  | cons x xs ih1 ih2 => rename_i h; simp only [avoidsL, ih1 h.1, ih2 h.2]; rfl

/-- what is known in the store speaks of the store alone -/
def WfS (σ : List Blk) : Prop := ∀ X, (∀ b ∈ X, σ.length ≤ b) → σ.map (scrubV X) = σ

theorem RB.under {w : World} {j : Js} {x : Blk} {o : Option Nat} (h : RB w j x o) : blkUnder j.length x := by
  cases x with
  | dead => trivial
  | arr sz n row => trivial
  | var cs =>
    cases o with
    | none => exact h.elim
    | some cb =>
      obtain ⟨C, e, h1, h2, h3⟩ := h
      exact fun k hk => (h3 k hk).under
  | lp L st pd =>
    cases o with
    | none => exact h.elim
    | some cb =>
      obtain ⟨r, h1, h2, h3, h4⟩ := h
      exact fun k av hk => (h4 k av hk).2.under

theorem RelS.wf {w : World} {j : Js} {σ : List Blk} (h : RelS w j σ) : WfS σ := by
  intro X hX
  apply List.ext_getElem?
  intro b
  rw [List.getElem?_map]
  cases hb : σ[b]? with
  | none => rfl
  | some x =>
    obtain ⟨o, ho, hB⟩ := h.blk b x hb
    have hu := hB.under
    rw [h.len] at hu
    simp only [Option.map_some, Option.some.injEq]
    cases x with
    | dead => rfl
    | arr sz n row => rfl
    | var cs =>
      simp only [scrubV, Blk.var.injEq]
      apply List.ext_getElem?
      intro k
      rw [List.getElem?_map]
      cases hk : cs[k]? with
      | none => rfl
      | some c =>
        have hlt : k < cs.length := lt_of_getElem? hk
        have := hu k hlt
        rw [List.getD_eq_getElem?_getD, hk] at this
        simp only [Option.map_some, Option.some.injEq]
        rw [if_pos (under_avoids hX c (by simpa using this))]
    | lp L st pd =>
      simp only [scrubV, Blk.lp.injEq, and_true]
      rw [scrub'_id fun k av hk => under_avoids hX av (hu k av hk)]

theorem WfS.one {σ : List Blk} (h : WfS σ) (k : Nat) : σ.map (scrubV [σ.length + k]) = σ := h _ (by simp)
theorem WfS.zero {σ : List Blk} (h : WfS σ) : σ.map (scrubV [σ.length]) = σ := h _ (by simp)

theorem RB.less {w : World} {j j' : Js} (hs : ∀ o, o ∈ j → o ∈ j') (ha : ∀ b : Nat, b < j.length → j'[b]? = j[b]?) {x : Blk} {o : Option Nat} (h : RB w j' x o) (hu : blkUnder j.length x) : RB w j x o := by
  cases x with
  | dead => trivial
  | var cs =>
    cases o with
    | none => exact h
    | some cb =>
      obtain ⟨C, e, h1, h2, h3⟩ := h
      exact ⟨C, e, h1, h2, fun k hk => (h3 k hk).less hs ha (hu k hk)⟩
  | arr sz n row =>
    cases o with
    | none => exact h
    | some cb =>
      obtain ⟨C, e, h1, h2, h3⟩ := h
      exact ⟨C, e, h1, h2, fun i hi => ⟨(h3 i hi).1, fun k hk => ((h3 i hi).2 k hk).less hs⟩⟩
  | lp L st pd =>
    cases o with
    | none => exact h
    | some cb =>
      obtain ⟨r, h1, h2, h3, h4⟩ := h
      exact ⟨r, h1, h2, h3, fun k av hk => ⟨(h4 k av hk).1, (h4 k av hk).2.less hs ha (hu k av hk)⟩⟩

theorem RB.shrink {w w' : World} {j j' jt : Js} (hs : ∀ o, o ∈ jt → o ∈ j') (ha : ∀ b : Nat, b < j.length → j'[b]? = jt[b]?) {x : Blk} {o o' : Option Nat} (h2 : RB w j x o) (h : RB w' j' x o') : RB w' jt x o' := by
  cases x with
  | dead => trivial
  | var cs =>
    cases o with
    | none => exact h2.elim
    | some cb =>
    cases o' with
    | none => exact h
    | some cb' =>
      obtain ⟨C, e, h1, h2', h3⟩ := h
      obtain ⟨C2, e2, g1, g2, g3⟩ := h2
      exact ⟨C, e, h1, h2', fun k hk => (g3 k hk).shrink hs ha (h3 k hk)⟩
  | arr sz n row =>
    cases o' with
    | none => exact h
    | some cb =>
      obtain ⟨C, e, h1, h2, h3⟩ := h
      exact ⟨C, e, h1, h2, fun i hi => ⟨(h3 i hi).1, fun k hk => ((h3 i hi).2 k hk).less hs⟩⟩
  | lp L st pd =>
    cases o with
    | none => exact h2.elim
    | some cb =>
    cases o' with
    | none => exact h
    | some cb' =>
      obtain ⟨r, h1, h3, h4, h5⟩ := h
      obtain ⟨r2, g1, g3, g4, g5⟩ := h2
      exact ⟨r, h1, h3, h4, fun k av hk => ⟨(h5 k av hk).1, (g5 k av hk).2.shrink hs ha (h5 k av hk).2⟩⟩

/-- the store of a function behind its own, of which the last blocks are forgotten -/
structure Leaves (σ0 σ' : List Blk) : Prop where
  len : σ'.length = σ0.length
  blk : ∀ (b : Nat) x, σ'[b]? = some x → σ0[b]? = some x ∨ blkUnder σ0.length x

theorem Leaves.refl (σ : List Blk) : Leaves σ σ := ⟨rfl, fun _ _ h => .inl h⟩

theorem RelS.drop {w w' : World} {j j' : Js} {σ0 σ' g : List Blk} {X : List Nat} (h0 : RelS w j σ0) (h : RelS w' j' (σ' ++ g)) (hl : Leaves σ0 σ') (hag : Ag j j' X) (hle : j.length ≤ j'.length) :
    RelS w' (j'.take j.length) σ' ∧ (∀ o, o ∈ j'.take j.length → o ∈ j') ∧ (∀ b : Nat, b < (j'.take j.length).length → j'[b]? = (j'.take j.length)[b]?) := by
  have hlen : (j'.take j.length).length = j.length := by simp; omega
  have hs : ∀ o, o ∈ j'.take j.length → o ∈ j' := fun o ho => List.mem_of_mem_take ho
  have ha : ∀ b : Nat, b < (j'.take j.length).length → j'[b]? = (j'.take j.length)[b]? := by
    intro b hb; rw [List.getElem?_take, if_pos (by omega)]
  have hget : ∀ {b : Nat} {o}, (j'.take j.length)[b]? = some o → j'[b]? = some o := by
    intro b o hb; rw [List.getElem?_take] at hb; split at hb
    · exact hb
    · simp at hb
  refine ⟨⟨by rw [hlen, h0.len, hl.len], fun b cb hb => h.lt b cb (hget hb), fun b b' cb hb hb' => h.inj b b' cb (hget hb) (hget hb'), fun b x hx => ?_⟩, hs, ha⟩
  have hbl : b < σ'.length := (List.getElem?_eq_some_iff.1 hx).1
  obtain ⟨o, ho, hB⟩ := h.blk b x (by rw [List.getElem?_append_left hbl]; exact hx)
  have hbj : b < (j'.take j.length).length := by rw [hlen, h0.len, ← hl.len]; exact hbl
  refine ⟨o, by rw [← ha b hbj]; exact ho, ?_⟩
  rcases hl.blk b x hx with hx0 | hu
  · obtain ⟨o0, ho0, hB0⟩ := h0.blk b x hx0
    exact hB0.shrink hs (fun q hq => ha q (by omega)) hB
  · exact hB.less hs ha (by rw [hlen, h0.len]; exact hu)


/-- blocks of the call's own may move; others only if they are told of -/
def mvIn (n : Nat) (X : List Nat) : List Nat → Prop
  | [] => True
  | x :: xs => (n ≤ x ∨ x ∈ X) ∧ mvIn n X xs

theorem mvIn_mem {n : Nat} {X : List Nat} : ∀ {l : List Nat} {x : Nat}, mvIn n X l → x ∈ l → n ≤ x ∨ x ∈ X
  | [], x, _, h => by simp at h
  | y :: ys, x, h, hx => by
    rcases List.mem_cons.1 hx with rfl | hx
    · exact h.1
    · exact mvIn_mem h.2 hx

theorem Ag.mvIn {j j' : Js} {mv X : List Nat} (h : Ag j j' mv) (hm : Abs.mvIn j.length X mv) : Ag j j' X := fun b hb hn => h b hb fun hmem => by
  rcases mvIn_mem hm hmem with h1 | h1
  · omega
  · exact hn h1

/-- what must hold where a body ends; the store is what it was, but for blocks of the call's own, which are forgotten -/
def retDrop (P : Program) (fn : Func) (σ0 : List Blk) (X : List Nat) (Q : AV → List Blk → Prop) (s : St) : Prop :=
  resAs P s fn.results.toList fun xs => ∃ σ' g, s.σ = σ' ++ g ∧ Leaves σ0 σ' ∧ (tupA xs).under σ0.length ∧ mvIn σ0.length X s.mv ∧ Q (tupA xs) σ'

def retPostD (P : Program) (fn : Func) (σ0 : List Blk) (X : List Nat) (Q : AV → List Blk → Prop) : Exit → St → Prop
  | .normal, s => retDrop P fn σ0 X Q s
  | .ret, s => retDrop P fn σ0 X Q s
  | _, _ => False

theorem CS.of_bodyD {P : Program} {f : FuncId} {fn : Func} {c : Code} {args : List AV} {σ : List Blk} {Q : AV → List Blk → Prop} (X : List Nat) (hen : entersB P f = true) (hf : P.funcs[f]? = some fn) (hb : fn.body = some c) (hN : args.length ≤ fn.ntmps)
    (h : WfS σ → AWP P c (retPostD P fn σ X Q) (St.init fn.ntmps args σ)) : CS P f args σ fun r σ' X' => X' = X ∧ Q r σ' := by
  refine ⟨hen, fun j w vs hs hr => calls_of hf hb hN (h hs.wf) hs hr fun e s' hq => ?_⟩
  have fin : retDrop P fn σ X Q s' → ∀ j' a w', Rel ⟨j, w.heap.size, none⟩ s' j' a w' → Ev j w j' w' → ∃ v, (results fn a.tmps).run P w' = .ok v w' ∧ ∃ v' r σ' j' X', Ending.returned v = .returned v' ∧ RelS w' j' σ' ∧ R w' j' r v' ∧ Ev j w j' w' ∧ j.length ≤ j'.length ∧ Ag j j' X' ∧ X' = X ∧ Q r σ' := by
    intro hq j' a w' hrel hev
    obtain ⟨v, x, h1, h2, σ', g, h3, h4, h5, h6, h7⟩ := results_sound hrel (K := fun x => ∃ σ' g, s'.σ = σ' ++ g ∧ Leaves σ σ' ∧ x.under σ.length ∧ mvIn σ.length X s'.mv ∧ Q x σ') hq
    have hsto := hrel.sto
    rw [h3] at hsto
    have hlen0 : j.length ≤ j'.length := hrel.len0
    have hag : Ag j j' X := Ag.mvIn hrel.ag (by show mvIn j.length X s'.mv; rw [hs.len]; exact h6)
    obtain ⟨g1, g2, g3⟩ := hs.drop hsto h4 hag hlen0
    have hlen : (j'.take j.length).length = j.length := by simp; omega
    refine ⟨v, h1, v, x, σ', j'.take j.length, X, rfl, g1, h2.less g2 g3 (by rw [hlen, hs.len]; exact h5), ⟨hev.size, hev.keep, fun b hb hm => hev.sub b hb (g2 _ hm), hev.shp, hev.frz, hev.os, hev.tape, hev.output, hev.lps⟩, by omega, fun b hb hn => ?_, rfl, h7⟩
    rw [← g3 b (by omega)]; exact hag b hb hn
  cases e with
  | normal => exact ⟨.inl rfl, fin hq⟩
  | ret => exact ⟨.inr rfl, fin hq⟩
  | exit id => exact hq.elim
  | goto l => exact hq.elim
  | panic c => exact hq.elim
  | outgrown => exact hq.elim

/-- whatever reads as x reads as y -/
def Same (x y : AV) : Prop := ∀ w j v, R w j x v → R w j y v
theorem Same.refl (x : AV) : Same x x := fun _ _ _ h => h
theorem Same.trans {x y z : AV} (h : Same x y) (k : Same y z) : Same x z := fun w j v hr => k w j v (h w j v hr)

/-- slices that hold the same -/
def sameA : AV → AV → Prop
  | .d (.v a), .d (.v b) => a = b
  | .d (.sl c sz n row), .d (.sl c' sz' n' row') => (c' = none ∨ c' = c) ∧ sz = sz' ∧ n = n' ∧ ∀ i, i < n → row i = row' i
  | .d (.v (.slice none 0 0)), .d (.sl c' sz' n' row') => (c' = none ∨ c' = some 0) ∧ n' = 0
  | x, y => x = y

theorem Same.d {x y : D} (h : ∀ w j v, RD w j x v → RD w j y v) : Same (.d x) (.d y) := fun w j v hr => by
  cases hr with | d hr => exact .d (h w j v hr)

theorem RD.rows {w : World} {j : Js} {c c' : Option Nat} {sz n : Nat} {row row' : Nat → List D} {v : Value} (hc : c' = none ∨ c' = c) (hr : ∀ i, i < n → row i = row' i) (h : RD w j (.sl c sz n row) v) : RD w j (.sl c' sz n row') v := by
  have hcap : ∀ q : Nat, (c = none ∨ c = some q) → (c' = none ∨ c' = some q) := fun q hq => by
    rcases hc with rfl | rfl
    · exact .inl rfl
    · exact hq
  cases h with
  | sl a q val h1 h2 h3 h4 h5 h6 h7 h8 => exact .sl a q val (hcap q h1) h2 h3 h4 h5 (fun i hi => by rw [← hr i hi]; exact h6 i hi) h7 (fun i hi k hk => by rw [← hr i hi]; exact h8 i hi k hk)
  | zero p q h1 h2 => exact .zero p q (hcap q h1) h2

theorem sameA.same {x y : AV} (h : sameA x y) : Same x y := by
  unfold sameA at h
  split at h
  · subst h; exact .refl _
  · obtain ⟨h1, rfl, rfl, h4⟩ := h
    exact .d fun w j v hr => hr.rows h1 h4
  · obtain ⟨h1, rfl⟩ := h
    refine .d fun w j v hr => ?_
    cases hr
    exact .zero none 0 (by rcases h1 with rfl | rfl; exact .inl rfl; exact .inr rfl) (fun _ => rfl)
  · subst h; exact .refl _

def sameL : List AV → List AV → Prop
  | [], [] => True
  | x :: xs, y :: ys => sameA x y ∧ sameL xs ys
  | _, _ => False

theorem sameL_spec : ∀ {xs ys : List AV}, sameL xs ys → ys.length = xs.length ∧ ∀ k, k < xs.length → Same (xs.getD k .undef) (ys.getD k .undef)
  | [], [], _ => ⟨rfl, by simp⟩
  | x :: xs, y :: ys, h => by
    obtain ⟨h1, h2⟩ := sameL_spec h.2
    refine ⟨by simp [h1], fun k hk => ?_⟩
    cases k with
    | zero => simpa using h.1.same
    | succ k => simpa using h2 k (by simpa using hk)

/-- results that hold the same -/
def sameR : AV → AV → Prop
  | .tup xs, .tup ys => sameL xs ys
  | .agg xs, .agg ys => sameL xs ys
  | x, y => sameA x y

theorem sameR.same {x y : AV} (h : sameR x y) : Same x y := by
  unfold sameR at h
  split at h
  · obtain ⟨h1, h2⟩ := sameL_spec h
    intro w j v hr
    cases hr with
    | tup vs hs hv => exact .tup vs (by rw [h1]; exact hs) fun k hk => h2 k (by rw [← h1]; exact hk) _ _ _ (hv k (by rw [← h1]; exact hk))
  · obtain ⟨h1, h2⟩ := sameL_spec h
    intro w j v hr
    cases hr with
    | agg vs hs hv => exact .agg vs (by rw [h1]; exact hs) fun k hk => h2 k (by rw [← h1]; exact hk) _ _ _ (hv k (by rw [← h1]; exact hk))
  · exact h.same

/-- the commonest end: what is computed -/
def retPostF (P : Program) (fn : Func) (σ0 : List Blk) (r : AV) : Exit → St → Prop
  | .normal, s => resAs P s fn.results.toList fun xs => (∃ g, s.σ = σ0 ++ g) ∧ sameR (tupA xs) r ∧ mvIn σ0.length [] s.mv
  | .ret, s => resAs P s fn.results.toList fun xs => (∃ g, s.σ = σ0 ++ g) ∧ sameR (tupA xs) r ∧ mvIn σ0.length [] s.mv
  | _, _ => False

theorem resAs_mono {P : Program} {s : St} : ∀ {rs : List ResultVar} {K K' : List AV → Prop}, (∀ xs, K xs → K' xs) → resAs P s rs K → resAs P s rs K'
  | [], _, _, hK, h => hK _ h
  | r :: rs, K, K', hK, h => by
    simp only [resAs] at h ⊢
    split
    · rename_i side x hx
      rw [hx] at h
      exact ⟨h.1, resAs_mono (fun xs => hK _) h.2⟩
    · rename_i hx
      rw [hx] at h
      exact h

theorem CSF.of_body {P : Program} {f : FuncId} {fn : Func} {c : Code} {args : List AV} {σ : List Blk} {r : AV} (hen : entersB P f = true) (hf : P.funcs[f]? = some fn) (hb : fn.body = some c) (hN : args.length ≤ fn.ntmps) (hr : r.under σ.length)
    (h : WfS σ → AWP P c (retPostF P fn σ r) (St.init fn.ntmps args σ)) : CSF P f args σ r := by
  refine ⟨hen, fun j w vs hs hrs => calls_of hf hb hN (h hs.wf) hs hrs fun e s' hq => ?_⟩
  have fin : (resAs P s' fn.results.toList fun xs => (∃ g, s'.σ = σ ++ g) ∧ sameR (tupA xs) r ∧ mvIn σ.length [] s'.mv) → ∀ j' a w', Rel ⟨j, w.heap.size, none⟩ s' j' a w' → Ev j w j' w' → ∃ v, (results fn a.tmps).run P w' = .ok v w' ∧ ∃ v' r' σ' j' X, Ending.returned v = .returned v' ∧ RelS w' j' σ' ∧ R w' j' r' v' ∧ Ev j w j' w' ∧ j.length ≤ j'.length ∧ Ag j j' X ∧ (r' = r ∧ σ' = σ ∧ X = []) := by
    intro hq j' a w' hrel hev
    obtain ⟨v, x, h1, h2, ⟨g, h3⟩, h4, h5⟩ := results_sound hrel (K := fun x => (∃ g, s'.σ = σ ++ g) ∧ sameR x r ∧ mvIn σ.length [] s'.mv) hq
    have hsto := hrel.sto
    rw [h3] at hsto
    have hlen0 : j.length ≤ j'.length := hrel.len0
    have hag : Ag j j' [] := Ag.mvIn hrel.ag (by show mvIn j.length [] s'.mv; rw [hs.len]; exact h5)
    obtain ⟨g1, g2, g3⟩ := hs.drop hsto (.refl _) hag hlen0
    have hlen : (j'.take j.length).length = j.length := by simp; omega
    refine ⟨v, h1, v, r, σ, j'.take j.length, [], rfl, g1, (h4.same _ _ _ h2).less g2 g3 (by rw [hlen, hs.len]; exact hr), ⟨hev.size, hev.keep, fun b hb hm => hev.sub b hb (g2 _ hm), hev.shp, hev.frz, hev.os, hev.tape, hev.output, hev.lps⟩, by omega, fun b hb hn => ?_, rfl, rfl, rfl⟩
    rw [← g3 b (by omega)]; exact hag b hb hn
  cases e with
  | normal => exact ⟨.inl rfl, fin hq⟩
  | ret => exact ⟨.inr rfl, fin hq⟩
  | exit id => exact hq.elim
  | goto l => exact hq.elim
  | panic c => exact hq.elim
  | outgrown => exact hq.elim

theorem app_get {α : Type} (l r : List α) (k : Nat) : (l ++ r)[l.length + k]? = r[k]? := by
  rw [List.getElem?_append_right (by omega)]; congr 1; omega
theorem app_get0 {α : Type} (l r : List α) : (l ++ r)[l.length]? = r[0]? := app_get l r 0
theorem app_set {α : Type} (l r : List α) (k : Nat) (x : α) : (l ++ r).set (l.length + k) x = l ++ r.set k x := by
  rw [List.set_append_right _ _ (by omega)]; congr 2; omega
theorem app_set0 {α : Type} (l r : List α) (x : α) : (l ++ r).set l.length x = l ++ r.set 0 x := app_set l r 0 x
theorem ex_app {α : Type} (l r : List α) : ∃ g, l ++ r = l ++ g := ⟨r, rfl⟩
theorem ex_app2 {α : Type} (l r q : List α) : ∃ g, l ++ (r ++ q) = l ++ r ++ g := ⟨q, by simp⟩

attribute [go_sem ↓] retPostF retPostD retDrop sameR sameL sameA
attribute [go_sem] app_get app_get0 app_set app_set0 AV.under underL mvIn

end Go.Abs
