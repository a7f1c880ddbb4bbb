/- Abstract values with value semantics over the model's memory: definitions. -/
import Derived.WalkKit
import Derived.Orders
import Derived.TacticsIn
import Derived.OrdersIn
import Derived.RangeFuncRecord
namespace Go.Abs
set_option linter.unusedVariables false
set_option linter.unusedSimpArgs false

/-- data that nobody writes any more: an exact value, or a slice whose rows are data -/
inductive D where
  | v (x : Value)
  | sl (cap : Option Nat) (sz n : Nat) (row : Nat → List D)

instance : Inhabited D := ⟨.v undef⟩

inductive AV where
  | undef
  | iff (b : Bool) (x : AV)
  | d (x : D)
  | agg (cs : List AV)
  | tup (vs : List AV)
  | ptr (b off : Nat)
  | pe (b sz i k : Nat)
  | el (cs : List D)
  | ms (b sz lo n : Nat)
  | mp (b : Nat)
  | clo (fn : Fn) (first captured : List AV)
  | yld (b : Nat)

instance : Inhabited AV := ⟨.undef⟩

abbrev Js := List (Option Nat)

def get : List (Nat × AV) → Nat → Option AV
  | [], _ => none
  | (k', v) :: t, k => if Nat.beq k' k then some v else get t k

inductive RD (w : World) (j : Js) : D → Value → Prop
  | v (x : Value) : RD w j (.v x) x
  | sl {cap : Option Nat} {sz n : Nat} {row : Nat → List D} (a : Addr) (c : Nat) (val : Nat → Nat → Value)
      (hcap : cap = none ∨ cap = some c) (hle : n ≤ c) (ha : a.spot = none) (hlt : a.block < w.heap.size) (hb : some a.block ∉ j)
      (hlen : ∀ i, i < n → (row i).length = sz)
      (hcell : ∀ i, i < n → ∀ k, k < sz → w.cell? ⟨a.block, a.off + i * sz + k, none⟩ = some (val i k))
      (hrel : ∀ i, i < n → ∀ k, k < sz → RD w j ((row i).getD k default) (val i k)) : RD w j (.sl cap sz n row) (.slice (some a) n c)
  | zero {cap : Option Nat} {sz : Nat} {row : Nat → List D} (p : Option Addr) (c : Nat) (hcap : cap = none ∨ cap = some c) (hp : p = none → c = 0) : RD w j (.sl cap sz 0 row) (.slice p 0 c)

inductive R (w : World) (j : Js) : AV → Value → Prop
  | undef (v : Value) : R w j .undef v
  | iff {b : Bool} {x : AV} {v : Value} (h : b = true → R w j x v) (h0 : b = false → v = Go.undef) : R w j (.iff b x) v
  | d {x : D} {v : Value} (h : RD w j x v) : R w j (.d x) v
  | agg {cs : List AV} (vs : Array Value) (hs : vs.size = cs.length) (h : ∀ k, k < cs.length → R w j (cs.getD k .undef) (vs.getD k Go.undef)) : R w j (.agg cs) (.agg vs)
  | tup {cs : List AV} (vs : Array Value) (hs : vs.size = cs.length) (h : ∀ k, k < cs.length → R w j (cs.getD k .undef) (vs.getD k Go.undef)) : R w j (.tup cs) (.tuple vs)
  | ptr {b off cb : Nat} (h : j[b]? = some (some cb)) : R w j (.ptr b off) (.pointer (some ⟨cb, off, none⟩))
  | pe {b sz i k cb : Nat} (h : j[b]? = some (some cb)) : R w j (.pe b sz i k) (.pointer (some ⟨cb, i * sz + k, none⟩))
  | el {cs : List D} (a : Addr) (val : Nat → Value) (ha : a.spot = none) (hlt : a.block < w.heap.size) (hb : some a.block ∉ j)
      (hcell : ∀ k, k < cs.length → w.cell? ⟨a.block, a.off + k, none⟩ = some (val k))
      (hrel : ∀ k, k < cs.length → RD w j (cs.getD k default) (val k)) : R w j (.el cs) (.pointer (some a))
  | ms {b sz lo n cb : Nat} (c e m : Nat) (h : j[b]? = some (some cb)) (hs : w.shape? cb = some (e, m)) (hn : n ≤ c) (hm : (lo + c) * sz ≤ m) : R w j (.ms b sz lo n) (.slice (some ⟨cb, lo * sz, none⟩) n c)
  | ms0 {b sz : Nat} (p : Option Addr) (h : j[b]? = some none) : R w j (.ms b sz 0 0) (.slice p 0 0)
  | mp {b cb : Nat} (h : j[b]? = some (some cb)) : R w j (.mp b) (.map (some cb))
  | clo {fn : Fn} {fs cs : List AV} (ff cc : Array Value) (h1 : ff.size = fs.length) (h2 : cc.size = cs.length)
      (h3 : ∀ k, k < fs.length → R w j (fs.getD k .undef) (ff.getD k Go.undef)) (h4 : ∀ k, k < cs.length → R w j (cs.getD k .undef) (cc.getD k Go.undef)) : R w j (.clo fn fs cs) (.func fn ff cc)
  | yld {b cb : Nat} (h : j[b]? = some (some cb)) : R w j (.yld b) (.func (.yield cb) #[] #[])

/-- temporaries -/
def RT (w : World) (j : Js) (N : Nat) (t : List (Nat × AV)) (tmps : Array Value) : Prop :=
  tmps.size = N ∧ ∀ k av, (k, av) ∈ t → k < N ∧ R w j av (tmps.getD k Go.undef)

/-- the record of a range over a function: where it stands, and its code -/
structure LoopA where
  N : Nat
  t : List (Nat × AV)
  ps : Array Tmp
  assign : Code
  body : Code

inductive Blk where
  | var (cs : List AV)
  | arr (sz n : Nat) (row : Nat → List D)
  | lp (L : LoopA) (st : LoopState) (pd : Option Code)
  | dead

def RB (w : World) (j : Js) : Blk → Option Nat → Prop
  | .dead, _ => True
  | .var cs, some cb => ∃ C e, w.heap[cb]? = some (.cells C e (0, 0)) ∧ C.size = cs.length ∧ ∀ k, k < cs.length → R w j (cs.getD k .undef) (C.getD k Go.undef)
  | .arr sz n row, some cb => ∃ C e, w.heap[cb]? = some (.cells C e (0, 0)) ∧ n * sz ≤ C.size ∧ ∀ i, i < n → (row i).length = sz ∧ ∀ k, k < sz → RD w j ((row i).getD k default) (C.getD (i * sz + k) Go.undef)
  | .arr _ n _, none => n = 0
  | .lp L st pd, some cb => ∃ r : Loop, w.heap[cb]? = some (.loop r) ∧ (r.state = st ∧ r.pending = pd ∧ r.params = L.ps ∧ r.assign = L.assign ∧ r.body = L.body) ∧ RT w j L.N L.t r.tmps
  | .lp _ _ _, none => False
  | .var _, none => False

structure RelS (w : World) (j : Js) (σ : List Blk) : Prop where
  len : j.length = σ.length
  lt : ∀ b cb : Nat, j[b]? = some (some cb) → cb < w.heap.size
  inj : ∀ b b' cb : Nat, j[b]? = some (some cb) → j[b']? = some (some cb) → b = b'
  blk : ∀ (b : Nat) x, σ[b]? = some x → ∃ o, j[b]? = some o ∧ RB w j x o

/-- what becomes of the world: what is not owned stays -/
structure Ev (j : Js) (w : World) (j' : Js) (w' : World) : Prop where
  size : w.heap.size ≤ w'.heap.size
  keep : ∀ b, b < w.heap.size → some b ∉ j → w'.heap[b]? = w.heap[b]?
  sub : ∀ b, b < w.heap.size → some b ∈ j' → some b ∈ j
  shp : ∀ b, b < w.heap.size → w'.shape? b = w.shape? b
  frz : ∀ a : Addr, a.block < w.heap.size → w'.frozen? a = w.frozen? a
  os : w'.os = w.os
  tape : w'.tape = w.tape
  output : w'.output = w.output
  lps : ∀ (b : Nat) r, w.heap[b]? = some (.loop r) → ∃ r', w'.heap[b]? = some (.loop r')

theorem Ev.refl (j : Js) (w : World) : Ev j w j w := ⟨Nat.le_refl _, fun _ _ _ => rfl, fun _ _ h => h, fun _ _ => rfl, fun _ _ => rfl, rfl, rfl, rfl, fun _ r h => ⟨r, h⟩⟩

theorem Ev.trans {j j1 j2 : Js} {w w1 w2 : World} (h : Ev j w j1 w1) (k : Ev j1 w1 j2 w2) : Ev j w j2 w2 where
  size := Nat.le_trans h.size k.size
  keep b hb hn := by
    rw [k.keep b (Nat.lt_of_lt_of_le hb h.size) (fun hm => hn (h.sub b hb hm)), h.keep b hb hn]
  sub b hb hm := h.sub b hb (k.sub b (Nat.lt_of_lt_of_le hb h.size) hm)
  shp b hb := by rw [k.shp b (Nat.lt_of_lt_of_le hb h.size), h.shp b hb]
  frz a ha := by rw [k.frz a (Nat.lt_of_lt_of_le ha h.size), h.frz a ha]
  os := by rw [k.os, h.os]
  tape := by rw [k.tape, h.tape]
  output := by rw [k.output, h.output]
  lps b r hb := by
    obtain ⟨r', h1⟩ := h.lps b r hb
    exact k.lps b r' h1

/-- the concrete blocks of old abstract ones are where they were, but for X -/
def Ag (j j' : Js) (X : List Nat) : Prop := ∀ b : Nat, b < j.length → b ∉ X → j'[b]? = j[b]?

theorem Ag.refl (j : Js) (X : List Nat) : Ag j j X := fun _ _ _ => rfl

theorem cell_eq {w w' : World} {a : Addr} (h : w'.heap[a.block]? = w.heap[a.block]?) : w'.cell? a = w.cell? a := by
  simp only [World.cell?, h]

theorem RD.mono {j j' : Js} {w w' : World} (he : Ev j w j' w') {d : D} {v : Value} (h : RD w j d v) : RD w' j' d v := by
  induction h with
  | v x => exact .v x
  | sl a c val hcap hle ha hlt hb hlen hcell hrel ih =>
    refine .sl a c val hcap hle ha (Nat.lt_of_lt_of_le hlt he.size) (fun hm => hb (he.sub _ hlt hm)) hlen (fun i hi k hk => ?_) ih
    exact (cell_eq (a := ⟨a.block, _, none⟩) (he.keep a.block hlt hb)).trans (hcell i hi k hk)
  | zero p c hcap hp => exact .zero p c hcap hp

mutual
def AV.avoids (X : List Nat) : AV → Bool
  | .undef => true
  | .iff b x => !b || x.avoids X
  | .d _ => true
  | .agg cs => avoidsL X cs
  | .tup cs => avoidsL X cs
  | .ptr b _ => !X.contains b
  | .pe b _ _ _ => !X.contains b
  | .el _ => true
  | .ms b _ _ _ => !X.contains b
  | .mp b => !X.contains b
  | .clo _ fs cs => avoidsL X fs && avoidsL X cs
  | .yld b => !X.contains b
def avoidsL (X : List Nat) : List AV → Bool
  | [] => true
  | x :: xs => x.avoids X && avoidsL X xs
end

theorem avoidsL_getD {X : List Nat} : ∀ {cs : List AV} {k : Nat}, avoidsL X cs = true → k < cs.length → (cs.getD k .undef).avoids X = true
  | [], _, _, hk => by simp at hk
  | x :: xs, 0, h, _ => by simp [avoidsL] at h; simpa using h.1
  | x :: xs, k + 1, h, hk => by
    simp [avoidsL] at h
    have := avoidsL_getD (k := k) h.2 (by simpa using hk)
    simpa using this

theorem R.mono {j j' : Js} {X : List Nat} {w w' : World} (he : Ev j w j' w') (hl : ∀ b cb : Nat, j[b]? = some (some cb) → cb < w.heap.size) (hag : Ag j j' X) {av : AV} {v : Value} (h : R w j av v) (ha : av.avoids X = true) : R w' j' av v := by
  have key : ∀ {b : Nat} {o}, j[b]? = some o → X.contains b = false → j'[b]? = some o := by
    intro b o h1 h2
    rw [hag b (by
      rcases Nat.lt_or_ge b j.length with h | h
      · exact h
      · simp [h] at h1) (by simpa using h2)]; exact h1
  induction h with
  | undef v => exact .undef v
  | iff h h0 ih => exact .iff (fun hb => ih hb (by simpa [AV.avoids, hb] using ha)) h0
  | d h => exact .d (h.mono he)
  | agg vs hs h ih => exact .agg vs hs fun k hk => ih k hk (avoidsL_getD (by simpa [AV.avoids] using ha) hk)
  | tup vs hs h ih => exact .tup vs hs fun k hk => ih k hk (avoidsL_getD (by simpa [AV.avoids] using ha) hk)
  | ptr h => exact .ptr (key h (by simpa [AV.avoids] using ha))
  | pe h => exact .pe (key h (by simpa [AV.avoids] using ha))
  | el a val hs hlt hb hcell hrel =>
    refine .el a val hs (Nat.lt_of_lt_of_le hlt he.size) (fun hm => hb (he.sub _ hlt hm)) (fun k hk => ?_) (fun k hk => (hrel k hk).mono he)
    exact (cell_eq (a := ⟨a.block, _, none⟩) (he.keep a.block hlt hb)).trans (hcell k hk)
  | ms c e m h hs hn hm => exact .ms c e m (key h (by simpa [AV.avoids] using ha)) (by rw [he.shp _ (hl _ _ h)]; exact hs) hn hm
  | ms0 p h => exact .ms0 p (key h (by simpa [AV.avoids] using ha))
  | mp h => exact .mp (key h (by simpa [AV.avoids] using ha))
  | yld h => exact .yld (key h (by simpa [AV.avoids] using ha))
  | @clo fn fs cs ff cc h1 h2 h3 h4 ih3 ih4 =>
    have hb : avoidsL X fs = true ∧ avoidsL X cs = true := by simpa [AV.avoids] using ha
    exact .clo ff cc h1 h2 (fun k hk => ih3 k hk (avoidsL_getD hb.1 hk)) (fun k hk => ih4 k hk (avoidsL_getD hb.2 hk))

/-! temporaries -/
def put : List (Nat × AV) → Nat → AV → List (Nat × AV)
  | [], k, v => [(k, v)]
  | (k', v') :: t, k, v => if Nat.beq k' k then (k, v) :: t else if Nat.blt k k' then (k, v) :: (k', v') :: t else (k', v') :: put t k v

def del : List (Nat × AV) → Nat → List (Nat × AV)
  | [], _ => []
  | (k', v') :: t, k => if Nat.beq k' k then del t k else (k', v') :: del t k

theorem get_put (t : List (Nat × AV)) (k k' : Nat) (v : AV) : get (put t k v) k' = if k = k' then some v else get t k' := by
  induction t with
  | nil => by_cases h : k = k' <;> simp [put, get, h]
  | cons x t ih =>
    obtain ⟨q, u⟩ := x
    simp only [put]
    by_cases h1 : q = k
    · subst h1
      by_cases h : q = k' <;> simp [get, h]
    · rw [if_neg (by simpa using h1)]
      split
      · by_cases h : k = k' <;> simp [get, h]
      · by_cases h : k = k'
        · subst h; simp [get, h1, ih]
        · simp only [get, ih, h, if_false]

theorem get_del (t : List (Nat × AV)) (k k' : Nat) : get (del t k) k' = if k = k' then none else get t k' := by
  induction t with
  | nil => by_cases h : k = k' <;> simp [del, get, h]
  | cons x t ih =>
    obtain ⟨q, u⟩ := x
    simp only [del]
    by_cases h1 : q = k
    · subst h1
      rw [if_pos (by simp), ih]
      by_cases h : q = k' <;> simp [get, h]
    · rw [if_neg (by simpa using h1)]
      by_cases h : k = k'
      · subst h; simp [get, h1, ih]
      · simp only [get, ih, h, if_false]

structure St where
  N : Nat
  t : List (Nat × AV)
  σ : List Blk
  mv : List Nat

/-- of the activation: the blocks at its beginning, how many there were, and the round of a range over a function of which it is -/
structure J0 where
  js : Js
  n0 : Nat
  rd : Option Nat

/-- the marks of ranges over functions among the deferred calls -/
def Marks (n0 : Nat) (w : World) (j : Js) (ds : List Deferred) : Prop :=
  (n0 ≤ w.heap.size ∧ ds.Pairwise (fun d d' => d.target ≠ d'.target)) ∧ ∀ d ∈ ds, ∃ r, d = { target := .collected r, args := #[] } ∧ n0 ≤ r ∧ some r ∉ j ∧ w.heap[r]? = some (.deferred (some []))

theorem Marks.mono {n0 : Nat} {w w' : World} {j j' : Js} {ds : List Deferred} (h : Marks n0 w j ds) (he : Ev j w j' w') : Marks n0 w' j' ds :=
  ⟨⟨Nat.le_trans h.1.1 he.size, h.1.2⟩, fun d hd => by
    obtain ⟨r, h1, h2, h3, h4⟩ := h.2 d hd
    have hlt : r < w.heap.size := (Array.getElem?_eq_some_iff.1 h4).1
    exact ⟨r, h1, h2, fun hm => h3 (he.sub r hlt hm), by rw [he.keep r hlt h3]; exact h4⟩⟩

theorem Marks.nil {n0 : Nat} {w : World} (hn : n0 ≤ w.heap.size) (j : Js) : Marks n0 w j [] := ⟨⟨hn, .nil⟩, by simp⟩

structure Rel (j0 : J0) (s : St) (j : Js) (a : Act) (w : World) : Prop where
  defers : Marks j0.n0 w j a.defers
  rdok : ∀ l, j0.rd = some l → ∃ r, w.heap[l]? = some (.loop r)
  size : a.tmps.size = s.N
  tmp : ∀ k av, get s.t k = some av → k < s.N ∧ R w j av (a.tmps.getD k Go.undef)
  sto : RelS w j s.σ
  len0 : j0.js.length ≤ j.length
  ag : Ag j0.js j s.mv

theorem Rel.rdok' {j0 : J0} {s : St} {j j' : Js} {a : Act} {w w' : World} (h : Rel j0 s j a w) (he : Ev j w j' w') : ∀ l, j0.rd = some l → ∃ r, w'.heap[l]? = some (.loop r) := fun l hl => by
  obtain ⟨r, hr⟩ := h.rdok l hl
  exact he.lps l r hr

def APost (j0 : J0) (j : Js) (w : World) (Q : Exit → St → Prop) (e : Exit) (a' : Act) (w' : World) : Prop :=
  ∃ s' j', Rel j0 s' j' a' w' ∧ Ev j w j' w' ∧ Q e s'

/-- no fence at all; the round of a range over a function in which the code stands -/
def FW (rd : Option Nat) : Fence := { fn := fun _ => True, depth := none, alive := false, round := rd }

theorem FW_room (rd : Option Nat) (n : Nat) : (FW rd).room n := fun _ h => by simp [FW] at h
theorem FW_calls {rd : Option Nat} {n : Nat} {P : Program} {f : FuncId} {args : Array Value} {w : World} {R : Ending → World → Prop} (h : Calls P f args w R) : CallsIn (FW rd) n P f args w R := callsIn_wide.2 h

/-- from whatever concrete state that fits s the code comes to one that fits a state of Q -/
def AWP (P : Program) (c : Code) (Q : Exit → St → Prop) (s : St) : Prop :=
  ∀ (j0 : J0) j a w, Rel j0 s j a w → c.wpIn (FW j0.rd) 0 P (APost j0 j w Q) a w

def Rs (w : World) (j : Js) (args : List AV) (vs : Array Value) : Prop :=
  vs.size = args.length ∧ ∀ k, k < args.length → R w j (args.getD k .undef) (vs.getD k Go.undef)

/-- a call of f enters its body -/
def entersB (P : Program) (f : FuncId) : Bool :=
  match P.funcs[f]? with
  | some fn => fn.body.isSome && !(fn.name == "runtime.NumGoroutine")
  | none => false

/-- what a call of function f does -/
def CS (P : Program) (f : FuncId) (args : List AV) (σ : List Blk) (Q : AV → List Blk → List Nat → Prop) : Prop :=
  entersB P f = true ∧ ∀ j w vs, RelS w j σ → Rs w j args vs → Calls P f vs w fun e w' =>
    ∃ v r σ' j' X, e = .returned v ∧ RelS w' j' σ' ∧ R w' j' r v ∧ Ev j w j' w' ∧ j.length ≤ j'.length ∧ Ag j j' X ∧ Q r σ' X

/-- a call that computes -/
def CSF (P : Program) (f : FuncId) (args : List AV) (σ : List Blk) (r : AV) : Prop :=
  CS P f args σ fun r' σ' X => r' = r ∧ σ' = σ ∧ X = []

theorem CS.mono {P : Program} {f : FuncId} {args : List AV} {σ : List Blk} {Q Q' : AV → List Blk → List Nat → Prop} (h : CS P f args σ Q) (hq : ∀ r σ' X, Q r σ' X → Q' r σ' X) : CS P f args σ Q' :=
  ⟨h.1, fun j w vs h1 h2 => (h.2 j w vs h1 h2).mono fun _ _ ⟨v, r, σ', j', X, he, a, b, c, d, e, q⟩ => ⟨v, r, σ', j', X, he, a, b, c, d, e, hq _ _ _ q⟩⟩

theorem CSF.cs {P : Program} {f : FuncId} {args : List AV} {σ : List Blk} {r : AV} {Q : AV → List Blk → List Nat → Prop} (h : CSF P f args σ r) (hq : Q r σ []) : CS P f args σ Q :=
  CS.mono h fun _ _ _ ⟨h1, h2, h3⟩ => by subst h1; subst h2; subst h3; exact hq

end Go.Abs
