/- Contracts and lemmas (Aa, Ab, Ac, Acq, Ad, Ae, Af, Ag, Ah, Aj, Ak, Al, Am), joined out of smaller texts by a program; no conditions. -/
import Derived.WalkKit
import Derived.Orders
import Derived.TacticsIn
import Derived.OrdersIn
import Derived.RangeFuncRecord
import Derived.Maps.RangeRun
import Derived.MapKept
import Derived.Laws.StructEq
/-! Aa -/
namespace Go.Abs
set_option linter.unusedVariables false
set_option linter.unusedSimpArgs false
inductive D where
  | v (x : Value)
  | sl (cap : Option Nat) (sz n : Nat) (row : Nat → List D)
instance : Inhabited D := ⟨.v undef⟩
inductive AV where
  | undef
  | iff (b : Bool) (x : AV)
  | d (x : D)
  | agg (cs : List AV)
  | tup (vs : List AV)
  | ptr (b off : Nat)
  | pe (b sz i k : Nat)
  | el (cs : List D)
  | op (b : Bool) (cs : List D)
  | ms (b sz lo n : Nat)
  | mc (b sz lo n c : Nat)
  | mp (b : Nat)
  | clo (fn : Fn) (first captured : List AV)
  | yld (b : Nat)
instance : Inhabited AV := ⟨.undef⟩
abbrev Js := List (Option Nat)
def get : List (Nat × AV) → Nat → Option AV
  | [], _ => none
  | (k', v) :: t, k => if Nat.beq k' k then some v else get t k
inductive RD (w : World) (j : Js) : D → Value → Prop
  | v (x : Value) : RD w j (.v x) x
  | sl {cap : Option Nat} {sz n : Nat} {row : Nat → List D} (a : Addr) (c : Nat) (val : Nat → Nat → Value)
      (hcap : cap = none ∨ cap = some c) (hle : n ≤ c) (ha : a.spot = none) (hlt : a.block < w.heap.size) (hb : some a.block ∉ j)
      (hlen : ∀ i, i < n → (row i).length = sz)
      (hcell : ∀ i, i < n → ∀ k, k < sz → w.cell? ⟨a.block, a.off + i * sz + k, none⟩ = some (val i k))
      (hrel : ∀ i, i < n → ∀ k, k < sz → RD w j ((row i).getD k default) (val i k)) : RD w j (.sl cap sz n row) (.slice (some a) n c)
  | zero {cap : Option Nat} {sz : Nat} {row : Nat → List D} (p : Option Addr) (c : Nat) (hcap : cap = none ∨ cap = some c) (hp : p = none → c = 0) : RD w j (.sl cap sz 0 row) (.slice p 0 c)
inductive R (w : World) (j : Js) : AV → Value → Prop
  | undef (v : Value) : R w j .undef v
  | iff {b : Bool} {x : AV} {v : Value} (h : b = true → R w j x v) (h0 : b = false → v = Go.undef) : R w j (.iff b x) v
  | d {x : D} {v : Value} (h : RD w j x v) : R w j (.d x) v
  | agg {cs : List AV} (vs : Array Value) (hs : vs.size = cs.length) (h : ∀ k, k < cs.length → R w j (cs.getD k .undef) (vs.getD k Go.undef)) : R w j (.agg cs) (.agg vs)
  | tup {cs : List AV} (vs : Array Value) (hs : cs.length ≤ vs.size) (h : ∀ k, k < cs.length → R w j (cs.getD k .undef) (vs.getD k Go.undef)) : R w j (.tup cs) (.tuple vs)
  | ptr {b off cb : Nat} (h : j[b]? = some (some cb)) : R w j (.ptr b off) (.pointer (some ⟨cb, off, none⟩))
  | pe {b sz i k cb : Nat} (h : j[b]? = some (some cb)) : R w j (.pe b sz i k) (.pointer (some ⟨cb, i * sz + k, none⟩))
  | el {cs : List D} (a : Addr) (val : Nat → Value) (ha : a.spot = none) (hlt : a.block < w.heap.size) (hb : some a.block ∉ j)
      (hcell : ∀ k, k < cs.length → w.cell? ⟨a.block, a.off + k, none⟩ = some (val k))
      (hrel : ∀ k, k < cs.length → RD w j (cs.getD k default) (val k)) : R w j (.el cs) (.pointer (some a))
  | op {b : Bool} {cs : List D} {v : Value} (h : b = true → R w j (.el cs) v) (h0 : b = false → v = .pointer none) : R w j (.op b cs) v
  | ms {b sz lo n cb : Nat} (c e m : Nat) (h : j[b]? = some (some cb)) (hs : w.shape? cb = some (e, m)) (hn : n ≤ c) (hm : (lo + c) * sz = m) : R w j (.ms b sz lo n) (.slice (some ⟨cb, lo * sz, none⟩) n c)
  | ms0 {b sz : Nat} (p : Option Addr) (h : j[b]? = some none) : R w j (.ms b sz 0 0) (.slice p 0 0)
  | msE {b sz lo cb : Nat} (p : Option Addr) (e m : Nat) (h : j[b]? = some (some cb)) (hs : w.shape? cb = some (e, m)) (hlo : 0 < lo) (hm : lo * sz = m) : R w j (.ms b sz lo 0) (.slice p 0 0)
  | mc {b sz lo n c : Nat} {v : Value} (h : R w j (.ms b sz lo n) v) (q : Option Addr) (hv : v = .slice q n c) : R w j (.mc b sz lo n c) v
  | mp {b cb : Nat} (h : j[b]? = some (some cb)) : R w j (.mp b) (.map (some cb))
  | clo {fn : Fn} {fs cs : List AV} (ff cc : Array Value) (h1 : ff.size = fs.length) (h2 : cc.size = cs.length)
      (h3 : ∀ k, k < fs.length → R w j (fs.getD k .undef) (ff.getD k Go.undef)) (h4 : ∀ k, k < cs.length → R w j (cs.getD k .undef) (cc.getD k Go.undef)) : R w j (.clo fn fs cs) (.func fn ff cc)
  | yld {b cb : Nat} (h : j[b]? = some (some cb)) : R w j (.yld b) (.func (.yield cb) #[] #[])
def RT (w : World) (j : Js) (N : Nat) (t : List (Nat × AV)) (tmps : Array Value) : Prop :=
  tmps.size = N ∧ ∀ k av, (k, av) ∈ t → k < N ∧ R w j av (tmps.getD k Go.undef)
structure LoopA where
  N : Nat
  t : List (Nat × AV)
  ps : Array Tmp
  assign : Code
  body : Code
/-! maps: keys that are integers or strings -/
inductive Key where
  | i (x : Int)
  | s (b : ByteArray)
  deriving DecidableEq
def Key.v : Key → Value
  | .i x => .int .i64 x
  | .s b => .string b
def Key.str : Key → Bool
  | .i _ => false
  | .s _ => true
mutual
def AV.free : AV → Bool
  | .undef => true
  | .iff b x => !b || x.free
  | .d _ => true
  | .agg cs => freeL cs
  | .tup cs => freeL cs
  | .ptr _ _ => false
  | .pe _ _ _ _ => false
  | .el _ => true
  | .op _ _ => true
  | .ms _ _ _ _ => false
  | .mc _ _ _ _ _ => false
  | .mp _ => false
  | .clo _ fs cs => freeL fs && freeL cs
  | .yld _ => false
def freeL : List AV → Bool
  | [] => true
  | x :: xs => x.free && freeL xs
end
structure MapIs (w : World) (j : Js) (es : Array MapEntry) (clock : Nat) (d : Bool) (ks : List Key) (f : Key → AV) : Prop where
  stamped : MapKept.Stamped es clock
  keys : (es.toList.map (·.key)).Perm (ks.map Key.v)
  kind : ∀ k ∈ ks, k.str = d
  free : ∀ k, (f k).free = true
  rel : ∀ e ∈ es.toList, ∀ k, e.key = k.v → R w j (f k) e.val
structure IterIs (w : World) (j : Js) (mb : Nat) (es : Array MapEntry) (clock : Nat) (seen : Array Nat) (left : List Key) (cur : Option Key) (f : Key → AV) : Prop where
  lt : mb < w.heap.size
  own : some mb ∉ j
  heap : w.heap[mb]? = some (.map es clock)
  stamped : MapKept.Stamped es clock
  keys : ((leftOf es seen).toList.map (·.key)).Perm (left.map Key.v)
  cur : ∀ k, cur = some k → ∃ e ∈ es.toList, e.key = k.v ∧ ∃ sn : Array Nat, seen = sn.push e.born
  free : ∀ k, (f k).free = true
  rel : ∀ e ∈ es.toList, ∀ k, e.key = k.v → R w j (f k) e.val
inductive Blk where
  | var (cs : List AV)
  | arr (sz n : Nat) (row : Nat → List D)
  | lp (L : LoopA) (st : LoopState) (pd : Option Code)
  | dead
  | loc (c : Nat)
  | tab (c : Nat) (vs : Array Value)
  | mp (d : Bool) (ks : List Key) (f : Key → AV)
  | it (left : List Key) (cur : Option Key) (f : Key → AV)
def CA (w : World) (cb : Nat) (C : Array Value) (e : TypeId) : Prop := ∃ f : Nat × Nat, w.heap[cb]? = some (.cells C e f) ∧ (C.size ≤ f.1 ∨ f = (0, 0))
theorem CA.mk0 {w : World} {cb : Nat} {C : Array Value} {e : TypeId} (h : w.heap[cb]? = some (.cells C e (0, 0))) : CA w cb C e := ⟨_, h, .inr rfl⟩
theorem CA.at {w w' : World} {cb : Nat} {C : Array Value} {e : TypeId} (h : CA w cb C e) (hw : w'.heap[cb]? = w.heap[cb]?) : CA w' cb C e := let ⟨f, h1, h2⟩ := h; ⟨f, hw.trans h1, h2⟩
def RB (w : World) (j : Js) : Blk → Option Nat → Prop
  | .dead, _ => True
  | .loc c, o => o = none ∧ c < w.heap.size ∧ some c ∉ j ∧ ∃ m, w.cell? ⟨c, 0, none⟩ = some (.int .i64 m)
  | .tab c vs, o => o = none ∧ c < w.heap.size ∧ some c ∉ j ∧ ∃ e, w.shape? c = some (e, vs.size) ∧ ∀ i, w.cell? ⟨c, i, none⟩ = vs[i]?
  | .var cs, some cb => ∃ C e, w.heap[cb]? = some (.cells C e (0, 0)) ∧ C.size = cs.length ∧ ∀ k, k < cs.length → R w j (cs.getD k .undef) (C.getD k Go.undef)
  | .arr sz n row, some cb => ∃ C e, CA w cb C e ∧ n * sz ≤ C.size ∧ ∀ i, i < n → (row i).length = sz ∧ ∀ k, k < sz → RD w j ((row i).getD k default) (C.getD (i * sz + k) Go.undef)
  | .arr _ n _, none => n = 0
  | .lp L st pd, some cb => ∃ r : Loop, w.heap[cb]? = some (.loop r) ∧ (r.state = st ∧ r.pending = pd ∧ r.params = L.ps ∧ r.assign = L.assign ∧ r.body = L.body) ∧ RT w j L.N L.t r.tmps
  | .lp _ _ _, none => False
  | .mp d ks f, some cb => ∃ es clock, w.heap[cb]? = some (.map es clock) ∧ MapIs w j es clock d ks f
  | .mp _ _ _, none => False
  | .it left cur f, some cb => ∃ mb es clock seen, w.heap[cb]? = some (.mapIter (some mb) clock seen clock) ∧ IterIs w j mb es clock seen left cur f
  | .it _ _ _, none => False
  | .var _, none => False
structure RelS (w : World) (j : Js) (σ : List Blk) : Prop where
  len : j.length = σ.length
  lt : ∀ b cb : Nat, j[b]? = some (some cb) → cb < w.heap.size
  inj : ∀ b b' cb : Nat, j[b]? = some (some cb) → j[b']? = some (some cb) → b = b'
  blk : ∀ (b : Nat) x, σ[b]? = some x → ∃ o, j[b]? = some o ∧ RB w j x o
structure Ev (j : Js) (w : World) (j' : Js) (w' : World) : Prop where
  size : w.heap.size ≤ w'.heap.size
  keep : ∀ b, b < w.heap.size → some b ∉ j → w'.heap[b]? = w.heap[b]?
  sub : ∀ b, b < w.heap.size → some b ∈ j' → some b ∈ j
  shp : ∀ b, b < w.heap.size → w'.shape? b = w.shape? b
  frz : ∀ a : Addr, a.block < w.heap.size → w'.frozen? a = w.frozen? a
  os : w'.os = w.os
  tape : w'.tape = w.tape
  output : w'.output = w.output
  lps : ∀ (b : Nat) r, w.heap[b]? = some (.loop r) → ∃ r', w'.heap[b]? = some (.loop r')
theorem Ev.refl (j : Js) (w : World) : Ev j w j w := ⟨Nat.le_refl _, fun _ _ _ => rfl, fun _ _ h => h, fun _ _ => rfl, fun _ _ => rfl, rfl, rfl, rfl, fun _ r h => ⟨r, h⟩⟩
theorem Ev.trans {j j1 j2 : Js} {w w1 w2 : World} (h : Ev j w j1 w1) (k : Ev j1 w1 j2 w2) : Ev j w j2 w2 where
  size := Nat.le_trans h.size k.size
  keep b hb hn := by
    rw [k.keep b (Nat.lt_of_lt_of_le hb h.size) (fun hm => hn (h.sub b hb hm)), h.keep b hb hn]
  sub b hb hm := h.sub b hb (k.sub b (Nat.lt_of_lt_of_le hb h.size) hm)
  shp b hb := by rw [k.shp b (Nat.lt_of_lt_of_le hb h.size), h.shp b hb]
  frz a ha := by rw [k.frz a (Nat.lt_of_lt_of_le ha h.size), h.frz a ha]
  os := by rw [k.os, h.os]
  tape := by rw [k.tape, h.tape]
  output := by rw [k.output, h.output]
  lps b r hb := by
    obtain ⟨r', h1⟩ := h.lps b r hb
    exact k.lps b r' h1
def Ag (j j' : Js) (X : List Nat) : Prop := ∀ b : Nat, b < j.length → b ∉ X → j'[b]? = j[b]?
theorem Ag.refl (j : Js) (X : List Nat) : Ag j j X := fun _ _ _ => rfl
theorem cell_eq {w w' : World} {a : Addr} (h : w'.heap[a.block]? = w.heap[a.block]?) : w'.cell? a = w.cell? a := by
  simp only [World.cell?, h]
theorem RD.mono {j j' : Js} {w w' : World} (he : Ev j w j' w') {d : D} {v : Value} (h : RD w j d v) : RD w' j' d v := by
  induction h with
  | v x => exact .v x
  | sl a c val hcap hle ha hlt hb hlen hcell hrel ih =>
    refine .sl a c val hcap hle ha (Nat.lt_of_lt_of_le hlt he.size) (fun hm => hb (he.sub _ hlt hm)) hlen (fun i hi k hk => ?_) ih
    exact (cell_eq (a := ⟨a.block, _, none⟩) (he.keep a.block hlt hb)).trans (hcell i hi k hk)
  | zero p c hcap hp => exact .zero p c hcap hp
mutual
def AV.avoids (X : List Nat) : AV → Bool
  | .undef => true
  | .iff b x => !b || x.avoids X
  | .d _ => true
  | .agg cs => avoidsL X cs
  | .tup cs => avoidsL X cs
  | .ptr b _ => !X.contains b
  | .pe b _ _ _ => !X.contains b
  | .el _ => true
  | .op _ _ => true
  | .ms b _ _ _ => !X.contains b
  | .mc b _ _ _ _ => !X.contains b
  | .mp b => !X.contains b
  | .clo _ fs cs => avoidsL X fs && avoidsL X cs
  | .yld b => !X.contains b
def avoidsL (X : List Nat) : List AV → Bool
  | [] => true
  | x :: xs => x.avoids X && avoidsL X xs
end
theorem avoidsL_getD {X : List Nat} : ∀ {cs : List AV} {k : Nat}, avoidsL X cs = true → k < cs.length → (cs.getD k .undef).avoids X = true
  | [], _, _, hk => by simp at hk
  | x :: xs, 0, h, _ => by simp [avoidsL] at h; simpa using h.1
  | x :: xs, k + 1, h, hk => by
    simp [avoidsL] at h
    have := avoidsL_getD (k := k) h.2 (by simpa using hk)
    simpa using this
theorem R.mono {j j' : Js} {X : List Nat} {w w' : World} (he : Ev j w j' w') (hl : ∀ b cb : Nat, j[b]? = some (some cb) → cb < w.heap.size) (hag : Ag j j' X) {av : AV} {v : Value} (h : R w j av v) (ha : av.avoids X = true) : R w' j' av v := by
  have key : ∀ {b : Nat} {o}, j[b]? = some o → X.contains b = false → j'[b]? = some o := by
    intro b o h1 h2
    rw [hag b (by
      rcases Nat.lt_or_ge b j.length with h | h
      · exact h
      · simp [h] at h1) (by simpa using h2)]; exact h1
  induction h with
  | undef v => exact .undef v
  | iff h h0 ih => exact .iff (fun hb => ih hb (by simpa [AV.avoids, hb] using ha)) h0
  | d h => exact .d (h.mono he)
  | agg vs hs h ih => exact .agg vs hs fun k hk => ih k hk (avoidsL_getD (by simpa [AV.avoids] using ha) hk)
  | tup vs hs h ih => exact .tup vs hs fun k hk => ih k hk (avoidsL_getD (by simpa [AV.avoids] using ha) hk)
  | ptr h => exact .ptr (key h (by simpa [AV.avoids] using ha))
  | pe h => exact .pe (key h (by simpa [AV.avoids] using ha))
  | el a val hs hlt hb hcell hrel =>
    refine .el a val hs (Nat.lt_of_lt_of_le hlt he.size) (fun hm => hb (he.sub _ hlt hm)) (fun k hk => ?_) (fun k hk => (hrel k hk).mono he)
    exact (cell_eq (a := ⟨a.block, _, none⟩) (he.keep a.block hlt hb)).trans (hcell k hk)
  | op h h0 ih => exact .op (fun hb => ih hb rfl) h0
  | ms c e m h hs hn hm => exact .ms c e m (key h (by simpa [AV.avoids] using ha)) (by rw [he.shp _ (hl _ _ h)]; exact hs) hn hm
  | ms0 p h => exact .ms0 p (key h (by simpa [AV.avoids] using ha))
  | msE p e m h hs hlo hm => exact .msE p e m (key h (by simpa [AV.avoids] using ha)) (by rw [he.shp _ (hl _ _ h)]; exact hs) hlo hm
  | mc h q hv ih => exact .mc (ih (by simpa [AV.avoids] using ha)) q hv
  | mp h => exact .mp (key h (by simpa [AV.avoids] using ha))
  | yld h => exact .yld (key h (by simpa [AV.avoids] using ha))
  | @clo fn fs cs ff cc h1 h2 h3 h4 ih3 ih4 =>
    have hb : avoidsL X fs = true ∧ avoidsL X cs = true := by simpa [AV.avoids] using ha
    exact .clo ff cc h1 h2 (fun k hk => ih3 k hk (avoidsL_getD hb.1 hk)) (fun k hk => ih4 k hk (avoidsL_getD hb.2 hk))
/-! temporaries -/
def put : List (Nat × AV) → Nat → AV → List (Nat × AV)
  | [], k, v => [(k, v)]
  | (k', v') :: t, k, v => if Nat.beq k' k then (k, v) :: t else if Nat.blt k k' then (k, v) :: (k', v') :: t else (k', v') :: put t k v
def del : List (Nat × AV) → Nat → List (Nat × AV)
  | [], _ => []
  | (k', v') :: t, k => if Nat.beq k' k then del t k else (k', v') :: del t k
theorem get_put (t : List (Nat × AV)) (k k' : Nat) (v : AV) : get (put t k v) k' = if k = k' then some v else get t k' := by
  induction t with
  | nil => by_cases h : k = k' <;> simp [put, get, h]
  | cons x t ih =>
    obtain ⟨q, u⟩ := x
    simp only [put]
    by_cases h1 : q = k
    · subst h1
      by_cases h : q = k' <;> simp [get, h]
    · rw [if_neg (by simpa using h1)]
      split
      · by_cases h : k = k' <;> simp [get, h]
      · by_cases h : k = k'
        · subst h; simp [get, h1, ih]
        · simp only [get, ih, h, if_false]
theorem get_del (t : List (Nat × AV)) (k k' : Nat) : get (del t k) k' = if k = k' then none else get t k' := by
  induction t with
  | nil => by_cases h : k = k' <;> simp [del, get, h]
  | cons x t ih =>
    obtain ⟨q, u⟩ := x
    simp only [del]
    by_cases h1 : q = k
    · subst h1
      rw [if_pos (by simp), ih]
      by_cases h : q = k' <;> simp [get, h]
    · rw [if_neg (by simpa using h1)]
      by_cases h : k = k'
      · subst h; simp [get, h1, ih]
      · simp only [get, ih, h, if_false]
structure St where
  N : Nat
  t : List (Nat × AV)
  σ : List Blk
  mv : List Nat
structure J0 where
  js : Js
  n0 : Nat
  rd : Option Nat
def Marks (n0 : Nat) (w : World) (j : Js) (ds : List Deferred) : Prop :=
  (n0 ≤ w.heap.size ∧ ds.Pairwise (fun d d' => d.target ≠ d'.target)) ∧ ∀ d ∈ ds, ∃ r, d = { target := .collected r, args := #[] } ∧ n0 ≤ r ∧ some r ∉ j ∧ w.heap[r]? = some (.deferred (some []))
theorem Marks.mono {n0 : Nat} {w w' : World} {j j' : Js} {ds : List Deferred} (h : Marks n0 w j ds) (he : Ev j w j' w') : Marks n0 w' j' ds :=
  ⟨⟨Nat.le_trans h.1.1 he.size, h.1.2⟩, fun d hd => by
    obtain ⟨r, h1, h2, h3, h4⟩ := h.2 d hd
    have hlt : r < w.heap.size := (Array.getElem?_eq_some_iff.1 h4).1
    exact ⟨r, h1, h2, fun hm => h3 (he.sub r hlt hm), by rw [he.keep r hlt h3]; exact h4⟩⟩
theorem Marks.nil {n0 : Nat} {w : World} (hn : n0 ≤ w.heap.size) (j : Js) : Marks n0 w j [] := ⟨⟨hn, .nil⟩, by simp⟩
structure Rel (j0 : J0) (s : St) (j : Js) (a : Act) (w : World) : Prop where
  defers : Marks j0.n0 w j a.defers
  rdok : ∀ l, j0.rd = some l → ∃ r, w.heap[l]? = some (.loop r)
  size : a.tmps.size = s.N
  tmp : ∀ k av, get s.t k = some av → k < s.N ∧ R w j av (a.tmps.getD k Go.undef)
  sto : RelS w j s.σ
  len0 : j0.js.length ≤ j.length
  ag : Ag j0.js j s.mv
theorem Rel.rdok' {j0 : J0} {s : St} {j j' : Js} {a : Act} {w w' : World} (h : Rel j0 s j a w) (he : Ev j w j' w') : ∀ l, j0.rd = some l → ∃ r, w'.heap[l]? = some (.loop r) := fun l hl => by
  obtain ⟨r, hr⟩ := h.rdok l hl
  exact he.lps l r hr
def APost (j0 : J0) (j : Js) (w : World) (Q : Exit → St → Prop) (e : Exit) (a' : Act) (w' : World) : Prop :=
  ∃ s' j', Rel j0 s' j' a' w' ∧ Ev j w j' w' ∧ Q e s'
def FW (rd : Option Nat) : Fence := { fn := fun _ => True, depth := none, alive := false, round := rd }
theorem FW_room (rd : Option Nat) (n : Nat) : (FW rd).room n := fun _ h => by simp [FW] at h
theorem FW_calls {rd : Option Nat} {n : Nat} {P : Program} {f : FuncId} {args : Array Value} {w : World} {R : Ending → World → Prop} (h : Calls P f args w R) : CallsIn (FW rd) n P f args w R := callsIn_wide.2 h
def AWP (P : Program) (c : Code) (Q : Exit → St → Prop) (s : St) : Prop :=
  ∀ (j0 : J0) j a w, Rel j0 s j a w → c.wpIn (FW j0.rd) 0 P (APost j0 j w Q) a w
def Rs (w : World) (j : Js) (args : List AV) (vs : Array Value) : Prop :=
  vs.size = args.length ∧ ∀ k, k < args.length → R w j (args.getD k .undef) (vs.getD k Go.undef)
def entersB (P : Program) (f : FuncId) : Bool :=
  match P.funcs[f]? with
  | some fn => fn.body.isSome && !(fn.name == "runtime.NumGoroutine")
  | none => false
def CS (P : Program) (f : FuncId) (args : List AV) (σ : List Blk) (Q : AV → List Blk → List Nat → Prop) : Prop :=
  entersB P f = true ∧ ∀ j w vs, RelS w j σ → Rs w j args vs → Calls P f vs w fun e w' =>
    ∃ v r σ' j' X, e = .returned v ∧ RelS w' j' σ' ∧ R w' j' r v ∧ Ev j w j' w' ∧ j.length ≤ j'.length ∧ Ag j j' X ∧ Q r σ' X
def CSF (P : Program) (f : FuncId) (args : List AV) (σ : List Blk) (r : AV) : Prop :=
  CS P f args σ fun r' σ' X => r' = r ∧ σ' = σ ∧ X = []
theorem CS.mono {P : Program} {f : FuncId} {args : List AV} {σ : List Blk} {Q Q' : AV → List Blk → List Nat → Prop} (h : CS P f args σ Q) (hq : ∀ r σ' X, Q r σ' X → Q' r σ' X) : CS P f args σ Q' :=
  ⟨h.1, fun j w vs h1 h2 => (h.2 j w vs h1 h2).mono fun _ _ ⟨v, r, σ', j', X, he, a, b, c, d, e, q⟩ => ⟨v, r, σ', j', X, he, a, b, c, d, e, hq _ _ _ q⟩⟩
theorem CSF.cs {P : Program} {f : FuncId} {args : List AV} {σ : List Blk} {r : AV} {Q : AV → List Blk → List Nat → Prop} (h : CSF P f args σ r) (hq : Q r σ []) : CS P f args σ Q :=
  CS.mono h fun _ _ _ ⟨h1, h2, h3⟩ => by subst h1; subst h2; subst h3; exact hq
end Go.Abs

/-! Ab -/
namespace Go.Abs
set_option linter.unusedVariables false
set_option linter.unusedSimpArgs false
def St.put (s : St) (dst : Option Tmp) (av : AV) : St :=
  match dst with
  | none => s
  | some d => if Nat.blt d s.N then { s with t := Abs.put s.t d av } else { s with t := Abs.del s.t d }
def St.del (s : St) (dst : Option Tmp) : St :=
  match dst with
  | none => s
  | some d => { s with t := Abs.del s.t d }
theorem beq_ne {m k : Nat} (h : m ≠ k) : Nat.beq m k = false := by
  cases hb : Nat.beq m k with
  | false => rfl
  | true => exact absurd (Nat.eq_of_beq_eq_true hb) h
theorem R_setIfInBounds {w : World} {j : Js} {tm : Array Value} {d k : Nat} {v : Value} (hd : d < tm.size) :
    (tm.setIfInBounds d v).getD k Go.undef = if d = k then v else tm.getD k Go.undef := by
  simp only [Array.getD_eq_getD_getElem?, Array.getElem?_setIfInBounds]
  by_cases h : d = k
  · subst h; simp [hd]
  · simp [h]
theorem Rel.put {j0 : J0} {j : Js} {s : St} {a : Act} {w : World} (h : Rel j0 s j a w) (dst : Option Tmp) {av : AV} {v : Value} (hr : R w j av v) : Rel j0 (s.put dst av) j (a.put dst v) w := by
  cases dst with
  | none => exact h
  | some d =>
    simp only [St.put, Act.put]
    by_cases hd : d < s.N
    · rw [if_pos (by simpa using hd)]
      refine ⟨h.defers, h.rdok, by simpa using h.size, fun k av' hk => ?_, h.sto, h.len0, h.ag⟩
      simp only at hk ⊢
      rw [get_put] at hk
      rw [R_setIfInBounds (w := w) (j := j) (by rw [h.size]; exact hd)]
      by_cases hkd : d = k
      · subst hkd; simp at hk; subst hk; simp; exact ⟨hd, hr⟩
      · rw [if_neg hkd] at hk ⊢; exact h.tmp k av' hk
    · rw [if_neg (by simpa using hd)]
      refine ⟨h.defers, h.rdok, by simpa using h.size, fun k av' hk => ?_, h.sto, h.len0, h.ag⟩
      simp only at hk ⊢
      rw [get_del] at hk
      by_cases hkd : d = k
      · simp [hkd] at hk
      · simp [hkd] at hk
        have hz : a.tmps.setIfInBounds d v = a.tmps := by
          apply Array.setIfInBounds_eq_of_size_le; rw [h.size]; exact Nat.le_of_not_lt hd
        rw [hz]; exact h.tmp k av' hk
theorem Rel.del {j0 : J0} {j : Js} {s : St} {a : Act} {w : World} (h : Rel j0 s j a w) (dst : Option Tmp) (v : Value) : Rel j0 (s.del dst) j (a.put dst v) w := by
  cases dst with
  | none => exact h
  | some d =>
    simp only [St.del, Act.put]
    refine ⟨h.defers, h.rdok, by simpa using h.size, fun k av' hk => ?_, h.sto, h.len0, h.ag⟩
    simp only at hk ⊢
    rw [get_del] at hk
    by_cases hkd : d = k
    · simp [hkd] at hk
    · simp [hkd] at hk
      have := h.tmp k av' hk
      refine ⟨this.1, ?_⟩
      have hz : (a.tmps.setIfInBounds d v).getD k Go.undef = a.tmps.getD k Go.undef := by
        simp [Array.getD_eq_getD_getElem?, Array.getElem?_setIfInBounds, hkd]
      rw [hz]; exact this.2
def scrub' (X : List Nat) (t : List (Nat × AV)) : List (Nat × AV) :=
  match t with
  | [] => []
  | (k, v) :: t => if v.avoids X then (k, v) :: scrub' X t else Abs.del (scrub' X t) k
theorem scrub'_spec {X : List Nat} : ∀ {t : List (Nat × AV)} {k : Nat} {av : AV}, get (scrub' X t) k = some av → get t k = some av ∧ av.avoids X = true
  | [], _, _, h => by simp [scrub', get] at h
  | (q, u) :: t, k, av, h => by
    have ih := scrub'_spec (X := X) (t := t) (k := k) (av := av)
    simp only [scrub'] at h
    by_cases hu : u.avoids X = true
    · rw [if_pos hu] at h
      simp only [get] at h ⊢
      by_cases hq : q = k
      · simp [hq] at h ⊢; subst h; exact ⟨rfl, hu⟩
      · simp only [beq_ne hq] at h ⊢
        exact ih (by simpa using h)
    · rw [if_neg hu, get_del] at h
      by_cases hq : q = k
      · simp [hq] at h
      · simp [hq] at h
        have := ih h
        exact ⟨by simp [get, hq, this.1], this.2⟩
theorem get_mem : ∀ {t : List (Nat × AV)} {k : Nat} {av : AV}, get t k = some av → (k, av) ∈ t
  | [], _, _, h => by simp [get] at h
  | (q, u) :: t, k, av, h => by
    simp only [get] at h
    by_cases hq : q = k
    · simp [hq] at h; simp [hq, h]
    · simp only [beq_ne hq, Bool.false_eq_true, if_false] at h
      exact List.mem_cons_of_mem _ (get_mem h)
theorem del_mem : ∀ {t : List (Nat × AV)} {k : Nat} {p : Nat × AV}, p ∈ Abs.del t k → p ∈ t
  | [], _, _, h => by simp [Abs.del] at h
  | (q, u) :: t, k, p, h => by
    simp only [Abs.del] at h
    split at h
    · exact List.mem_cons_of_mem _ (del_mem h)
    · rcases List.mem_cons.1 h with h | h
      · rw [h]; simp
      · exact List.mem_cons_of_mem _ (del_mem h)
theorem scrub'_mem {X : List Nat} : ∀ {t : List (Nat × AV)} {k : Nat} {av : AV}, (k, av) ∈ scrub' X t → (k, av) ∈ t ∧ av.avoids X = true
  | [], _, _, h => by simp [scrub'] at h
  | (q, u) :: t, k, av, h => by
    simp only [scrub'] at h
    by_cases hu : u.avoids X = true
    · rw [if_pos hu] at h
      rcases List.mem_cons.1 h with h | h
      · cases h; exact ⟨by simp, hu⟩
      · have := scrub'_mem h
        exact ⟨List.mem_cons_of_mem _ this.1, this.2⟩
    · rw [if_neg hu] at h
      have := scrub'_mem (del_mem h)
      exact ⟨List.mem_cons_of_mem _ this.1, this.2⟩
theorem scrub'_id {X : List Nat} : ∀ {t : List (Nat × AV)}, (∀ k av, (k, av) ∈ t → av.avoids X = true) → scrub' X t = t
  | [], _ => rfl
  | (q, u) :: t, h => by
    simp only [scrub']
    rw [if_pos (h q u (by simp)), scrub'_id fun k av hk => h k av (List.mem_cons_of_mem _ hk)]
def St.after (s : St) (σ : List Blk) (X : List Nat) : St :=
  match X with
  | [] => { s with σ := σ }
  | X => { s with σ := σ, t := scrub' X s.t, mv := s.mv ++ X }
theorem Ag.trans {j j1 j2 : Js} {X Y : List Nat} (h : Ag j j1 X) (hl : j.length ≤ j1.length) (k : Ag j1 j2 Y) : Ag j j2 (X ++ Y) := by
  intro b hb hn
  simp at hn
  rw [k b (Nat.lt_of_lt_of_le hb hl) hn.2, h b hb hn.1]
theorem Rel.after {j0 : J0} {j j' : Js} {s : St} {a : Act} {w w' : World} {σ : List Blk} {X : List Nat} (h : Rel j0 s j a w) (he : Ev j w j' w') (hs : RelS w' j' σ) (hl : j.length ≤ j'.length) (hag : Ag j j' X) : Rel j0 (s.after σ X) j' a w' := by
  have hmv : Ag j0.js j' (s.mv ++ X) := h.ag.trans h.len0 hag
  unfold St.after
  split
  · refine ⟨h.defers.mono he, h.rdok' he, h.size, fun k av hk => ?_, hs, Nat.le_trans h.len0 hl, by simpa using hmv⟩
    have := h.tmp k av hk
    refine ⟨this.1, this.2.mono he h.sto.lt hag ?_⟩
    exact avoids_nil av
  · refine ⟨h.defers.mono he, h.rdok' he, h.size, fun k av hk => ?_, hs, Nat.le_trans h.len0 hl, hmv⟩
    have hk' := scrub'_spec hk
    have := h.tmp k av hk'.1
    exact ⟨this.1, this.2.mono he h.sto.lt hag hk'.2⟩
where
  avoids_nil : ∀ av : AV, av.avoids [] = true := by
    intro av
    induction av using AV.rec (motive_2 := fun l => avoidsL [] l = true) <;> simp_all [AV.avoids, avoidsL]
/-! code -/
def thenA (K : St → Prop) (Q : Exit → St → Prop) : Exit → St → Prop
  | .normal, s => K s
  | e, s => Q e s
def inBlockA (id : Nat) (Q : Exit → St → Prop) : Exit → St → Prop
  | .exit id', s => if Nat.beq id' id then Q .normal s else Q (.exit id') s
  | e, s => Q e s
section
variable {P : Program} {Q : Exit → St → Prop} {s : St}
theorem AWP.mono {c : Code} {Q' : Exit → St → Prop} (h : AWP P c Q s) (hq : ∀ e s, Q e s → Q' e s) : AWP P c Q' s :=
  fun j0 j a w hr => wpIn_mono (h j0 j a w hr) fun _ _ _ ⟨s', j', h1, h2, h3⟩ => ⟨s', j', h1, h2, hq _ _ h3⟩
theorem awp_skip (h : Q .normal s) : AWP P .skip Q s := fun j0 j a w hr => wpIn_skip ⟨s, j, hr, .refl _ _, h⟩
theorem awp_label {l : Nat} (h : Q .normal s) : AWP P (.label l) Q s := fun j0 j a w hr => wpIn_label ⟨s, j, hr, .refl _ _, h⟩
theorem awp_ret (h : Q .ret s) : AWP P .ret Q s := fun j0 j a w hr => wpIn_ret ⟨s, j, hr, .refl _ _, h⟩
theorem awp_exit {id : Nat} (h : Q (.exit id) s) : AWP P (.exit id) Q s := fun j0 j a w hr => wpIn_exit ⟨s, j, hr, .refl _ _, h⟩
theorem awp_seq {x y : Code} (h : AWP P x (thenA (AWP P y Q) Q) s) : AWP P (.seq x y) Q s := by
  intro j0 j a w hr
  refine wpIn_seq (wpIn_mono (h j0 j a w hr) ?_)
  rintro e a' w' ⟨s', j', hr', hev, hq⟩
  cases e with
  | normal =>
    refine wpIn_mono (hq j0 j' a' w' hr') ?_
    rintro e a'' w'' ⟨s'', j'', h1, h2, h3⟩
    exact ⟨s'', j'', h1, hev.trans h2, h3⟩
  | exit id => exact ⟨s', j', hr', hev, hq⟩
  | goto l => exact ⟨s', j', hr', hev, hq⟩
  | ret => exact ⟨s', j', hr', hev, hq⟩
  | panic c => exact ⟨s', j', hr', hev, hq⟩
  | outgrown => exact ⟨s', j', hr', hev, hq⟩
theorem awp_block {id : Nat} {c : Code} (h : AWP P c (inBlockA id Q) s) : AWP P (.block id c) Q s := by
  intro j0 j a w hr
  refine wpIn_block (wpIn_mono (h j0 j a w hr) ?_)
  rintro e a' w' ⟨s', j', hr', hev, hq⟩
  cases e with
  | exit id' =>
    simp only [inBlockA] at hq
    simp only [Exit.inBlock]
    by_cases hid : id' = id
    · subst hid; simp at hq ⊢; exact ⟨s', j', hr', hev, hq⟩
    · simp [hid] at hq ⊢; exact ⟨s', j', hr', hev, hq⟩
  | normal => exact ⟨s', j', hr', hev, hq⟩
  | goto l => exact ⟨s', j', hr', hev, hq⟩
  | ret => exact ⟨s', j', hr', hev, hq⟩
  | panic c => exact ⟨s', j', hr', hev, hq⟩
  | outgrown => exact ⟨s', j', hr', hev, hq⟩
def Sub (s s' : St) : Prop := ∀ j0 j a w, Rel j0 s j a w → ∃ j', Rel j0 s' j' a w ∧ Ev j w j' w
theorem Sub.refl (s : St) : Sub s s := fun _ j _ _ h => ⟨j, h, .refl _ _⟩
theorem Sub.trans {s s' s'' : St} (h : Sub s s') (k : Sub s' s'') : Sub s s'' := fun j0 j a w hr =>
  let ⟨j1, h1, e1⟩ := h j0 j a w hr
  let ⟨j2, h2, e2⟩ := k j0 j1 a w h1
  ⟨j2, h2, e1.trans e2⟩
theorem awp_sub {c : Code} {s' : St} (hs : Sub s s') (h : AWP P c Q s') : AWP P c Q s := by
  intro j0 j a w hr
  obtain ⟨j', hr', he⟩ := hs j0 j a w hr
  exact wpIn_mono (h j0 j' a w hr') fun _ _ _ ⟨s'', j'', h1, h2, h3⟩ => ⟨s'', j'', h1, he.trans h2, h3⟩
theorem awp_post {c : Code} (h : AWP P c (fun e s' => ∃ s'', Sub s' s'' ∧ Q e s'') s) : AWP P c Q s := by
  intro j0 j a w hr
  refine wpIn_mono (h j0 j a w hr) ?_
  rintro e a' w' ⟨s', j', hr', hev, s'', hsub, hq⟩
  obtain ⟨j'', h1, h2⟩ := hsub _ _ _ _ hr'
  exact ⟨s'', j'', h1, hev.trans h2, hq⟩
end
/-! operands -/
def ofConst : Value → AV
  | .agg cs => .agg (cs.toList.map fun c => .d (.v c))
  | v => .d (.v v)
def val (s : St) : Operand → Option AV
  | .tmp t => get s.t t
  | .const v => some (ofConst v)
  | .func f => some (.clo (.func f) [] [])
  | .global _ => none
theorem R_ofConst (w : World) (j : Js) (v : Value) : R w j (ofConst v) v := by
  cases v with
  | agg cs =>
    refine .agg cs (by simp) fun k hk => ?_
    simp only [List.length_map, Array.length_toList] at hk
    have h1 : (cs.toList.map fun c => AV.d (.v c)).getD k .undef = AV.d (.v (cs.getD k Go.undef)) := by
      simp [List.getD_eq_getElem?_getD, hk, Array.getD_eq_getD_getElem?]
    rw [h1]; exact .d (.v _)
  | _ => exact .d (.v _)
theorem val_rel {j0 : J0} {j : Js} {s : St} {a : Act} {w : World} (h : Rel j0 s j a w) {x : Operand} {av : AV} (hv : val s x = some av) : R w j av (a.eval x) := by
  cases x with
  | tmp t => exact (h.tmp t av hv).2
  | const v => simp only [val, Option.some.injEq] at hv; subst hv; exact R_ofConst w j v
  | func f => simp only [val, Option.some.injEq] at hv; subst hv; exact .clo #[] #[] rfl rfl (by simp) (by simp)
  | global g => simp [val] at hv
theorem awp_cond {P : Program} {Q : Exit → St → Prop} {s : St} {c : Operand} {x y : Code} {b : Bool} (hc : val s c = some (.d (.v (.bool b)))) (ht : b = true → AWP P x Q s) (hf : b = false → AWP P y Q s) : AWP P (.cond c x y) Q s := by
  intro j0 j a w hr
  have hv := val_rel hr hc
  have hb : a.eval c = .bool b := by
    generalize a.eval c = u at hv
    cases hv with | d h => cases h; rfl
  refine wpIn_cond hb ?_
  cases b with
  | true => exact ht rfl j0 j a w hr
  | false => exact hf rfl j0 j a w hr
/-! a call -/
def initT : List AV → Nat → List (Nat × AV)
  | [], _ => []
  | x :: xs, k => (k, x) :: initT xs (k + 1)
theorem get_initT : ∀ (args : List AV) (m k : Nat), get (initT args m) k = if m ≤ k ∧ k < m + args.length then some (args.getD (k - m) .undef) else none
  | [], m, k => by simp [initT, get]
  | x :: xs, m, k => by
    simp only [initT, get, get_initT xs (m + 1) k, List.length_cons]
    by_cases h : m = k
    · subst h; simp
    · simp only [beq_ne h, Bool.false_eq_true, if_false]
      by_cases h2 : m + 1 ≤ k ∧ k < m + 1 + xs.length
      · rw [if_pos h2, if_pos (by omega), show k - m = (k - (m + 1)) + 1 by omega]; simp
      · rw [if_neg h2, if_neg (by omega)]
def St.init (N : Nat) (args : List AV) (σ : List Blk) : St := { N := N, t := initT args 0, σ := σ, mv := [] }
def cellsOf : AV → List AV
  | .agg cs => cs
  | x => [x]
end Go.Abs

/-! Ac -/
namespace Go.Abs
set_option linter.unusedVariables false
set_option linter.unusedSimpArgs false
def tyA (P : Program) (t : TypeId) : Option (Bool × Nat) :=
  match P.underlying t, P.info? t with
  | some (.struct _), some i => some (true, i.size)
  | some (.array _ _), some i => some (true, i.size)
  | some _, some i => some (false, i.size)
  | _, _ => none
theorem tyA_isAgg {P : Program} {t : TypeId} {b : Bool} {m : Nat} (h : tyA P t = some (b, m)) (w : World) : (isAgg t).run P w = .ok b w := by
  unfold tyA at h
  simp only [isAgg, underlying]
  split at h <;> simp_all
theorem tyA_sizeOf {P : Program} {t : TypeId} {b : Bool} {m : Nat} (h : tyA P t = some (b, m)) (w : World) : (sizeOf t).run P w = .ok m w := by
  unfold tyA at h
  simp only [Go.sizeOf, typeInfo]
  split at h <;> simp_all
def readAt (σ : List Blk) (m : Nat) : AV → Option (Prop × List AV)
  | .ptr b off => match σ[b]? with
    | some (.var cs) => if Nat.ble (off + m) cs.length then some (True, (cs.drop off).take m) else none
    | _ => none
  | .pe b sz i k => match σ[b]? with
    | some (.arr sz' n row) => if Nat.beq sz sz' && Nat.ble (k + m) sz then some (i < n, (((row i).drop k).take m).map .d) else none
    | _ => none
  | .el cs => if Nat.ble m cs.length then some (True, (cs.take m).map .d) else none
  | .op b cs => if Nat.ble m cs.length then some (b = true, (cs.take m).map .d) else none
  | _ => none
theorem add_off (a : Addr) (ha : a.spot = none) (n : Nat) : a.add n = ⟨a.block, a.off + n, none⟩ := by
  cases a with
  | mk b o s => simp only at ha; subst ha; unfold Addr.add; split <;> simp_all
theorem cell_of {w : World} {cb : Nat} {C : Array Value} {e : TypeId} {f : Nat × Nat} (h : w.heap[cb]? = some (.cells C e f)) (o : Nat) : w.cell? ⟨cb, o, none⟩ = C[o]? := by
  simp [World.cell?, h]
theorem readAt_sound {w : World} {j : Js} {σ : List Blk} (hs : RelS w j σ) {m : Nat} {av : AV} {v : Value} (hr : R w j av v) {side : Prop} {l : List AV} (hl : readAt σ m av = some (side, l)) (hside : side) :
    l.length = m ∧ ∃ a : Addr, v = .pointer (some a) ∧ a.spot = none ∧ ∃ f : Nat → Value, ∀ k, k < m → w.cell? (a.add k) = some (f k) ∧ R w j (l.getD k .undef) (f k) := by
  cases hr with
  | @ptr b off cb h =>
    simp only [readAt] at hl
    split at hl
    · rename_i cs hb
      split at hl <;> simp at hl
      rename_i hm
      obtain ⟨hl1, hl2⟩ := hl
      subst hl2
      simp only [Nat.ble_eq] at hm
      obtain ⟨o, ho, hB⟩ := hs.blk b _ hb
      rw [h] at ho
      cases ho
      obtain ⟨C, e, hC, hsz, hrel⟩ := hB
      refine ⟨by simp; omega, _, rfl, rfl, fun k => C.getD (off + k) Go.undef, fun k hk => ⟨?_, ?_⟩⟩
      · rw [add_off _ rfl, cell_of hC]
        simp [Array.getD_eq_getD_getElem?, show off + k < C.size by omega]
      · have := hrel (off + k) (by omega)
        have e1 : ((cs.drop off).take m).getD k AV.undef = cs.getD (off + k) AV.undef := by
          simp [List.getD_eq_getElem?_getD, List.getElem?_take, hk]
        rw [e1]; exact this
    · simp at hl
  | @pe b sz i k cb h =>
    simp only [readAt] at hl
    split at hl
    · rename_i sz' n row hb
      split at hl <;> simp only [Option.some.injEq, Prod.mk.injEq, reduceCtorEq] at hl
      rename_i hm
      obtain ⟨rfl, rfl⟩ := hl
      simp only [Bool.and_eq_true, Nat.ble_eq] at hm
      have hsz' := Nat.eq_of_beq_eq_true hm.1
      subst hsz'
      obtain ⟨o, ho, hB⟩ := hs.blk b _ hb
      rw [h] at ho
      cases ho
      obtain ⟨C, e, ⟨f, hC, hf⟩, hcs, hrel⟩ := hB
      have hri := hrel i hside
      have hbound : i * sz + sz ≤ n * sz := by
        have : (i + 1) * sz ≤ n * sz := Nat.mul_le_mul_right _ hside
        rwa [Nat.succ_mul] at this
      refine ⟨by have := hri.1; simp; omega, _, rfl, rfl, fun q => C.getD (i * sz + (k + q)) Go.undef, fun q hq => ⟨?_, ?_⟩⟩
      · rw [add_off _ rfl, cell_of hC]
        simp [Array.getD_eq_getD_getElem?, show i * sz + (k + q) < C.size by omega, Nat.add_assoc]
      · have := hri.2 (k + q) (by omega)
        have hlen := hri.1
        have e1 : ((((row i).drop k).take m).map AV.d).getD q AV.undef = AV.d ((row i).getD (k + q) default) := by
          simp [List.getD_eq_getElem?_getD, List.getElem?_take, hq, show k + q < (row i).length by omega]
        rw [e1]; exact .d this
    · simp at hl
  | @el cs a val ha hlt hb hcell hrel =>
    simp only [readAt] at hl
    split at hl <;> simp only [Option.some.injEq, Prod.mk.injEq, reduceCtorEq] at hl
    rename_i hm
    obtain ⟨rfl, rfl⟩ := hl
    simp only [Nat.ble_eq] at hm
    refine ⟨by simp; omega, _, rfl, ha, val, fun k hk => ⟨?_, ?_⟩⟩
    · rw [add_off _ ha]; exact hcell k (by omega)
    · have := hrel k (by omega)
      have e1 : ((cs.take m).map AV.d).getD k AV.undef = AV.d (cs.getD k default) := by
        simp [List.getD_eq_getElem?_getD, List.getElem?_take, hk, show k < cs.length by omega]
      rw [e1]; exact .d this
  | @op bb cs v hh h0 =>
    simp only [readAt] at hl
    split at hl <;> simp only [Option.some.injEq, Prod.mk.injEq, reduceCtorEq] at hl
    rename_i hm
    obtain ⟨hsd, rfl⟩ := hl
    simp only [Nat.ble_eq] at hm
    cases hh (by rw [hsd]; exact hside) with
    | el a val ha hlt hb hcell hrel =>
    refine ⟨by simp; omega, _, rfl, ha, val, fun k hk => ⟨?_, ?_⟩⟩
    · rw [add_off _ ha]; exact hcell k (by omega)
    · have := hrel k (by omega)
      have e1 : ((cs.take m).map AV.d).getD k AV.undef = AV.d (cs.getD k default) := by
        simp [List.getD_eq_getElem?_getD, List.getElem?_take, hk, show k < cs.length by omega]
      rw [e1]; exact .d this
  | _ => simp [readAt] at hl
def loaded (agg : Bool) (l : List AV) : AV := if agg then .agg l else l.headD .undef
theorem loadVar_sound {P : Program} {w : World} {j : Js} {σ : List Blk} (hs : RelS w j σ) {t : TypeId} {agg : Bool} {m : Nat} (ht : tyA P t = some (agg, m)) (hm : agg = false → m = 1) {av : AV} {v : Value} (hr : R w j av v) {side : Prop} {l : List AV} (hl : readAt σ m av = some (side, l)) (hside : side) :
    ∃ a : Addr, v = .pointer (some a) ∧ ∃ u, (loadVar t a).run P w = .ok u w ∧ R w j (loaded agg l) u := by
  obtain ⟨hlen, a, rfl, ha, f, hf⟩ := readAt_sound hs hr hl hside
  refine ⟨a, rfl, ?_⟩
  cases agg with
  | true =>
    refine ⟨.agg (Array.ofFn fun k : Fin m => f k), ?_, ?_⟩
    · have h1 := run_loadCells (P := P) (w := w) a m f (fun j hj => (hf j hj).1)
      have h2 : (List.map f (List.range m)).toArray = Array.ofFn fun k : Fin m => f k := by
        apply Array.ext <;> simp
      simp [loadVar, tyA_isAgg ht, tyA_sizeOf ht, h1, h2]
    · refine .agg _ (by simp [hlen]) fun k hk => ?_
      have := (hf k (by omega)).2
      rw [hlen] at hk
      simpa [Array.getD_eq_getD_getElem?, hk] using this
  | false =>
    have h1 := hm rfl
    subst h1
    have h0 := hf 0 (by omega)
    refine ⟨f 0, ?_, ?_⟩
    · have : a.add 0 = a := rfl
      rw [this] at h0
      simp [loadVar, tyA_isAgg ht, h0.1]
    · have : loaded false l = l.getD 0 .undef := by cases l <;> simp [loaded]
      rw [this]; exact h0.2
/-! results -/
def resA (P : Program) (s : St) : ResultVar → Option (Prop × AV)
  | .tmp t => (get s.t t).map fun x => (True, x)
  | .cell a t => match get s.t a, tyA P t with
    | some p, some (agg, m) => if !agg && !Nat.beq m 1 then none else (readAt s.σ m p).map fun (side, l) => (side, loaded agg l)
    | _, _ => none
def resAs (P : Program) (s : St) : List ResultVar → (List AV → Prop) → Prop
  | [], K => K []
  | r :: rs, K => match resA P s r with
    | some (side, x) => side ∧ resAs P s rs fun xs => K (x :: xs)
    | none => False
def tupA : List AV → AV
  | [x] => x
  | xs => .tup xs
def resSem (tm : Array Value) : ResultVar → Sem Value
  | .tmp t => pure (tm.getD t Go.undef)
  | .cell p t => do loadVar t (← asAddr (tm.getD p Go.undef))
theorem results_eq (fn : Func) (tm : Array Value) : results fn tm = (do let vs ← fn.results.mapM (resSem tm); pure (if h : vs.size = 1 then vs[0] else .tuple vs)) := by
  have : (fun x : ResultVar => match x with | .tmp t => (pure (tm.getD t Go.undef) : Sem Value) | .cell a t => do loadVar t (← asAddr (tm.getD a Go.undef))) = resSem tm := by
    funext x; cases x <;> rfl
  unfold results
  rw [← this]
  rfl
theorem resA_sound {P : Program} {j0 : J0} {j : Js} {s : St} {a : Act} {w : World} (h : Rel j0 s j a w) {r : ResultVar} {side : Prop} {x : AV} (hx : resA P s r = some (side, x)) (hside : side) :
    ∃ v, (resSem a.tmps r).run P w = .ok v w ∧ R w j x v := by
  cases r with
  | tmp t =>
    simp only [resA, Option.map_eq_some_iff] at hx
    obtain ⟨y, hy, he⟩ := hx
    cases he
    exact ⟨_, rfl, (h.tmp t _ hy).2⟩
  | cell p t =>
    simp only [resA] at hx
    split at hx
    · rename_i q agg m hq ht
      split at hx
      · simp at hx
      · rename_i hne
        simp only [Option.map_eq_some_iff] at hx
        obtain ⟨⟨sd, l⟩, hl, he⟩ := hx
        simp only [Prod.mk.injEq] at he
        obtain ⟨rfl, rfl⟩ := he
        have hrel := (h.tmp p _ hq).2
        obtain ⟨ad, hv, u, hu, hru⟩ := loadVar_sound (P := P) h.sto ht (fun ha => by
          subst ha; simpa using hne) hrel hl hside
        refine ⟨u, ?_, hru⟩
        show (do loadVar t (← asAddr (a.tmps.getD p Go.undef)) : Sem Value).run P w = _
        rw [hv]
        simp [asAddr, hu]
    · simp at hx
theorem resAs_sound {P : Program} {j0 : J0} {j : Js} {s : St} {a : Act} {w : World} (h : Rel j0 s j a w) : ∀ {rs : List ResultVar} {K : List AV → Prop}, resAs P s rs K →
    ∃ xs vs, K xs ∧ xs.length = rs.length ∧ vs.length = xs.length ∧ (rs.mapM (resSem a.tmps)).run P w = .ok vs w ∧ ∀ k, k < xs.length → R w j (xs.getD k .undef) (vs.getD k Go.undef)
  | [], K, hk => ⟨[], [], hk, rfl, rfl, by simp, by simp⟩
  | r :: rs, K, hk => by
    simp only [resAs] at hk
    split at hk
    · rename_i side x hx
      obtain ⟨v, hv, hrv⟩ := resA_sound h hx hk.1
      obtain ⟨xs, vs, hK, h1, h2, h3, h4⟩ := resAs_sound h hk.2
      refine ⟨x :: xs, v :: vs, hK, by simp [h1], by simp [h2], ?_, ?_⟩
      · rw [List.mapM_cons]
        simp only [Sem.run_bind, hv, Result.andThen_ok, h3, Sem.run_pure]
      · intro k hk'
        cases k with
        | zero => simpa using hrv
        | succ k => simpa using h4 k (by simpa using hk')
    · exact hk.elim
theorem results_sound {P : Program} {fn : Func} {j0 : J0} {j : Js} {s : St} {a : Act} {w : World} (h : Rel j0 s j a w) {K : AV → Prop} (hk : resAs P s fn.results.toList fun xs => K (tupA xs)) :
    ∃ v x, (results fn a.tmps).run P w = .ok v w ∧ R w j x v ∧ K x := by
  obtain ⟨xs, vs, hK, h1, h2, h3, h4⟩ := resAs_sound h hk
  have hm : (fn.results.mapM (resSem a.tmps)).run P w = .ok vs.toArray w := by
    rw [← Array.toArray_toList (xs := fn.results), List.mapM_toArray]
    rw [Sem.run_map, h3]; rfl
  refine ⟨if h : vs.toArray.size = 1 then vs.toArray[0] else .tuple vs.toArray, tupA xs, ?_, ?_, hK⟩
  · rw [results_eq, Sem.run_bind, hm]
    rfl
  · match xs, vs, h2, h4 with
    | [], [], _, _ => exact .tup #[] (Nat.le_refl _) (by simp)
    | [x], [v], _, h4 => simpa [tupA] using h4 0 (by simp)
    | x :: y :: xs, v :: u :: vs, h2, h4 =>
      refine R.tup _ (by simp at h2 ⊢; omega) fun k hk => ?_
      have := h4 k hk
      simpa [Array.getD_eq_getD_getElem?, List.getD_eq_getElem?_getD] using this
def retPost (P : Program) (fn : Func) (Q : AV → List Blk → List Nat → Prop) : Exit → St → Prop
  | .normal, s => resAs P s fn.results.toList fun xs => Q (tupA xs) s.σ s.mv
  | .ret, s => resAs P s fn.results.toList fun xs => Q (tupA xs) s.σ s.mv
  | _, _ => False
theorem Rs.rel {P : Program} {w : World} {j : Js} {σ : List Blk} {args : List AV} {vs : Array Value} (hs : RelS w j σ) (h : Rs w j args vs) (N : Nat) (hN : args.length ≤ N) :
    Rel ⟨j, w.heap.size, none⟩ (St.init N args σ) j { tmps := vs ++ Array.replicate (N - vs.size) Go.undef, defers := [] } w where
  defers := .nil (Nat.le_refl _) _
  rdok := fun l h => by cases h
  size := by simp [St.init]; have := h.1; omega
  tmp k av hk := by
    simp only [St.init, get_initT] at hk
    split at hk <;> simp at hk
    subst hk
    rename_i hk
    simp only [Nat.zero_add] at hk
    refine ⟨by simp [St.init]; omega, ?_⟩
    have h1 := h.1
    have := h.2 k hk.2
    simpa [Array.getD_eq_getD_getElem?, List.getD_eq_getElem?_getD, Array.getElem?_append, show k < vs.size by omega] using this
  sto := hs
  len0 := Nat.le_refl _
  ag := .refl _ _
/-! the marks are taken where a function returns -/
theorem RD.congr {w w' : World} {j : Js} (hc : ∀ a, w'.cell? a = w.cell? a) (hs : w.heap.size ≤ w'.heap.size) {d : D} {v : Value} (h : RD w j d v) : RD w' j d v := by
  induction h with
  | v x => exact .v x
  | sl a c val hcap hle ha hlt hb hlen hcell hrel ih => exact .sl a c val hcap hle ha (Nat.lt_of_lt_of_le hlt hs) hb hlen (fun i hi k hk => (hc _).trans (hcell i hi k hk)) ih
  | zero p c hcap hp => exact .zero p c hcap hp
theorem R.congr {w w' : World} {j : Js} (hc : ∀ a, w'.cell? a = w.cell? a) (hs : w.heap.size ≤ w'.heap.size) (hsh : ∀ b, w'.shape? b = w.shape? b) {av : AV} {v : Value} (h : R w j av v) : R w' j av v := by
  induction h with
  | undef v => exact .undef v
  | iff h h0 ih => exact .iff ih h0
  | d h => exact .d (h.congr hc hs)
  | agg vs hsz h ih => exact .agg vs hsz ih
  | tup vs hsz h ih => exact .tup vs hsz ih
  | ptr h => exact .ptr h
  | pe h => exact .pe h
  | el a val h1 hlt hb hcell hrel => exact .el a val h1 (Nat.lt_of_lt_of_le hlt hs) hb (fun k hk => (hc _).trans (hcell k hk)) (fun k hk => (hrel k hk).congr hc hs)
  | ms c e m h h1 h2 h3 => exact .ms c e m h (by rw [hsh]; exact h1) h2 h3
  | op h h0 ih => exact .op ih h0
  | ms0 p h => exact .ms0 p h
  | msE p e m h h1 h2 h3 => exact .msE p e m h (by rw [hsh]; exact h1) h2 h3
  | mc h q hv ih => exact .mc ih q hv
  | mp h => exact .mp h
  | clo ff cc h1 h2 h3 h4 ih3 ih4 => exact .clo ff cc h1 h2 ih3 ih4
  | yld h => exact .yld h
theorem RB.congr {w w' : World} {j : Js} (hc : ∀ a, w'.cell? a = w.cell? a) (hs : w.heap.size ≤ w'.heap.size) (hsh : ∀ b, w'.shape? b = w.shape? b) {x : Blk} {o : Option Nat} (ho : ∀ cb, o = some cb → w'.heap[cb]? = w.heap[cb]?) (hm : ∀ (b : Nat) es cl, w.heap[b]? = some (.map es cl) → w'.heap[b]? = some (.map es cl)) (h : RB w j x o) : RB w' j x o := by
  cases x with
  | dead => trivial
  | loc c =>
    obtain ⟨h1, h2, h3, m, h4⟩ := h
    exact ⟨h1, Nat.lt_of_lt_of_le h2 hs, h3, m, (hc _).trans h4⟩
  | tab c vs =>
    obtain ⟨h1, h2, h3, e, h4, h5⟩ := h
    exact ⟨h1, Nat.lt_of_lt_of_le h2 hs, h3, e, (hsh _).trans h4, fun i => (hc _).trans (h5 i)⟩
  | var cs =>
    cases o with
    | none => exact h
    | some cb =>
      obtain ⟨C, e, h1, h2, h3⟩ := h
      exact ⟨C, e, by rw [ho cb rfl, h1], h2, fun k hk => (h3 k hk).congr hc hs hsh⟩
  | arr sz n row =>
    cases o with
    | none => exact h
    | some cb =>
      obtain ⟨C, e, h1, h2, h3⟩ := h
      exact ⟨C, e, h1.at (ho cb rfl), h2, fun i hi => ⟨(h3 i hi).1, fun k hk => ((h3 i hi).2 k hk).congr hc hs⟩⟩
  | lp L st pd =>
    cases o with
    | none => exact h
    | some cb =>
      obtain ⟨r, h1, h2, h3, h4⟩ := h
      exact ⟨r, by rw [ho cb rfl, h1], h2, h3, fun k av hk => ⟨(h4 k av hk).1, (h4 k av hk).2.congr hc hs hsh⟩⟩
  | mp d ks f =>
    cases o with
    | none => exact h
    | some cb =>
      obtain ⟨es, cl, h1, h2⟩ := h
      exact ⟨es, cl, by rw [ho cb rfl, h1], ⟨h2.stamped, h2.keys, h2.kind, h2.free, fun e he k hk => (h2.rel e he k hk).congr hc hs hsh⟩⟩
  | it left cur f =>
    cases o with
    | none => exact h
    | some cb =>
      obtain ⟨mb, es, cl, seen, h1, h2⟩ := h
      exact ⟨mb, es, cl, seen, by rw [ho cb rfl, h1], ⟨Nat.lt_of_lt_of_le h2.lt hs, h2.own, by rw [hm _ _ _ h2.heap], h2.stamped, h2.keys, h2.cur, h2.free, fun e he k hk => (h2.rel e he k hk).congr hc hs hsh⟩⟩
def Taken : List Deferred → World → World → Prop
  | [], w, w' => w' = w
  | d :: ds, w, w' => ∃ r, d.target = .collected r ∧ w.heap[r]? = some (.deferred (some [])) ∧ Taken ds (w.putObj r (.deferred none)) w'
theorem taken_leaves {F : Fence} {n : Nat} {P : Program} {fn : Func} {tmps : Array Value} {R : Ending → World → Prop} {w' : World} (h : ∃ v, (results fn tmps).run P w' = .ok v w' ∧ R (.returned v) w') : ∀ {ds : List Deferred} {w : World}, Taken ds w w' → LeavesInM F n P fn tmps R ds .returning w
  | [], w, ht => by
    simp only [Taken] at ht
    subst ht
    exact h
  | d :: ds, w, ht => by
    obtain ⟨r, h1, h2, h3⟩ := ht
    exact ⟨by simp, .inl ⟨r, _, h1, run_takeDeferred h2, taken_leaves h h3⟩⟩
theorem cell_take {w : World} {r : Nat} (h : w.heap[r]? = some (.deferred (some []))) (a : Addr) : (w.putObj r (.deferred none)).cell? a = w.cell? a := by
  by_cases hb : a.block = r
  · have h1 : (w.putObj r (.deferred none)).heap[a.block]? = some (.deferred none) := by rw [hb]; exact World.putObj_heap_same (Array.getElem?_eq_some_iff.1 h).1
    have h2 : w.heap[a.block]? = some (.deferred (some [])) := by rw [hb]; exact h
    simp [World.cell?, h1, h2]
  · simp [World.cell?, World.putObj_heap_other hb]
theorem shape_take {w : World} {r : Nat} (h : w.heap[r]? = some (.deferred (some []))) (b : Nat) : (w.putObj r (.deferred none)).shape? b = w.shape? b := by
  by_cases hb : b = r
  · subst hb
    simp [World.shape?, World.putObj_heap_same (Array.getElem?_eq_some_iff.1 h).1, h]
  · simp [World.shape?, World.putObj_heap_other hb]
theorem frozen_take {w : World} {r : Nat} (h : w.heap[r]? = some (.deferred (some []))) (a : Addr) : (w.putObj r (.deferred none)).frozen? a = w.frozen? a := by
  by_cases hb : a.block = r
  · have h1 : (w.putObj r (.deferred none)).heap[a.block]? = some (.deferred none) := by rw [hb]; exact World.putObj_heap_same (Array.getElem?_eq_some_iff.1 h).1
    have h2 : w.heap[a.block]? = some (.deferred (some [])) := by rw [hb]; exact h
    simp [World.frozen?, h1, h2]
  · simp [World.frozen?, World.putObj_heap_other hb]
theorem Marks.take {n0 : Nat} {σ : List Blk} : ∀ {ds : List Deferred} {w : World} {j : Js}, Marks n0 w j ds → RelS w j σ → ∃ w', Taken ds w w' ∧ RelS w' j σ ∧ (∀ {av v}, R w j av v → R w' j av v) ∧ ∀ {j1 w1}, w1.heap.size = n0 → Ev j1 w1 j w → Ev j1 w1 j w'
  | [], w, j, _, hs => ⟨w, rfl, hs, fun h => h, fun _ h => h⟩
  | d :: ds, w, j, hm, hs => by
    obtain ⟨⟨hn0, hp⟩, hd⟩ := hm
    obtain ⟨r, h1, h2, h3, h4⟩ := hd d (by simp)
    have hp' := List.pairwise_cons.1 hp
    have hother : ∀ b, b ≠ r → (w.putObj r (.deferred none)).heap[b]? = w.heap[b]? := fun b hb => World.putObj_heap_other hb
    have hm' : Marks n0 (w.putObj r (.deferred none)) j ds := ⟨⟨by simpa using hn0, hp'.2⟩, fun d' hd' => by
      obtain ⟨r', g1, g2, g3, g4⟩ := hd d' (by simp [hd'])
      have hne : r' ≠ r := fun he => hp'.1 d' hd' (by rw [h1, g1, he])
      exact ⟨r', g1, g2, g3, by rw [hother r' hne]; exact g4⟩⟩
    have hs' : RelS (w.putObj r (.deferred none)) j σ := ⟨hs.len, fun b cb hb => by have := hs.lt b cb hb; simpa using this, hs.inj, fun b x hx => by
      obtain ⟨o, ho, hB⟩ := hs.blk b x hx
      refine ⟨o, ho, hB.congr (cell_take h4) (by simp) (shape_take h4) (fun cb hcb => hother cb ?_) fun mb es cl hmb => by rw [hother mb (fun he => by subst he; rw [hmb] at h4; cases h4)]; exact hmb⟩
      intro he
      subst hcb
      exact h3 (by rw [← he]; exact List.mem_of_getElem? ho)⟩
    obtain ⟨w', ht, hs2, hr2, he2⟩ := Marks.take hm' hs'
    refine ⟨w', ⟨r, by rw [h1], h4, ht⟩, hs2, fun h => hr2 (h.congr (cell_take h4) (by simp) (shape_take h4)), fun {j1 w1} hn he => he2 hn ⟨?_, ?_, he.sub, ?_, ?_, he.os, he.tape, he.output, ?_⟩⟩
    · simpa using he.size
    · intro b hb hnj
      rw [hother b (by omega)]; exact he.keep b hb hnj
    · intro b hb
      rw [shape_take h4]; exact he.shp b hb
    · intro a ha
      rw [frozen_take h4]; exact he.frz a ha
    · intro b r' hb
      have hlt : b < w1.heap.size := (Array.getElem?_eq_some_iff.1 hb).1
      rw [hother b (by omega)]; exact he.lps b r' hb
theorem calls_of {P : Program} {f : FuncId} {fn : Func} {c : Code} {args : List AV} {σ : List Blk} {Q : Exit → St → Prop} {R' : Ending → World → Prop} (hf : P.funcs[f]? = some fn) (hb : fn.body = some c) (hN : args.length ≤ fn.ntmps)
    (h : AWP P c Q (St.init fn.ntmps args σ)) {j : Js} {w : World} {vs : Array Value} (hs : RelS w j σ) (hr : Rs w j args vs)
    (hQ : ∀ e s', Q e s' → (e = .normal ∨ e = .ret) ∧ ∀ j' a w', Rel ⟨j, w.heap.size, none⟩ s' j' a w' → Ev j w j' w' → ∃ v, (results fn a.tmps).run P w' = .ok v w' ∧ R' (.returned v) w') : Calls P f vs w R' := by
  refine (callsIn_wide (n := 0)).1 (callsIn_of_wp_marks (F := Fence.wide) hf hb trivial (wpIn_mono (h ⟨j, w.heap.size, none⟩ j _ w (Rs.rel (P := P) hs hr fn.ntmps hN)) ?_))
  rintro e a w' ⟨s', j', hrel, hev, hq⟩
  obtain ⟨he, hq⟩ := hQ e s' hq
  obtain ⟨w2, ht, hs2, hr2, he2⟩ := hrel.defers.take hrel.sto
  have hev2 := he2 rfl hev
  have hrel2 : Rel ⟨j, w.heap.size, none⟩ s' j' { a with defers := [] } w2 := ⟨.nil hev2.size _, (fun l h => by cases h), hrel.size, fun k av hk => ⟨(hrel.tmp k av hk).1, hr2 (hrel.tmp k av hk).2⟩, hs2, hrel.len0, hrel.ag⟩
  have := taken_leaves (F := Fence.wide) (n := 0) (hq j' _ w2 hrel2 hev2) ht
  rcases he with rfl | rfl
  · exact this
  · exact this
theorem CS.of_body {P : Program} {f : FuncId} {fn : Func} {c : Code} {args : List AV} {σ : List Blk} {Q : AV → List Blk → List Nat → Prop} (hen : entersB P f = true) (hf : P.funcs[f]? = some fn) (hb : fn.body = some c) (hN : args.length ≤ fn.ntmps)
    (h : AWP P c (retPost P fn Q) (St.init fn.ntmps args σ)) : CS P f args σ Q := by
  refine ⟨hen, fun j w vs hs hr => calls_of hf hb hN h hs hr fun e s' hq => ?_⟩
  have fin : (resAs P s' fn.results.toList fun xs => Q (tupA xs) s'.σ s'.mv) → ∀ j' a w', Rel ⟨j, w.heap.size, none⟩ s' j' a w' → Ev j w j' w' → ∃ v, (results fn a.tmps).run P w' = .ok v w' ∧ ∃ v' r σ' j' X, Ending.returned v = .returned v' ∧ RelS w' j' σ' ∧ R w' j' r v' ∧ Ev j w j' w' ∧ j.length ≤ j'.length ∧ Ag j j' X ∧ Q r σ' X := by
    intro hq j' a w' hrel hev
    obtain ⟨v, x, h1, h2, h3⟩ := results_sound hrel (K := fun x => Q x s'.σ s'.mv) hq
    exact ⟨v, h1, v, x, s'.σ, j', s'.mv, rfl, hrel.sto, h2, hev, hrel.len0, hrel.ag, h3⟩
  cases e with
  | normal => exact ⟨.inl rfl, fin hq⟩
  | ret => exact ⟨.inr rfl, fin hq⟩
  | exit id => exact hq.elim
  | goto l => exact hq.elim
  | panic c => exact hq.elim
  | outgrown => exact hq.elim
end Go.Abs

/-! Acq -/
namespace Go.Abs
set_option linter.unusedVariables false
set_option linter.unusedSimpArgs false
theorem arr_get {us : Array Value} {i : Nat} (h : i < us.size) : us[i]? = some us[i] ∧ us.getD i Go.undef = us[i] := by
  simp [Array.getD_eq_getD_getElem?, h]
section
variable {P : Program}
theorem part_sound {w : World} {j : Js} {t : TypeId} {agg : Bool} {m off : Nat} (ht : tyA P t = some (agg, m)) (hm : agg = false → m = 1) {cs : List AV} {us : Array Value} (hs : us.size = cs.length)
    (h : ∀ k, k < cs.length → R w j (cs.getD k .undef) (us.getD k Go.undef)) (hlt : off + m ≤ cs.length) : ∃ v, (part t us off).run P w = .ok v w ∧ R w j (loaded agg ((cs.drop off).take m)) v := by
  cases agg with
  | true =>
    refine ⟨.agg (us.extract off (off + m)), by simp [part, tyA_isAgg ht, tyA_sizeOf ht], .agg _ (by simp; omega) fun k hk => ?_⟩
    simp only [List.length_take, List.length_drop] at hk
    have := h (off + k) (by omega)
    have e1 : ((cs.drop off).take m).getD k AV.undef = cs.getD (off + k) AV.undef := by
      simp [List.getD_eq_getElem?_getD, List.getElem?_take, show k < m by omega]
    have e2 : (us.extract off (off + m)).getD k Go.undef = us.getD (off + k) Go.undef := by
      simp [Array.getD_eq_getD_getElem?, Array.getElem?_extract, show k < min (off + m) us.size - off by omega, show off + k < us.size by omega]
    rw [e1, e2]; exact this
  | false =>
    have h1 := hm rfl
    subst h1
    have := h off (by omega)
    obtain ⟨h4, h5⟩ := arr_get (us := us) (i := off) (by omega)
    rw [h5] at this
    refine ⟨us[off], by simp [part, tyA_isAgg ht, h4], ?_⟩
    have e1 : loaded false ((cs.drop off).take 1) = cs.getD off .undef := by
      have hlt : off < cs.length := by omega
      have h1 : (cs.drop off).take 1 = [cs[off]] := by rw [List.drop_eq_getElem_cons hlt]; rfl
      rw [loaded, if_neg (by simp), h1]
      simp [List.getD_eq_getElem?_getD, hlt]
    rw [e1]; exact this
inductive EqK where
  | i
  | b
  | s
def eqFs (P : Program) (rec : TypeId → Option (List EqK)) : List Field → Nat → Option (List EqK)
  | [], _ => some []
  | f :: fs, o => if f.name = "_" || !Nat.beq f.offset o then none else match rec f.type, tyA P f.type with
    | some ks, some (_, m) => if Nat.beq ks.length m then (eqFs P rec fs (o + m)).map (ks ++ ·) else none
    | _, _ => none
def eqT (P : Program) : Nat → TypeId → Option (List EqK)
  | 0, _ => none
  | d + 1, t => match P.underlying t, tyA P t with
    | some (.int _), some (false, 1) => some [.i]
    | some .bool, some (false, 1) => some [.b]
    | some .string, some (false, 1) => some [.s]
    | some (.struct fs), some (true, m) => if P.stoodInHeld t then none else match eqFs P (eqT P d) fs.toList 0 with
      | some ks => if Nat.beq ks.length m then some ks else none
      | none => none
    | _, _ => none
def eq1 (k : EqK) (x y : AV) : Option Bool :=
  match k, x, y with
  | .i, .d (.v (.int k a)), .d (.v (.int k' b)) => if k = k' then some (a == b) else none
  | .b, .d (.v (.bool a)), .d (.v (.bool b)) => some (a == b)
  | .s, .d (.v (.string a)), .d (.v (.string b)) => some (a.toList == b.toList)
  | _, _, _ => none
def eqB : List EqK → List AV → List AV → Option Bool
  | [], [], [] => some true
  | k :: ks, x :: xs, y :: ys => match eq1 k x y, eqB ks xs ys with
    | some a, some b => some (a && b)
    | _, _ => none
  | _, _, _ => none
theorem eqB_append : ∀ {ks ks' : List EqK} {xs ys : List AV} {r : Bool}, eqB (ks ++ ks') xs ys = some r →
    ∃ a b, eqB ks (xs.take ks.length) (ys.take ks.length) = some a ∧ eqB ks' (xs.drop ks.length) (ys.drop ks.length) = some b ∧ r = (a && b) ∧ ks.length ≤ xs.length ∧ ks.length ≤ ys.length
  | [], ks', xs, ys, r, h => ⟨true, r, by simp [eqB], by simpa using h, by simp, by simp, by simp⟩
  | k :: ks, ks', [], ys, r, h => by simp [eqB] at h
  | k :: ks, ks', x :: xs, [], r, h => by simp [eqB] at h
  | k :: ks, ks', x :: xs, y :: ys, r, h => by
    simp only [List.cons_append, eqB] at h
    split at h
    · rename_i a b h1 h2
      obtain ⟨a', b', h3, h4, h5, h6, h7⟩ := eqB_append h2
      refine ⟨a && a', b', by simp [eqB, h1, h3], by simpa using h4, ?_, by simpa using h6, by simpa using h7⟩
      simp only [Option.some.injEq] at h
      rw [← h, h5, Bool.and_assoc]
    · cases h
theorem eqB_length : ∀ {ks : List EqK} {xs ys : List AV} {r : Bool}, eqB ks xs ys = some r → xs.length = ks.length ∧ ys.length = ks.length
  | [], [], [], _, _ => ⟨rfl, rfl⟩
  | [], _ :: _, _, _, h => by simp [eqB] at h
  | [], [], _ :: _, _, h => by simp [eqB] at h
  | k :: ks, [], _, _, h => by simp [eqB] at h
  | k :: ks, _ :: _, [], _, h => by simp [eqB] at h
  | k :: ks, x :: xs, y :: ys, r, h => by
    simp only [eqB] at h
    split at h
    · rename_i a b h1 h2
      have := eqB_length h2
      simp [this.1, this.2]
    · cases h
theorem eqT_len {d : Nat} {t : TypeId} {ks : List EqK} (h : eqT P d t = some ks) : ∃ agg, tyA P t = some (agg, ks.length) ∧ (agg = false → ks.length = 1) := by
  cases d with
  | zero => simp [eqT] at h
  | succ d =>
    unfold eqT at h
    split at h
    · rename_i h2; cases h; exact ⟨false, h2, fun _ => rfl⟩
    · rename_i h2; cases h; exact ⟨false, h2, fun _ => rfl⟩
    · rename_i h2; cases h; exact ⟨false, h2, fun _ => rfl⟩
    · rename_i fs m h1 h2
      split at h
      · cases h
      · split at h
        · rename_i ks' h3
          split at h
          · rename_i h4
            cases h
            have : ks.length = m := by simpa using h4
            exact ⟨true, by rw [this]; exact h2, fun h => by cases h⟩
          · cases h
        · cases h
    · cases h
theorem R_one {w : World} {j : Js} {x : Value} {v : Value} (h : R w j (.d (.v x)) v) : v = x := by
  cases h with | d h => cases h; rfl
theorem eq1_i {k : EqK} {x y : AV} {r : Bool} (h : eq1 k x y = some r) :
    (k = .i ∧ ∃ kk a b, x = .d (.v (.int kk a)) ∧ y = .d (.v (.int kk b)) ∧ r = (a == b)) ∨ (k = .b ∧ ∃ a b, x = .d (.v (.bool a)) ∧ y = .d (.v (.bool b)) ∧ r = (a == b)) ∨ (k = .s ∧ ∃ a b, x = .d (.v (.string a)) ∧ y = .d (.v (.string b)) ∧ r = (a.toList == b.toList)) := by
  unfold eq1 at h
  split at h
  · split at h
    · rename_i hk; cases h; subst hk; exact .inl ⟨rfl, _, _, _, rfl, rfl, rfl⟩
    · cases h
  · cases h; exact .inr (.inl ⟨rfl, _, _, rfl, rfl, rfl⟩)
  · cases h; exact .inr (.inr ⟨rfl, _, _, rfl, rfl, rfl⟩)
  · cases h
theorem eqB_one {k : EqK} {xs ys : List AV} {r : Bool} (h : eqB [k] xs ys = some r) : ∃ x y, xs = [x] ∧ ys = [y] ∧ eq1 k x y = some r := by
  match xs, ys with
  | [], _ => simp [eqB] at h
  | x :: xs, [] => simp [eqB] at h
  | x :: xs, y :: ys =>
    have hl := eqB_length h
    simp at hl
    obtain ⟨rfl, rfl⟩ := hl
    refine ⟨x, y, rfl, rfl, ?_⟩
    simp only [eqB] at h
    split at h
    · rename_i a b h1 h2
      simp only [Option.some.injEq] at h2 h
      subst h2
      rw [h1, ← h]; simp
    · cases h
theorem eqT_sound {w : World} {j : Js} : ∀ (d : Nat) {t : TypeId} {ks : List EqK}, eqT P d t = some ks → ∀ {agg : Bool}, tyA P t = some (agg, ks.length) → ∀ {xs ys : List AV} {u v : Value} {r : Bool}, eqB ks xs ys = some r → R w j (loaded agg xs) u → R w j (loaded agg ys) v →
    ∀ n, d ≤ n → (Op.equalIn n t u v).run P w = .ok r w
  | 0, t, ks, h, agg, ht, xs, ys, u, v, r, hr, hu, hv, n, hn => by simp [eqT] at h
  | d + 1, t, ks, h, agg, ht, xs, ys, u, v, r, hr, hu, hv, n, hn => by
    obtain ⟨n, rfl⟩ : ∃ n', n = n' + 1 := ⟨n - 1, by omega⟩
    unfold eqT at h
    split at h
    · rename_i hun h2
      cases h
      rw [h2] at ht; cases ht
      obtain ⟨x, y, rfl, rfl, h1⟩ := eqB_one hr
      rcases eq1_i h1 with ⟨_, kk, a, b, rfl, rfl, rfl⟩ | ⟨h, _⟩ | ⟨h, _⟩
      · obtain rfl := R_one (show R w j (.d (.v (.int kk a))) u from hu)
        obtain rfl := R_one (show R w j (.d (.v (.int kk b))) v from hv)
        exact run_equalIn_int w n t kk _ a b hun
      · cases h
      · cases h
    · rename_i hun h2
      cases h
      rw [h2] at ht; cases ht
      obtain ⟨x, y, rfl, rfl, h1⟩ := eqB_one hr
      rcases eq1_i h1 with ⟨h, _⟩ | ⟨_, a, b, rfl, rfl, rfl⟩ | ⟨h, _⟩
      · cases h
      · obtain rfl := R_one (show R w j (.d (.v (.bool a))) u from hu)
        obtain rfl := R_one (show R w j (.d (.v (.bool b))) v from hv)
        exact run_equalIn_bool' w n t a b hun
      · cases h
    · rename_i hun h2
      cases h
      rw [h2] at ht; cases ht
      obtain ⟨x, y, rfl, rfl, h1⟩ := eqB_one hr
      rcases eq1_i h1 with ⟨h, _⟩ | ⟨h, _⟩ | ⟨_, a, b, rfl, rfl, rfl⟩
      · cases h
      · cases h
      · obtain rfl := R_one (show R w j (.d (.v (.string a))) u from hu)
        obtain rfl := R_one (show R w j (.d (.v (.string b))) v from hv)
        exact run_equalIn_string w n t a b hun
    · rename_i fs m hun h2
      rw [h2] at ht; cases ht
      split at h
      · cases h
      · rename_i hst
        split at h
        · rename_i ks' hfs
          split at h
          · cases h
            cases hu with
            | agg us hus hur =>
            cases hv with
            | agg vs hvs hvr =>
            have hfo : P.fieldsOf t = fs := by simp [Program.fieldsOf, hun]
            rw [run_equalIn_struct w n t us vs (by rw [hfo]; exact hun) (by simpa using hst), hfo]
            have gen : ∀ (fl : List Field) (o : Nat) (ks : List EqK) (r : Bool), eqFs P (eqT P d) fl o = some ks → o ≤ xs.length → o ≤ ys.length → eqB ks (xs.drop o) (ys.drop o) = some r → (Op.eqFields n us vs fl).run P w = .ok r w := by
              intro fl
              induction fl with
              | nil =>
                intro o ks r h1 ho1 ho2 h2
                simp only [eqFs, Option.some.injEq] at h1
                subst h1
                have hl := eqB_length h2
                have e1 : xs.drop o = [] := List.length_eq_zero_iff.1 hl.1
                have e2 : ys.drop o = [] := List.length_eq_zero_iff.1 hl.2
                rw [e1, e2] at h2
                simp only [eqB, Option.some.injEq] at h2
                subst h2
                simp [Op.eqFields]
              | cons f fl ih =>
                intro o ks r h1 ho1 ho2 h2
                simp only [eqFs] at h1
                split at h1
                · cases h1
                · rename_i hnm
                  simp only [Bool.or_eq_true, decide_eq_true_eq, Bool.not_eq_true', not_or, Bool.not_eq_false] at hnm
                  have hoff : f.offset = o := by simpa using hnm.2
                  split at h1
                  · rename_i kf agf mf e1 e2
                    split at h1
                    · rename_i e3
                      have e3 : kf.length = mf := by simpa using e3
                      simp only [Option.map_eq_some_iff] at h1
                      obtain ⟨kr, e4, rfl⟩ := h1
                      obtain ⟨a, b, g1, g2, g3, g4, g5⟩ := eqB_append h2
                      obtain ⟨agg', e5, e6⟩ := eqT_len e1
                      rw [e2] at e5; cases e5
                      simp only [List.length_drop] at g4 g5
                      obtain ⟨pu, hpu, hru⟩ := part_sound (P := P) (w := w) (j := j) (off := f.offset) e2 (by rw [← e3]; exact e6) hus hur (by omega)
                      obtain ⟨pv, hpv, hrv⟩ := part_sound (P := P) (w := w) (j := j) (off := f.offset) e2 (by rw [← e3]; exact e6) hvs hvr (by omega)
                      rw [hoff] at hpu hpv hru hrv
                      rw [e3] at g1
                      have hq := eqT_sound d e1 (by rw [e3]; exact e2) g1 hru hrv n (by omega)
                      simp only [Op.eqFields, ne_eq, hnm.1, not_false_eq_true, if_true, Sem.run_bind, hoff, hpu, hpv, hq, Result.andThen_ok]
                      cases a with
                      | false => simp only [Bool.not_false, if_true, Sem.run_pure]; rw [g3]; rfl
                      | true =>
                        simp only [Bool.not_true, Bool.false_eq_true, if_false]
                        rw [g3, Bool.true_and]
                        refine ih (o + kf.length) kr b e4 (by omega) (by omega) ?_
                        rw [List.drop_drop, List.drop_drop] at g2
                        exact g2
                    · cases h1
                  · cases h1
            exact gen fs.toList 0 ks r hfs (by simp) (by simp) (by simpa using hr)
          · cases h
        · cases h
    · cases h
def eqA (P : Program) (t : TypeId) : Option (List EqK) := if P.eqGuardType P.depth t then none else match tyA P t with
  | some (true, _) => eqT P 30 t
  | _ => none
theorem eqA_spec {t : TypeId} {ks : List EqK} (h : eqA P t = some ks) : P.eqGuardType P.depth t = false ∧ eqT P 30 t = some ks ∧ tyA P t = some (true, ks.length) := by
  unfold eqA at h
  split at h
  · cases h
  · rename_i h1
    split at h
    · rename_i m h2
      obtain ⟨agg, h3, _⟩ := eqT_len h
      rw [h2] at h3
      simp only [Option.some.injEq, Prod.mk.injEq] at h3
      exact ⟨by cases hb : P.eqGuardType P.depth t <;> simp_all, h, by rw [h2, h3.2]⟩
    · cases h
end
end Go.Abs

/-! Ad -/
namespace Go.Abs
set_option linter.unusedVariables false
set_option linter.unusedSimpArgs false
theorem R_v {w : World} {j : Js} {x v : Value} (h : R w j (.d (.v x)) v) : v = x := by
  cases h with | d h => cases h; rfl
def Arg (g : Bool) (s : St) (x : Operand) (av : AV) : Prop := g = true → ∀ j0 j a w, Rel j0 s j a w → R w j av (a.eval x)
def arg (g : Bool) (s : St) (x : Operand) (K : AV → Prop) : Prop :=
  match val s x with
  | some (.iff b y) => (g = true → b = true) ∧ K y
  | some y => K y
  | none => False
theorem arg_sound {g : Bool} {s : St} {x : Operand} {K : AV → Prop} (h : arg g s x K) : ∃ av, K av ∧ Arg g s x av := by
  unfold arg at h
  split at h
  · rename_i b y hv
    refine ⟨y, h.2, fun hg j0 j a w hr => ?_⟩
    have := val_rel hr hv
    generalize a.eval x = u at this
    cases this with | iff hh _ => exact hh (h.1 hg)
  · rename_i y hv
    exact ⟨_, h, fun hg j0 j a w hr => val_rel hr hv⟩
  · exact h.elim
def args (g : Bool) (s : St) : List Operand → (List AV → Prop) → Prop
  | [], K => K []
  | x :: xs, K => arg g s x fun a => args g s xs fun as => K (a :: as)
theorem args_sound {g : Bool} {s : St} : ∀ {xs : List Operand} {K : List AV → Prop}, args g s xs K → ∃ avs, K avs ∧ avs.length = xs.length ∧ ∀ k, k < xs.length → Arg g s (xs.getD k (.const Go.undef)) (avs.getD k .undef)
  | [], K, h => ⟨[], h, rfl, by simp⟩
  | x :: xs, K, h => by
    obtain ⟨av, h1, h2⟩ := arg_sound h
    obtain ⟨avs, h3, h4, h5⟩ := args_sound h1
    refine ⟨av :: avs, h3, by simp [h4], fun k hk => ?_⟩
    cases k with
    | zero => simpa using h2
    | succ k => simpa using h5 k (by simpa using hk)
def Yld (P : Program) (g : Bool) (s : St) (op : Op) (av : AV) : Prop :=
  g = true → ∀ j0 j a w (o : Oper), o.op = op → Rel j0 s j a w → ∃ v, (execOp a.eval o).run P w = .ok (.value v) w ∧ R w j av v
/-! integers, bools, strings -/
def shlI (k : IntKind) (x y : Int) : Int := k.wrap (x * 2 ^ (min y.toNat k.bits))
def shrI (k : IntKind) (x y : Int) : Int := x.fdiv (2 ^ (min y.toNat k.bits))
def andI (k : IntKind) (a b : Int) : Int := k.wrap (BitVec.ofInt k.bits a &&& BitVec.ofInt k.bits b).toNat
def orI (k : IntKind) (a b : Int) : Int := k.wrap (BitVec.ofInt k.bits a ||| BitVec.ofInt k.bits b).toNat
def xorI (k : IntKind) (a b : Int) : Int := k.wrap (BitVec.ofInt k.bits a ^^^ BitVec.ofInt k.bits b).toNat
def andNotI (k : IntKind) (a b : Int) : Int := k.wrap (BitVec.ofInt k.bits a &&& ~~~ BitVec.ofInt k.bits b).toNat
def comI (k : IntKind) (n : Int) : Int := xorI k (if k.signed then -1 else k.max) n
def intBin (g : Bool) (op : BinOp) (k : IntKind) (a b : Int) (K : AV → Prop) : Prop :=
  match op with
  | .add => K (.d (.v (.int k (k.wrap (a + b)))))
  | .sub => K (.d (.v (.int k (k.wrap (a - b)))))
  | .mul => K (.d (.v (.int k (k.wrap (a * b)))))
  | .quo => (g = true → b ≠ 0) ∧ K (.d (.v (.int k (k.wrap (a.tdiv b)))))
  | .rem => (g = true → b ≠ 0) ∧ K (.d (.v (.int k (a.tmod b))))
  | .eql => K (.d (.v (.bool (a == b))))
  | .neq => K (.d (.v (.bool (a != b))))
  | .lss => K (.d (.v (.bool (decide (a < b)))))
  | .leq => K (.d (.v (.bool (decide (a ≤ b)))))
  | .gtr => K (.d (.v (.bool (decide (b < a)))))
  | .geq => K (.d (.v (.bool (decide (b ≤ a)))))
  | .and => K (.d (.v (.int k (andI k a b))))
  | .or => K (.d (.v (.int k (orI k a b))))
  | .xor => K (.d (.v (.int k (xorI k a b))))
  | .andNot => K (.d (.v (.int k (andNotI k a b))))
  | _ => False
def strBin (g : Bool) (op : BinOp) (x y : ByteArray) (K : AV → Prop) : Prop :=
  match op with
  | .add => (g = true → ((x.size + y.size : Nat) : Int) ≤ 9223372036854775807) ∧ K (.d (.v (.string (x ++ y))))
  | .eql => K (.d (.v (.bool (x.toList == y.toList))))
  | .neq => K (.d (.v (.bool !(x.toList == y.toList))))
  | .lss => K (.d (.v (.bool (Op.bytesLess x.toList y.toList))))
  | .leq => K (.d (.v (.bool (Op.bytesLess x.toList y.toList || x.toList == y.toList))))
  | .gtr => K (.d (.v (.bool !(Op.bytesLess x.toList y.toList || x.toList == y.toList))))
  | .geq => K (.d (.v (.bool !Op.bytesLess x.toList y.toList)))
  | _ => False
def shiftBin (g : Bool) (op : BinOp) (k : IntKind) (x y : Int) (K : AV → Prop) : Prop :=
  match op with
  | .shl => (g = true → 0 ≤ y) ∧ K (.d (.v (.int k (shlI k x y))))
  | .shr => (g = true → 0 ≤ y) ∧ K (.d (.v (.int k (shrI k x y))))
  | _ => False
def isShift : BinOp → Bool
  | .shl => true
  | .shr => true
  | _ => false
def boolT (P : Program) (t : TypeId) : Bool := match P.underlying t with | some .bool => true | _ => false
def ptrNil : AV → Option Bool
  | .op b _ => some (!b)
  | .el _ => some false
  | .ptr _ _ => some false
  | .pe _ _ _ _ => some false
  | .d (.v (.pointer none)) => some true
  | _ => none
def ptrT (P : Program) (t : TypeId) : Bool := match P.underlying t with | some (.pointer _) => true | _ => false
theorem ptrNil_spec {w : World} {j : Js} {x : AV} {v : Value} {r : Bool} (h : ptrNil x = some r) (hr : R w j x v) : ∃ p, v = .pointer p ∧ p.isNone = r := by
  unfold ptrNil at h
  split at h <;> simp only [Option.some.injEq, reduceCtorEq] at h <;> subst h
  · rename_i b cs
    cases hr with
    | op hh h0 =>
      cases b with
      | true => cases hh rfl with | el a => exact ⟨_, rfl, rfl⟩
      | false => exact ⟨_, h0 rfl, rfl⟩
  · cases hr with | el a => exact ⟨_, rfl, rfl⟩
  · cases hr with | ptr h => exact ⟨_, rfl, rfl⟩
  · cases hr with | pe h => exact ⟨_, rfl, rfl⟩
  · exact ⟨none, R_v hr, rfl⟩
def bin (P : Program) (g : Bool) (op : BinOp) (t : TypeId) (x y : AV) (K : AV → Prop) : Prop :=
  match x, y with
  | .d (.v (.int k a)), .d (.v (.int k' b)) => if isShift op then shiftBin g op k a b K else k = k' ∧ intBin g op k a b K
  | .d (.v (.bool a)), .d (.v (.bool b)) => boolT P t = true ∧ (match op with
    | .eql => K (.d (.v (.bool (a == b))))
    | .neq => K (.d (.v (.bool !(a == b))))
    | _ => False)
  | .d (.v (.string a)), .d (.v (.string b)) => strBin g op a b K
  | .agg xs, .agg ys => (match eqA P t with
    | some ks => (match eqB ks xs ys with
      | some r => (match op with
        | .eql => K (.d (.v (.bool r)))
        | .neq => K (.d (.v (.bool !r)))
        | _ => False)
      | none => False)
    | none => False)
  | x, .d (.v (.pointer none)) => ptrT P t = true ∧ (match ptrNil x with
    | some r => (match op with
      | .eql => K (.d (.v (.bool r)))
      | .neq => K (.d (.v (.bool !r)))
      | _ => False)
    | none => False)
  | _, _ => False
theorem run_eqGuard {P : Program} {w : World} {op : BinOp} {t : TypeId} {x y : Operand} {a b : Value} (ha : ∀ cs, a ≠ .agg cs) (hn : a ≠ .nilIface) : (eqGuard op t x y a b).run P w = .ok () w := by
  unfold eqGuard
  cases a <;> first | exact absurd rfl hn | exact absurd rfl (ha _) | (split <;> rfl)
theorem run_equal_bool {P : Program} {w : World} {t : TypeId} (hu : P.underlying t = some .bool) (a b : Bool) : (Op.equal t (.bool a) (.bool b)).run P w = .ok (a == b) w := by
  show (Op.equalIn (9999 + 1) t _ _).run P w = _
  rw [Op.equalIn]; simp [underlying, hu]
theorem bin_sound {P : Program} {g : Bool} {op : BinOp} {t ty : TypeId} {a b : AV} {K : AV → Prop} (h : bin P g op t a b K) {s : St} {x y : Operand} (hx : Arg g s x a) (hy : Arg g s y b) :
    ∃ av, K av ∧ Yld P g s (.binOp op t x y ty) av := by
  unfold bin at h
  split at h
  · -- integers
    rename_i k m k' n
    have base : ∀ (r : Value), (g = true → ∀ w, (binOp op t (.int k m) (.int k' n)).run P w = .ok r w) → Yld P g s (.binOp op t x y ty) (.d (.v r)) := by
      intro r hr hg j0 j a w o ho hrel
      have h1 := R_v (hx hg j0 j a w hrel)
      have h2 := R_v (hy hg j0 j a w hrel)
      refine ⟨r, ?_, .d (.v r)⟩
      simp only [execOp, ho, h1, h2]
      simp [run_eqGuard, hr hg]
    split at h
    · rename_i hsh
      unfold shiftBin at h
      split at h
      · refine ⟨_, h.2, base _ fun hg w => ?_⟩
        have := h.1 hg
        simp [binOp, Op.shift, show ¬ n < 0 by omega, shlI, shrI]
      · refine ⟨_, h.2, base _ fun hg w => ?_⟩
        have := h.1 hg
        simp [binOp, Op.shift, show ¬ n < 0 by omega, shlI, shrI]
      · exact h.elim
    · rename_i hsh
      obtain ⟨rfl, h⟩ := h
      unfold intBin at h
      split at h <;> first
        | exact h.elim
        | exact ⟨_, h, base _ fun hg w => by simp [binOp, Op.intArith, Op.intCmp, Op.intBits, andI, orI, xorI, andNotI]⟩
        | exact ⟨_, h.2, base _ fun hg w => by have := h.1 hg; simp [binOp, Op.intDiv, this]⟩
  · rename_i m n
    obtain ⟨hb, h⟩ := h
    have hu : P.underlying t = some .bool := by
      unfold boolT at hb
      split at hb <;> simp_all
    have base : ∀ (r : Value), (g = true → ∀ w, (binOp op t (.bool m) (.bool n)).run P w = .ok r w) → Yld P g s (.binOp op t x y ty) (.d (.v r)) := by
      intro r hr hg j0 j a w o ho hrel
      have h1 := R_v (hx hg j0 j a w hrel)
      have h2 := R_v (hy hg j0 j a w hrel)
      refine ⟨r, ?_, .d (.v r)⟩
      simp only [execOp, ho, h1, h2]
      simp [run_eqGuard, hr hg]
    split at h
    · exact ⟨_, h, base _ fun hg w => by
        show (do pure (Value.bool (← Op.equal t (.bool m) (.bool n))) : Sem Value).run P w = _
        simp [run_equal_bool hu]⟩
    · exact ⟨_, h, base _ fun hg w => by
        show (do pure (Value.bool (!(← Op.equal t (.bool m) (.bool n)))) : Sem Value).run P w = _
        simp [run_equal_bool hu]⟩
    · exact h.elim
  · rename_i m n
    have base : ∀ (r : Value), (g = true → ∀ w, (binOp op t (.string m) (.string n)).run P w = .ok r w) → Yld P g s (.binOp op t x y ty) (.d (.v r)) := by
      intro r hr hg j0 j a w o ho hrel
      have h1 := R_v (hx hg j0 j a w hrel)
      have h2 := R_v (hy hg j0 j a w hrel)
      refine ⟨r, ?_, .d (.v r)⟩
      simp only [execOp, ho, h1, h2]
      simp [run_eqGuard, hr hg]
    unfold strBin at h
    split at h <;> first
      | exact h.elim
      | exact ⟨_, h, base _ fun hg w => by simp [binOp, Op.stringOp]⟩
      | exact ⟨_, h.2, base _ fun hg w => by
          have := h.1 hg
          simp only [binOp, Op.stringOp]
          rw [if_neg (by simp only [IntKind.max, IntKind.signed, IntKind.bits]; omega)]; rfl⟩
  · rename_i xs ys
    split at h
    · rename_i ks hks
      split at h
      · rename_i r hr
        have hks' := eqA_spec hks
        have base : ∀ (r' : Bool) (hop : ∀ (us vs : Array Value) (w : World), (Op.equalIn 10000 t (.agg us) (.agg vs)).run P w = .ok r w → (binOp op t (.agg us) (.agg vs)).run P w = .ok (.bool r') w), Yld P g s (.binOp op t x y ty) (.d (.v (.bool r'))) := by
          intro r' hop hg j0 j a w o ho hrel
          have h1 := hx hg j0 j a w hrel
          have h2 := hy hg j0 j a w hrel
          generalize hu : a.eval x = u at h1
          generalize hv : a.eval y = v at h2
          cases h1 with
          | agg us hus hur =>
          cases h2 with
          | agg vs hvs hvr =>
          have hq := eqT_sound 30 hks'.2.1 hks'.2.2 hr (u := .agg us) (v := .agg vs) (.agg us hus hur) (.agg vs hvs hvr) 10000 (by omega)
          refine ⟨_, ?_, .d (.v _)⟩
          simp only [execOp, ho, hu, hv]
          simp [run_eqGuard_agg w op t x y us vs hks'.1, hop us vs w hq]
        split at h
        · exact ⟨_, h, base r fun us vs w hq => by rw [run_eql_struct, hq]; rfl⟩
        · exact ⟨_, h, base (!r) fun us vs w hq => by rw [run_neq_struct, hq]; rfl⟩
        · exact h.elim
      · exact h.elim
    · exact h.elim
  · obtain ⟨hp, h⟩ := h
    have hu : ∃ e, P.underlying t = some (.pointer e) := by
      unfold ptrT at hp
      split at hp
      · exact ⟨_, by assumption⟩
      · simp at hp
    obtain ⟨e, hu⟩ := hu
    have eqrun : ∀ (w : World) (p : Option Addr), (Op.equal t (.pointer p) (.pointer none)).run P w = .ok p.isNone w := by
      intro w p
      show (Op.equalIn (9999 + 1) t _ _).run P w = _
      rw [Op.equalIn]
      cases p <;> simp [underlying, hu]
    split at h
    · rename_i r hn
      have base : ∀ (r' : Bool) (hop : ∀ (p : Option Addr) (w : World), p.isNone = r → (binOp op t (.pointer p) (.pointer none)).run P w = .ok (.bool r') w), Yld P g s (.binOp op t x y ty) (.d (.v (.bool r'))) := by
        intro r' hop hg j0 j a w o ho hrel
        have h2 := R_v (hy hg j0 j a w hrel)
        obtain ⟨p, h1, h3⟩ := ptrNil_spec hn (hx hg j0 j a w hrel)
        refine ⟨_, ?_, .d (.v _)⟩
        simp only [execOp, ho, h1, h2]
        simp [run_eqGuard, hop p w h3]
      split at h
      · exact ⟨_, h, base r fun p w hpn => by
          show (do pure (Value.bool (← Op.equal t (.pointer p) (.pointer none))) : Sem Value).run P w = _
          simp [eqrun, hpn]⟩
      · exact ⟨_, h, base (!r) fun p w hpn => by
          show (do pure (Value.bool (!(← Op.equal t (.pointer p) (.pointer none)))) : Sem Value).run P w = _
          simp [eqrun, hpn]⟩
      · exact h.elim
    · exact h.elim
  · exact h.elim
def un (op : UnOp) (x : AV) (K : AV → Prop) : Prop :=
  match op, x with
  | .not, .d (.v (.bool b)) => K (.d (.v (.bool !b)))
  | .neg, .d (.v (.int k n)) => K (.d (.v (.int k (k.wrap (0 - n)))))
  | .xor, .d (.v (.int k n)) => K (.d (.v (.int k (comI k n))))
  | _, _ => False
theorem un_sound {P : Program} {g : Bool} {op : UnOp} {t : TypeId} {a : AV} {K : AV → Prop} (h : un op a K) {s : St} {x : Operand} (hx : Arg g s x a) :
    ∃ av, K av ∧ Yld P g s (.unOp op t x) av := by
  unfold un at h
  split at h
  · refine ⟨_, h, fun hg j0 j a w o ho hrel => ⟨_, ?_, .d (.v _)⟩⟩
    have h1 := R_v (hx hg j0 j a w hrel)
    simp [execOp, ho, h1, Op.unary]
  · refine ⟨_, h, fun hg j0 j a w o ho hrel => ⟨_, ?_, .d (.v _)⟩⟩
    have h1 := R_v (hx hg j0 j a w hrel)
    simp [execOp, ho, h1, Op.unary, Op.intArith]
  · refine ⟨_, h, fun hg j0 j a w o ho hrel => ⟨_, ?_, .d (.v _)⟩⟩
    have h1 := R_v (hx hg j0 j a w hrel)
    simp [execOp, ho, h1, Op.unary, Op.intBits, comI, xorI]
  · exact h.elim
/-! addresses -/
def fieldA (P : Program) (t : TypeId) (f : Nat) : Option Nat :=
  match P.underlying t with
  | some (.struct fs) => match fs[f]? with
    | some fd => match P.info? fd.type with
      | some i => if Nat.beq i.size 0 then none else some fd.offset
      | none => none
    | none => none
  | _ => none
def fieldAddrA (o : Nat) (x : AV) (K : AV → Prop) : Prop :=
  match x with
  | .ptr b off => K (.ptr b (off + o))
  | .pe b sz i k => K (.pe b sz i (k + o))
  | .el cs => K (.el (cs.drop o))
  | .op b cs => b = true ∧ K (.el (cs.drop o))
  | _ => False
theorem fieldAt_run {P : Program} {t : TypeId} {f o : Nat} (hf : fieldA P t f = some o) (a : Addr) (w : World) : (Instr.fieldAt t (.pointer (some a)) f).run P w = .ok (.pointer (some (a.add o))) w := by
  unfold fieldA at hf
  split at hf
  · rename_i fs hu
    split at hf
    · rename_i fd hfd
      split at hf
      · rename_i i hi
        split at hf <;> simp at hf
        rename_i hz
        subst hf
        have hz' : i.size ≠ 0 := fun e => hz (by rw [e]; rfl)
        simp [Instr.fieldAt, underlying, hu, hfd, Instr.sureAddr, fieldPlace, Go.sizeOf, typeInfo, hi, hz']
      · simp at hf
    · simp at hf
  · simp at hf
theorem fieldAddr_sound {P : Program} {g : Bool} {t : TypeId} {f o : Nat} (hf : fieldA P t f = some o) {a : AV} {K : AV → Prop} (h : fieldAddrA o a K) {s : St} {x : Operand} (hx : Arg g s x a) :
    ∃ av, K av ∧ Yld P g s (.fieldAddr t x f) av := by
  have base : ∀ {av : AV}, (∀ j w u, R w j a u → ∃ ad, u = .pointer (some ad) ∧ R w j av (.pointer (some (ad.add o)))) → Yld P g s (.fieldAddr t x f) av := by
    intro av hh hg j0 j a w op ho hrel
    obtain ⟨ad, h1, h2⟩ := hh j w _ (hx hg j0 j a w hrel)
    refine ⟨_, ?_, h2⟩
    simp only [execOp, ho, h1]
    simp [fieldAt_run hf]
  unfold fieldAddrA at h
  split at h
  · refine ⟨_, h, base fun j w u hr => ?_⟩
    cases hr with
    | ptr hb => exact ⟨_, rfl, by rw [add_off _ rfl]; exact .ptr hb⟩
  · refine ⟨_, h, base fun j w u hr => ?_⟩
    cases hr with
    | pe hb => exact ⟨_, rfl, by rw [add_off _ rfl]; simp only [Nat.add_assoc]; exact .pe hb⟩
  · rename_i cs
    refine ⟨_, h, base fun j w u hr => ?_⟩
    cases hr with
    | el ad val ha hlt hb hcell hrel =>
      refine ⟨_, rfl, ?_⟩
      rw [add_off _ ha]
      refine .el _ (fun k => val (o + k)) rfl hlt hb (fun k hk => ?_) (fun k hk => ?_)
      · simp only [List.length_drop] at hk
        have := hcell (o + k) (by omega)
        rw [← Nat.add_assoc] at this; exact this
      · simp only [List.length_drop] at hk
        have := hrel (o + k) (by omega)
        have e1 : (cs.drop o).getD k default = cs.getD (o + k) default := by simp [List.getD_eq_getElem?_getD]
        rw [e1]; exact this
  · rename_i b cs
    obtain ⟨hb, h⟩ := h
    refine ⟨_, h, base fun j w u hr => ?_⟩
    cases hr with
    | op hr _ =>
    cases hr hb with
    | el ad val ha hlt hb hcell hrel =>
      refine ⟨_, rfl, ?_⟩
      rw [add_off _ ha]
      refine .el _ (fun k => val (o + k)) rfl hlt hb (fun k hk => ?_) (fun k hk => ?_)
      · simp only [List.length_drop] at hk
        have := hcell (o + k) (by omega)
        rw [← Nat.add_assoc] at this; exact this
      · simp only [List.length_drop] at hk
        have := hrel (o + k) (by omega)
        have e1 : (cs.drop o).getD k default = cs.getD (o + k) default := by simp [List.getD_eq_getElem?_getD]
        rw [e1]; exact this
  · exact h.elim
/-! loads -/
def loadA (P : Program) (g : Bool) (t : TypeId) (σ : List Blk) (x : AV) (K : AV → Prop) : Prop :=
  match tyA P t with
  | some (agg, m) => (agg || Nat.beq m 1) = true ∧ (match readAt σ m x with
    | some (side, l) => (g = true → side) ∧ K (loaded agg l)
    | none => False)
  | none => False
theorem load_sound {P : Program} {g : Bool} {t : TypeId} {s : St} {a : AV} {K : AV → Prop} (h : loadA P g t s.σ a K) {x : Operand} (hx : Arg g s x a) : ∃ av, K av ∧ Yld P g s (.load t x) av := by
  unfold loadA at h
  split at h
  · rename_i agg m ht
    obtain ⟨hm, h⟩ := h
    split at h
    · rename_i side l hl
      refine ⟨_, h.2, fun hg j0 j a w o ho hrel => ?_⟩
      obtain ⟨ad, h1, u, h2, h3⟩ := loadVar_sound (P := P) hrel.sto ht (fun ha => by subst ha; exact Nat.eq_of_beq_eq_true (by simpa using hm)) (hx hg j0 j a w hrel) hl (h.1 hg)
      refine ⟨u, ?_, h3⟩
      simp [execOp, ho, h1, Instr.loadAt, Instr.sureAddr, h2]
    · exact h.elim
  · exact h.elim
/-! elements -/
def slA (P : Program) (t : TypeId) : Option (TypeId × Nat) :=
  match P.underlying t with
  | some (.slice e) => match P.info? e with
    | some i => some (e, i.size)
    | none => none
  | _ => none
theorem slA_spec {P : Program} {t e : TypeId} {m : Nat} (h : slA P t = some (e, m)) : P.underlying t = some (.slice e) ∧ ∃ i, P.info? e = some i ∧ i.size = m := by
  unfold slA at h
  split at h
  · rename_i e' hu
    split at h
    · rename_i i hi
      simp only [Option.some.injEq, Prod.mk.injEq] at h
      obtain ⟨rfl, rfl⟩ := h
      exact ⟨hu, i, hi, rfl⟩
    · simp at h
  · simp at h
def indexAddrA (P : Program) (g : Bool) (t : TypeId) (x : AV) (i : Int) (K : AV → Prop) : Prop :=
  match slA P t, x with
  | some (e, m), .d (.sl cap sz n row) => Nat.beq m sz = true ∧ (g = true → 0 ≤ i ∧ i < n) ∧ K (.el (row i.toNat))
  | some (e, m), .ms b sz lo n => Nat.beq m sz = true ∧ (g = true → 0 ≤ i ∧ i < n) ∧ K (.pe b sz (lo + i.toNat) 0)
  | _, _ => False
theorem indexAt_run {P : Program} {t e : TypeId} {m : Nat} (h : slA P t = some (e, m)) (a : Addr) (n c : Nat) (k : IntKind) (i : Int) (h0 : 0 ≤ i) (h1 : i < n) (w : World) :
    (Instr.indexAt t (.slice (some a) n c) (.int k i)).run P w = .ok (.pointer (some (a.add (i.toNat * m)))) w := by
  obtain ⟨hu, inf, hi, hm⟩ := slA_spec h
  simp [Instr.indexAt, asIntOf, underlying, hu, h0, h1, Go.sizeOf, typeInfo, hi, hm]
theorem indexAddr_sound {P : Program} {g : Bool} {t : TypeId} {a : AV} {k : IntKind} {i : Int} {K : AV → Prop} (h : indexAddrA P g t a i K) {s : St} {x y : Operand} (hx : Arg g s x a) (hy : Arg g s y (.d (.v (.int k i)))) :
    ∃ av, K av ∧ Yld P g s (.indexAddr t x y) av := by
  unfold indexAddrA at h
  split at h
  · rename_i e m cap sz n row hs
    obtain ⟨hm, hside, hK⟩ := h
    have hm := Nat.eq_of_beq_eq_true hm
    subst hm
    refine ⟨_, hK, fun hg j0 j a w o ho hrel => ?_⟩
    obtain ⟨h0, h1⟩ := hside hg
    have h2 := R_v (hy hg j0 j a w hrel)
    have h3 := hx hg j0 j a w hrel
    simp only [execOp, ho, h2]
    generalize a.eval x = u at h3
    cases h3 with | d h3 =>
    cases h3 with
    | sl ad c val hcap hle ha hlt hb hlen hcell hr =>
      refine ⟨.pointer (some (ad.add (i.toNat * m))), by simp [indexAt_run hs ad n c k i h0 h1], ?_⟩
      rw [add_off _ ha]
      have hi : i.toNat < n := by omega
      refine .el _ (fun q => val i.toNat q) rfl hlt hb (fun q hq => ?_) (fun q hq => ?_)
      · rw [hlen _ hi] at hq; exact hcell _ hi q hq
      · rw [hlen _ hi] at hq; exact hr _ hi q hq
    | zero p c hcap hp => omega
  · rename_i e m b sz lo n hs
    obtain ⟨hm, hside, hK⟩ := h
    have hm := Nat.eq_of_beq_eq_true hm
    subst hm
    refine ⟨_, hK, fun hg j0 j a w o ho hrel => ?_⟩
    obtain ⟨h0, h1⟩ := hside hg
    have h2 := R_v (hy hg j0 j a w hrel)
    have h3 := hx hg j0 j a w hrel
    simp only [execOp, ho, h2]
    generalize a.eval x = u at h3
    cases h3 with
    | @ms _ _ _ _ cb c e' m' hb hsh hn hm =>
      refine ⟨.pointer (some (Addr.add ⟨cb, lo * m, none⟩ (i.toNat * m))), by simp [indexAt_run hs _ n c k i h0 h1], ?_⟩
      rw [add_off _ rfl]
      have : lo * m + i.toNat * m = (lo + i.toNat) * m + 0 := by rw [Nat.add_mul]; rfl
      simp only [this]
      exact .pe hb
    | ms0 p hb => omega
    | msE p e' m' hb => omega
  · exact h.elim
end Go.Abs

/-! Ae -/
namespace Go.Abs
set_option linter.unusedVariables false
set_option linter.unusedSimpArgs false
section
variable {P : Program} {g : Bool} {s : St}
theorem move_sound {x : Operand} {av : AV} (hx : Arg g s x av) : Yld P g s (.move x) av :=
  fun hg j0 j a w o ho hrel => ⟨_, by simp [execOp, ho], hx hg j0 j a w hrel⟩
theorem assign_sound {x : Operand} {av : AV} (hx : Arg g s x av) : Yld P g s (.assign x) av :=
  fun hg j0 j a w o ho hrel => ⟨_, by simp [execOp, ho], hx hg j0 j a w hrel⟩
theorem pick_sound {c x y : Operand} {b p q : Bool} (hc : Arg g s c (.d (.v (.bool b)))) (hx : Arg (g && b) s x (.d (.v (.bool p)))) (hy : Arg (g && !b) s y (.d (.v (.bool q)))) :
    Yld P g s (.pick c x y) (.d (.v (.bool (cond b p q)))) := by
  intro hg j0 j a w o ho hrel
  have h1 := R_v (hc hg j0 j a w hrel)
  refine ⟨_, ?_, .d (.v _)⟩
  cases b with
  | true =>
    have h2 := R_v (hx (by simp [hg]) j0 j a w hrel)
    simp [execOp, ho, h1, asBool, h2]
  | false =>
    have h2 := R_v (hy (by simp [hg]) j0 j a w hrel)
    simp [execOp, ho, h1, asBool, h2]
theorem extract_sound {x : Operand} {i : Nat} {vs : List AV} {av : AV} (hx : Arg g s x (.tup vs)) (hi : vs[i]? = some av) : Yld P g s (.extract x i) av := by
  intro hg j0 j a w o ho hrel
  have h1 := hx hg j0 j a w hrel
  simp only [execOp, ho]
  generalize a.eval x = u at h1
  cases h1 with
  | tup us hs h =>
    obtain ⟨hlt, he⟩ := List.getElem?_eq_some_iff.1 hi
    have h2 := h i hlt
    have h3 : vs.getD i .undef = av := by simp [List.getD_eq_getElem?_getD, hi]
    rw [h3] at h2
    obtain ⟨h4, h5⟩ := arr_get (us := us) (i := i) (by omega)
    rw [h5] at h2
    exact ⟨us[i], by simp [Instr.extract, h4], h2⟩
def fieldVA (P : Program) (t : TypeId) (f : Nat) : Option (Nat × Bool × Nat) :=
  match P.underlying t with
  | some (.struct fs) => match fs[f]? with
    | some fd => match tyA P fd.type with
      | some (agg, m) => some (fd.offset, agg, m)
      | none => none
    | none => none
  | _ => none
theorem field_sound {t : TypeId} {x : Operand} {f off m : Nat} {agg : Bool} (hf : fieldVA P t f = some (off, agg, m)) (hm : agg = false → m = 1) {cs : List AV} (hlt : off + m ≤ cs.length) (hx : Arg g s x (.agg cs)) :
    Yld P g s (.field t x f) (loaded agg ((cs.drop off).take m)) := by
  intro hg j0 j a w o ho hrel
  have h1 := hx hg j0 j a w hrel
  simp only [execOp, ho]
  generalize a.eval x = u at h1
  unfold fieldVA at hf
  split at hf
  · rename_i fs hu
    split at hf
    · rename_i fd hfd
      split at hf
      · rename_i ag mm ht
        simp only [Option.some.injEq, Prod.mk.injEq] at hf
        obtain ⟨rfl, rfl, rfl⟩ := hf
        cases h1 with
        | agg us hs h =>
          obtain ⟨v, h2, h3⟩ := part_sound (P := P) (off := fd.offset) ht hm hs h hlt
          exact ⟨v, by simp [Instr.field, underlying, hu, hfd, asAgg, h2], h3⟩
      · simp at hf
    · simp at hf
  · simp at hf
theorem makeFunc_sound {fn : Fn} {f c : Array Operand} {fs cs : List AV} (hf : fs.length = f.toList.length ∧ ∀ k, k < f.toList.length → Arg g s (f.toList.getD k (.const Go.undef)) (fs.getD k .undef)) (hc : cs.length = c.toList.length ∧ ∀ k, k < c.toList.length → Arg g s (c.toList.getD k (.const Go.undef)) (cs.getD k .undef)) :
    Yld P g s (.makeFunc fn f c) (.clo fn fs cs) := by
  intro hg j0 j a w o ho hrel
  refine ⟨.func fn (f.map a.eval) (c.map a.eval), by simp [execOp, ho, Instr.makeFunc], .clo _ _ (by simp; simpa using hf.1.symm) (by simp; simpa using hc.1.symm) (fun k hk => ?_) (fun k hk => ?_)⟩
  · have hk' : k < f.toList.length := by rw [← hf.1]; exact hk
    have := hf.2 k hk' hg j0 j a w hrel
    have hk2 : k < f.size := by simpa using hk'
    simpa [Array.getD_eq_getD_getElem?, List.getD_eq_getElem?_getD, hk2] using this
  · have hk' : k < c.toList.length := by rw [← hc.1]; exact hk
    have := hc.2 k hk' hg j0 j a w hrel
    have hk2 : k < c.size := by simpa using hk'
    simpa [Array.getD_eq_getD_getElem?, List.getD_eq_getElem?_getD, hk2] using this
/-! len, min, max -/
def lenT (P : Program) (t : TypeId) : Nat :=
  match P.underlying t with
  | some (.slice _) => 1
  | some .string => 2
  | _ => 0
def lenA (P : Program) (t : TypeId) (x : AV) (K : AV → Prop) : Prop :=
  match x with
  | .d (.sl _ _ n _) => Nat.beq (lenT P t) 1 = true ∧ K (.d (.v (.int .i64 n)))
  | .d (.v (.slice _ n _)) => Nat.beq (lenT P t) 1 = true ∧ K (.d (.v (.int .i64 n)))
  | .ms _ _ _ n => Nat.beq (lenT P t) 1 = true ∧ K (.d (.v (.int .i64 n)))
  | .mc _ _ _ n _ => Nat.beq (lenT P t) 1 = true ∧ K (.d (.v (.int .i64 n)))
  | .d (.v (.string b)) => Nat.beq (lenT P t) 2 = true ∧ K (.d (.v (.int .i64 b.size)))
  | _ => False
theorem lenT_1 {t : TypeId} (h : Nat.beq (lenT P t) 1 = true) : ∃ e, P.underlying t = some (.slice e) := by
  unfold lenT at h
  split at h
  · exact ⟨_, by assumption⟩
  · simp at h
  · simp at h
theorem lenT_2 {t : TypeId} (h : Nat.beq (lenT P t) 2 = true) : P.underlying t = some .string := by
  unfold lenT at h
  split at h
  · simp at h
  · assumption
  · simp at h
theorem len_sound {t : TypeId} {x : Operand} {a : AV} {K : AV → Prop} (h : lenA P t a K) (hx : Arg g s x a) (at_ : Array TypeId) (hat : at_ = #[t]) : ∃ av, K av ∧ Yld P g s (.call { callee := .builtin .len, args := #[x], argTypes := at_ }) av := by
  subst hat
  have base : ∀ n : Int, (∀ (j : Js) (w : World) u, R w j a u → (Builtin.len_ #[t] 0 #[u]).run P w = .ok (.int .i64 n) w) → Yld P g s (.call { callee := .builtin .len, args := #[x], argTypes := #[t] }) (.d (.v (.int .i64 n))) := by
    intro n hh hg j0 j a w o ho hrel
    have h1 := hh j w _ (hx hg j0 j a w hrel)
    refine ⟨.int .i64 n, ?_, .d (.v _)⟩
    have h2 : (Builtin.len_ #[t] o.type #[a.eval x]).run P w = .ok (.int .i64 n) w := h1
    simp [execOp, ho, resolve, invoke, builtin, h2]
  unfold lenA at h
  split at h
  · obtain ⟨ht, hK⟩ := h
    obtain ⟨e, hu⟩ := lenT_1 ht
    refine ⟨_, hK, base _ fun j w u hr => ?_⟩
    cases hr with | d hr =>
    cases hr <;> simp [Builtin.len_, underlying, hu, goInt]
  · obtain ⟨ht, hK⟩ := h
    obtain ⟨e, hu⟩ := lenT_1 ht
    refine ⟨_, hK, base _ fun j w u hr => ?_⟩
    have := R_v hr
    subst this
    simp [Builtin.len_, underlying, hu, goInt]
  · obtain ⟨ht, hK⟩ := h
    obtain ⟨e, hu⟩ := lenT_1 ht
    refine ⟨_, hK, base _ fun j w u hr => ?_⟩
    cases hr <;> simp [Builtin.len_, underlying, hu, goInt]
  · obtain ⟨ht, hK⟩ := h
    obtain ⟨e, hu⟩ := lenT_1 ht
    refine ⟨_, hK, base _ fun j w u hr => ?_⟩
    cases hr with | mc hr q hv => subst hv; simp [Builtin.len_, underlying, hu, goInt]
  · obtain ⟨ht, hK⟩ := h
    have hu := lenT_2 ht
    refine ⟨_, hK, base _ fun j w u hr => ?_⟩
    have := R_v hr
    subst this
    simp [Builtin.len_, underlying, hu, goInt]
  · exact h.elim
def minmaxA (mx : Bool) (x y : AV) (K : AV → Prop) : Prop :=
  match x, y with
  | .d (.v (.int k a)), .d (.v (.int k' b)) => K (.d (.v (.int k (if mx then max a b else min a b))))
  | _, _ => False
theorem minmax_sound {mx : Bool} {x y : Operand} {a b : AV} {K : AV → Prop} (h : minmaxA mx a b K) (hx : Arg g s x a) (hy : Arg g s y b) (at_ : Array TypeId) : ∃ av, K av ∧ Yld P g s (.call { callee := .builtin (if mx then .max else .min), args := #[x, y], argTypes := at_ }) av := by
  unfold minmaxA at h
  split at h
  · rename_i k m k' n
    rw [show (if mx then max m n else min m n) = (if mx then (if m < n then n else m) else (if n < m then n else m)) by
      cases mx
      · simp only [Bool.false_eq_true, if_false]; split <;> omega
      · simp only [if_true]; split <;> omega] at h
    refine ⟨_, h, fun hg j0 j a w o ho hrel => ⟨_, ?_, .d (.v _)⟩⟩
    have h1 := R_v (hx hg j0 j a w hrel)
    have h2 := R_v (hy hg j0 j a w hrel)
    cases mx
    · simp [execOp, ho, resolve, invoke, builtin, Builtin.min_, Builtin.min2, h1, h2]
    · simp [execOp, ho, resolve, invoke, builtin, Builtin.max_, Builtin.max2, h1, h2]
  · exact h.elim
theorem minmax3_sound {mx : Bool} {x y z : Operand} {a b c : AV} {K : AV → Prop} (h : minmaxA mx a b fun d => minmaxA mx d c K) (hx : Arg g s x a) (hy : Arg g s y b) (hz : Arg g s z c) (at_ : Array TypeId) : ∃ av, K av ∧ Yld P g s (.call { callee := .builtin (if mx then .max else .min), args := #[x, y, z], argTypes := at_ }) av := by
  unfold minmaxA at h
  split at h
  · rename_i k m k' n
    split at h
    · rename_i k1 m1 k'' q he
      simp only [AV.d.injEq, D.v.injEq, Value.int.injEq] at he
      obtain ⟨rfl, rfl⟩ := he
      refine ⟨_, h, fun hg j0 j a w o ho hrel => ⟨_, ?_, .d (.v _)⟩⟩
      have h1 := R_v (hx hg j0 j a w hrel)
      have h2 := R_v (hy hg j0 j a w hrel)
      have h3 := R_v (hz hg j0 j a w hrel)
      cases mx
      · have e : ∀ p r : Int, (if r < p then r else p) = min p r := fun p r => by split <;> omega
        simp [execOp, ho, resolve, invoke, builtin, Builtin.min_, Builtin.min2, h1, h2, h3, e]
      · have e : ∀ p r : Int, (if p < r then r else p) = max p r := fun p r => by split <;> omega
        simp [execOp, ho, resolve, invoke, builtin, Builtin.max_, Builtin.max2, h1, h2, h3, e]
    · exact h.elim
  · exact h.elim
/-! conversions of integers -/
def intT (P : Program) (t : TypeId) : Option IntKind := match P.underlying t with | some (.int k) => some k | _ => none
theorem convert_int {src dst : TypeId} {k k' : IntKind} {n : Int} {x : Operand} (hd : intT P dst = some k') (hs : intT P src = some k) (hx : Arg g s x (.d (.v (.int k n)))) : Yld P g s (.convert src dst x) (.d (.v (.int k' (k'.wrap n)))) := by
  intro hg j0 j a w o ho hrel
  have h1 := R_v (hx hg j0 j a w hrel)
  have hu : P.underlying dst = some (.int k') := by
    unfold intT at hd; split at hd <;> simp_all
  have hv : P.underlying src = some (.int k) := by
    unfold intT at hs; split at hs <;> simp_all
  exact ⟨_, by simp [execOp, ho, h1, convert, underlying, hu, hv, Conv.intToInt], .d (.v _)⟩
def strT (P : Program) (t : TypeId) : Bool := match P.underlying t with | some .string => true | _ => false
theorem convert_str {src dst : TypeId} {b : ByteArray} {x : Operand} (hd : strT P dst = true) (hs : strT P src = true) (hx : Arg g s x (.d (.v (.string b)))) : Yld P g s (.convert src dst x) (.d (.v (.string b))) := by
  intro hg j0 j a w o ho hrel
  have h1 := R_v (hx hg j0 j a w hrel)
  have hu : P.underlying dst = some .string := by
    unfold strT at hd; split at hd <;> simp_all
  have hv : P.underlying src = some .string := by
    unfold strT at hs; split at hs <;> simp_all
  exact ⟨_, by simp [execOp, ho, h1, convert, underlying, hu, hv], .d (.v _)⟩
/-! a byte of a string -/
theorem index_str {t : TypeId} (ht : strT P t = true) {b : ByteArray} {k : IntKind} {i : Int} {x y : Operand} (hi : g = true → 0 ≤ i ∧ i < b.size) (hx : Arg g s x (.d (.v (.string b)))) (hy : Arg g s y (.d (.v (.int k i)))) :
    Yld P g s (.index t x y) (.d (.v (.int .u8 ((b[i.toNat]?).getD 0).toNat))) := by
  intro hg j0 j a w o ho hrel
  have h1 := R_v (hx hg j0 j a w hrel)
  have h2 := R_v (hy hg j0 j a w hrel)
  have hu : P.underlying t = some .string := by
    unfold strT at ht; split at ht <;> simp_all
  obtain ⟨h3, h4⟩ := hi hg
  have h5 : b[i.toNat]? = some (b[i.toNat]'(by omega)) := getElem?_pos b i.toNat (by omega)
  exact ⟨_, by simp [execOp, ho, h1, h2, Instr.index, asIntOf, underlying, hu, h3, h5], .d (.v _)⟩
def arV (P : Program) (t : TypeId) : Option (Nat × Bool × Nat) :=
  match P.underlying t with
  | some (.array n e) => match tyA P e with
    | some (agg, m) => some (n, agg, m)
    | none => none
  | _ => none
theorem index_arr {t : TypeId} {n m : Nat} {agg : Bool} (ht : arV P t = some (n, agg, m)) (hm : (agg || Nat.beq m 1) = true) {cs : List AV} (hl : n * m ≤ cs.length) {k : IntKind} {i : Int} {x y : Operand} (hi : g = true → 0 ≤ i ∧ i < n) (hx : Arg g s x (.agg cs)) (hy : Arg g s y (.d (.v (.int k i)))) :
    Yld P g s (.index t x y) (loaded agg ((cs.drop (i.toNat * m)).take m)) := by
  intro hg j0 j a w o ho hrel
  have h1 := hx hg j0 j a w hrel
  have h2 := R_v (hy hg j0 j a w hrel)
  have hu : ∃ e, P.underlying t = some (.array n e) ∧ tyA P e = some (agg, m) := by
    unfold arV at ht
    split at ht
    · rename_i n' e h3
      split at ht
      · rename_i h4; cases ht; exact ⟨e, h3, h4⟩
      · cases ht
    · cases ht
  obtain ⟨e, hu, he⟩ := hu
  obtain ⟨h3, h4⟩ := hi hg
  generalize hv : a.eval x = u at h1
  cases h1 with
  | agg us hus hur =>
  have hlt : i.toNat * m + m ≤ cs.length := by
    have h5 : i.toNat + 1 ≤ n := by omega
    have h6 : (i.toNat + 1) * m ≤ n * m := Nat.mul_le_mul_right m h5
    have h7 : (i.toNat + 1) * m = i.toNat * m + m := by rw [Nat.add_mul, Nat.one_mul]
    omega
  obtain ⟨v, hp, hr⟩ := part_sound (P := P) (w := w) (j := j) (off := i.toNat * m) he (by intro h; subst h; simpa using hm) hus hur hlt
  refine ⟨v, ?_, hr⟩
  have hs := tyA_sizeOf he w
  simp [execOp, ho, hv, h2, Instr.index, asIntOf, underlying, hu, h3, h4, hs, hp]
def nilOk : AV → Bool
  | .ptr .. => true
  | .pe .. => true
  | .el _ => true
  | .op b _ => b
  | .clo (.func _) _ _ => true
  | _ => false
theorem nilCheck_sound {x : Operand} {av : AV} (hx : Arg g s x av) (ha : nilOk av = true) : Yld P g s (.nilCheck x) av := by
  intro hg j0 j a w o ho hrel
  have h1 := hx hg j0 j a w hrel
  refine ⟨a.eval x, ?_, h1⟩
  simp only [execOp, ho]
  generalize a.eval x = u at h1
  cases h1 with
  | ptr h => rfl
  | pe h => rfl
  | el => rfl
  | @op b cs v hh h0 =>
    have := hh ha
    cases this with | el => rfl
  | @clo fn fs cs ff cc _ _ _ _ =>
    cases fn with
    | func f => rfl
    | _ => simp [nilOk] at ha
  | _ => simp [nilOk] at ha
end
end Go.Abs

/-! Af -/
namespace Go.Abs
set_option linter.unusedVariables false
set_option linter.unusedSimpArgs false
section
variable {P : Program} {g : Bool} {s : St}
theorem run_v {w w' : World} {S : Sem Value} {v : Value} (h : S.run P w = .ok v w') : (do pure (Next.value (← S)) : Sem Next).run P w = .ok (.value v) w' := by
  simp [h]
def bnd (g : Bool) (s : St) (x : Option Operand) (dflt : Int) (K : Int → Prop) : Prop :=
  match x with
  | none => K dflt
  | some x => arg g s x fun
    | .d (.v (.int _ i)) => K i
    | _ => False
def Bnd (g : Bool) (s : St) (x : Option Operand) (dflt i : Int) : Prop :=
  match x with
  | none => i = dflt
  | some x => ∃ k, Arg g s x (.d (.v (.int k i)))
theorem bnd_sound {x : Option Operand} {dflt : Int} {K : Int → Prop} (h : bnd g s x dflt K) : ∃ i, K i ∧ Bnd g s x dflt i := by
  cases x with
  | none => exact ⟨_, h, rfl⟩
  | some x =>
    obtain ⟨av, h1, h2⟩ := arg_sound h
    split at h1
    · exact ⟨_, h1, _, h2⟩
    · exact h1.elim
def roomA (σ : List Blk) (b sz x : Nat) : Prop :=
  match σ[b]? with
  | some (.arr sz' n' _) => Nat.beq sz sz' = true ∧ 0 < sz ∧ x ≤ n'
  | _ => False
theorem room_ok {w : World} {j : Js} {σ : List Blk} {b sz lo c x cb m : Nat} {e : TypeId} (hS : RelS w j σ) (hr : roomA σ b sz x) (hj : j[b]? = some (some cb)) (hsh : w.shape? cb = some (e, m)) (hm : (lo + c) * sz = m) : x ≤ lo + c := by
  unfold roomA at hr
  split at hr
  · rename_i sz' n' row hb
    obtain ⟨h1, h2, h3⟩ := hr
    have := Nat.eq_of_beq_eq_true h1
    subst this
    obtain ⟨o, ho, hB⟩ := hS.blk b _ hb
    rw [hj] at ho
    cases ho
    obtain ⟨C, e', ⟨f, hC, hf⟩, hCs, _⟩ := hB
    have : C.size = m := by simp [World.shape?, hC] at hsh; exact hsh.2
    have h4 : n' * sz ≤ (lo + c) * sz := by omega
    exact Nat.le_trans h3 (Nat.le_of_mul_le_mul_right h4 h2)
  · exact hr.elim
theorem room_none {w : World} {j : Js} {σ : List Blk} {b sz x : Nat} (hS : RelS w j σ) (hr : roomA σ b sz x) (hj : j[b]? = some none) : x = 0 := by
  unfold roomA at hr
  split at hr
  · rename_i sz' n' row hb
    obtain ⟨o, ho, hB⟩ := hS.blk b _ hb
    rw [hj] at ho
    cases ho
    have : n' = 0 := hB
    omega
  · exact hr.elim
def sliceA (P : Program) (g : Bool) (t : TypeId) (s : St) (x : AV) (lo hi mx : Option Operand) (K : AV → Prop) : Prop :=
  match x with
  | .d (.v (.string b)) => (strT P t && mx.isNone) = true ∧ bnd g s lo 0 fun l => bnd g s hi b.size fun h => (g = true → 0 ≤ l ∧ l ≤ h ∧ h ≤ b.size) ∧ K (.d (.v (.string (b.extract l.toNat h.toNat))))
  | .d (.sl cap sz n row) => (match slA P t with
    | some (_, m) => Nat.beq m sz = true
    | none => False) ∧ bnd g s lo 0 fun l => bnd g s hi n fun h => (match mx with
      | none => (g = true → 0 ≤ l ∧ l ≤ h ∧ h ≤ n) ∧ K (.d (.sl (cap.map (· - l.toNat)) sz (h - l).toNat fun i => row (l.toNat + i)))
      | some m => hi.isSome = true ∧ bnd g s (some m) 0 fun m => (g = true → 0 ≤ l ∧ l ≤ h ∧ h ≤ m ∧ m ≤ n) ∧ K (.d (.sl (some (m - l).toNat) sz (h - l).toNat fun i => row (l.toNat + i))))
  | .d (.v (.slice none 0 0)) => (match slA P t with
    | some _ => True
    | none => False) ∧ bnd g s lo 0 fun l => bnd g s hi 0 fun h => mx.isNone = true ∧ (g = true → l = 0 ∧ h = 0) ∧ K (.d (.v (.slice none 0 0)))
  | .ms b sz lo' n => (match slA P t with
    | some (_, m) => Nat.beq m sz = true
    | none => False) ∧ bnd g s lo 0 fun l => bnd g s hi n fun h => (match mx with
      | none => (g = true → 0 ≤ l ∧ l ≤ h ∧ (h ≤ n ∨ roomA s.σ b sz (lo' + h.toNat))) ∧ K (.ms b sz (lo' + l.toNat) (h - l).toNat)
      | some m => hi.isSome = true ∧ bnd g s (some m) 0 fun m => (g = true → 0 ≤ l ∧ l ≤ h ∧ h ≤ m ∧ m ≤ n) ∧ K .undef)
  | .mc b sz lo' n c => (match slA P t with
    | some (_, m) => Nat.beq m sz = true
    | none => False) ∧ bnd g s lo 0 fun l => bnd g s hi n fun h => mx.isNone = true ∧ (g = true → 0 ≤ l ∧ l ≤ h ∧ h ≤ c) ∧ K (.mc b sz (lo' + l.toNat) (h - l).toNat (c - l.toNat))
  | _ => False
def BV (ev : Operand → Value) (x : Option Operand) (dflt i : Int) : Prop :=
  match x with
  | none => i = dflt
  | some x => ∃ k, ev x = .int k i
theorem bounds_run {isS : Bool} {len cap : Nat} {lo hi : Option Operand} {l h : Int} {ev : Operand → Value}
    (hl : BV ev lo 0 l) (hh : BV ev hi len h) (h0 : 0 ≤ l) (h1 : l ≤ h) (h2 : h ≤ cap) (w : World) :
    (Instr.sliceBounds isS len cap (lo.map ev) (hi.map ev) none).run P w = .ok (l.toNat, h.toNat, cap) w := by
  have e1 : 0 ≤ h := by omega
  have e2 : (h.toNat : Int) = h := Int.toNat_of_nonneg e1
  cases hi with
  | none =>
    simp only [BV] at hh
    subst hh
    cases lo with
    | none => simp only [BV] at hl; subst hl; simp [Instr.sliceBounds]
    | some x =>
      obtain ⟨k, hx⟩ := hl
      simp [Instr.sliceBounds, Instr.sliceBound, asIntOf, hx, h0, h1]
  | some y =>
    obtain ⟨k', hy⟩ := hh
    cases lo with
    | none => simp only [BV] at hl; subst hl; simp [Instr.sliceBounds, Instr.sliceBound, asIntOf, hy, e1, h2]
    | some x =>
      obtain ⟨k, hx⟩ := hl
      simp [Instr.sliceBounds, Instr.sliceBound, asIntOf, hx, hy, e1, h2, h0, show l ≤ max h 0 by omega]
theorem bounds_run3 {isS : Bool} {len cap : Nat} {lo : Option Operand} {hi mx : Operand} {l h m : Int} {ev : Operand → Value}
    (hl : BV ev lo 0 l) (hh : ∃ k, ev hi = .int k h) (hm : ∃ k, ev mx = .int k m) (h0 : 0 ≤ l) (h1 : l ≤ h) (h2 : h ≤ m) (h3 : m ≤ cap) (w : World) :
    (Instr.sliceBounds isS len cap (lo.map ev) (some (ev hi)) (some (ev mx))).run P w = .ok (l.toNat, h.toNat, m.toNat) w := by
  obtain ⟨k, hh⟩ := hh
  obtain ⟨k', hm⟩ := hm
  have e0 : 0 ≤ m := by omega
  have e1 : 0 ≤ h := by omega
  have e2 : h ≤ (m.toNat : Int) := by omega
  cases lo with
  | none => simp only [BV] at hl; subst hl; simp [Instr.sliceBounds, Instr.sliceBound, asIntOf, hh, hm, e0, e1, h3, show h ≤ max m 0 by omega]
  | some x =>
    obtain ⟨k, hx⟩ := hl
    simp [Instr.sliceBounds, Instr.sliceBound, asIntOf, hx, hh, hm, e0, e1, h3, h0, show h ≤ max m 0 by omega, show l ≤ max h 0 by omega]
theorem Bnd.at {x : Option Operand} {dflt i : Int} (h : Bnd g s x dflt i) (hg : g = true) {j0 : J0} {j : Js} {a : Act} {w : World} (hr : Rel j0 s j a w) : BV a.eval x dflt i := by
  cases x with
  | none => exact h
  | some x => obtain ⟨k, hk⟩ := h; exact ⟨k, R_v (hk hg j0 j a w hr)⟩
theorem slice_sound {t : TypeId} {x : Operand} {lo hi mx : Option Operand} {av : AV} {K : AV → Prop} (h : sliceA P g t s av lo hi mx K) (hx : Arg g s x av) : ∃ r, K r ∧ Yld P g s (.slice t x lo hi mx) r := by
  unfold sliceA at h
  split at h
  · rename_i b
    obtain ⟨ht, h⟩ := h
    simp only [Bool.and_eq_true] at ht
    obtain ⟨l, h, hl⟩ := bnd_sound h
    obtain ⟨hh, h, hhi⟩ := bnd_sound h
    obtain ⟨hs, hK⟩ := h
    have hu : P.underlying t = some .string := by
      have := ht.1; unfold strT at this; split at this <;> simp_all
    have hmx : mx = none := by cases mx <;> simp_all
    subst hmx
    refine ⟨_, hK, fun hg j0 j a w o ho hrel => ⟨_, ?_, .d (.v _)⟩⟩
    have h1 := R_v (hx hg j0 j a w hrel)
    obtain ⟨h2, h3, h4⟩ := hs hg
    have hb := bounds_run (P := P) (isS := false) (len := b.size) (cap := b.size) (hl.at hg hrel) (hhi.at hg hrel) h2 h3 h4 w
    simp [execOp, ho, h1, Instr.sliceAt, Instr.slice, underlying, hu, hb]
  · rename_i cap sz n row
    obtain ⟨ht, h⟩ := h
    obtain ⟨l, h, hl⟩ := bnd_sound h
    obtain ⟨hh, h, hhi⟩ := bnd_sound h
    split at ht
    · rename_i e m hsl
      have hm := Nat.eq_of_beq_eq_true ht
      subst hm
      obtain ⟨hu, inf, hinf, hsz⟩ := slA_spec hsl
      cases mx with
      | none =>
        simp only at h
        obtain ⟨hs, hK⟩ := h
        refine ⟨_, hK, fun hg j0 j a w o ho hrel => ?_⟩
        obtain ⟨h2, h3, h4⟩ := hs hg
        have h1 := hx hg j0 j a w hrel
        simp only [execOp, ho]
        generalize a.eval x = u at h1
        cases h1 with | d h1 =>
        cases h1 with
        | sl ad c val hcap hle ha hlt hb hlen hcell hr =>
          have hbr := bounds_run (P := P) (isS := true) (len := n) (cap := c) (hl.at hg hrel) (hhi.at hg hrel) h2 h3 (by omega) w
          have hrun : (Instr.sliceAt t (.slice (some ad) n c) (lo.map a.eval) (hi.map a.eval) none).run P w = .ok (.slice (if c = l.toNat then some ad else (some ad).map (·.add (l.toNat * m))) (hh.toNat - l.toNat) (c - l.toNat)) w := by
            simp [Instr.sliceAt, Instr.slice, underlying, hu, hbr, Go.sizeOf, typeInfo, hinf, hsz]
          refine ⟨_, run_v hrun, .d ?_⟩
          have e1 : (hh - l).toNat = hh.toNat - l.toNat := by omega
          rw [e1]
          have hcap' : cap.map (· - l.toNat) = none ∨ cap.map (· - l.toNat) = some (c - l.toNat) := by
            rcases hcap with rfl | rfl
            · exact .inl rfl
            · exact .inr rfl
          by_cases hcl : c = l.toNat
          · have : hh.toNat - l.toNat = 0 := by omega
            rw [if_pos hcl, this]
            exact .zero _ _ hcap' (by simp)
          · rw [if_neg hcl]
            simp only [Option.map_some]
            rw [add_off _ ha]
            refine .sl _ _ (fun i k => val (l.toNat + i) k) hcap' (by omega) rfl hlt hb (fun i hi => hlen _ (by omega)) (fun i hi k hk => ?_) (fun i hi k hk => hr _ (by omega) k hk)
            have := hcell (l.toNat + i) (by omega) k hk
            rw [Nat.add_mul, ← Nat.add_assoc] at this
            exact this
        | zero p c hcap hp =>
          have e0 : l = 0 := by omega
          have e1 : hh = 0 := by omega
          subst e0 e1
          have hbr := bounds_run (P := P) (isS := true) (len := 0) (cap := c) (hl.at hg hrel) (hhi.at hg hrel) (by omega) (by omega) (by omega) w
          have hrun : (Instr.sliceAt t (.slice p 0 c) (lo.map a.eval) (hi.map a.eval) none).run P w = .ok (.slice p 0 c) w := by
            have e2 : (p.map (·.add (0 * m))) = p := by cases p <;> simp [Addr.add]
            have e3 : (p.map (·.add 0)) = p := by cases p <;> simp [Addr.add]
            simp [Instr.sliceAt, Instr.slice, underlying, hu, hbr, Go.sizeOf, typeInfo, hinf, hsz, e2, e3]
          refine ⟨_, run_v hrun, .d ?_⟩
          refine .zero _ _ ?_ hp
          rcases hcap with rfl | rfl
          · exact .inl rfl
          · exact .inr rfl
      | some mm =>
        simp only at h
        obtain ⟨hsome, h⟩ := h
        obtain ⟨q, h, hq⟩ := bnd_sound h
        obtain ⟨hs, hK⟩ := h
        refine ⟨_, hK, fun hg j0 j a w o ho hrel => ?_⟩
        obtain ⟨h2, h3, h4, h5⟩ := hs hg
        have h1 := hx hg j0 j a w hrel
        simp only [execOp, ho]
        generalize a.eval x = u at h1
        cases hi with
        | none => simp at hsome
        | some hy =>
        cases h1 with | d h1 =>
        cases h1 with
        | sl ad c val hcap hle ha hlt hb hlen hcell hr =>
          have hbr := bounds_run3 (P := P) (isS := true) (len := n) (cap := c) (hl.at hg hrel) (hhi.at hg hrel) (hq.at hg hrel) h2 h3 h4 (by omega) w
          have hrun : (Instr.sliceAt t (.slice (some ad) n c) (lo.map a.eval) ((some hy).map a.eval) ((some mm).map a.eval)).run P w = .ok (.slice (if q.toNat = l.toNat then some ad else (some ad).map (·.add (l.toNat * m))) (hh.toNat - l.toNat) (q.toNat - l.toNat)) w := by
            simp only [Option.map_some]
            simp [Instr.sliceAt, Instr.slice, underlying, hu, hbr, Go.sizeOf, typeInfo, hinf, hsz]
          refine ⟨_, run_v hrun, .d ?_⟩
          have e1 : (hh - l).toNat = hh.toNat - l.toNat := by omega
          have e2 : (q - l).toNat = q.toNat - l.toNat := by omega
          rw [e1, e2]
          by_cases hcl : q.toNat = l.toNat
          · have : hh.toNat - l.toNat = 0 := by omega
            rw [if_pos hcl, this]
            exact .zero _ _ (.inr rfl) (by simp)
          · rw [if_neg hcl]
            simp only [Option.map_some]
            rw [add_off _ ha]
            refine .sl _ _ (fun i k => val (l.toNat + i) k) (.inr rfl) (by omega) rfl hlt hb (fun i hi => hlen _ (by omega)) (fun i hi k hk => ?_) (fun i hi k hk => hr _ (by omega) k hk)
            have := hcell (l.toNat + i) (by omega) k hk
            rw [Nat.add_mul, ← Nat.add_assoc] at this
            exact this
        | zero p c hcap hp =>
          have e0 : l = 0 := by omega
          have e1 : hh = 0 := by omega
          have e2 : q = 0 := by omega
          subst e0 e1 e2
          have hbr := bounds_run3 (P := P) (isS := true) (len := 0) (cap := c) (hl.at hg hrel) (hhi.at hg hrel) (hq.at hg hrel) (by omega) (by omega) (by omega) (by omega) w
          have hrun : (Instr.sliceAt t (.slice p 0 c) (lo.map a.eval) ((some hy).map a.eval) ((some mm).map a.eval)).run P w = .ok (.slice p 0 0) w := by
            simp only [Option.map_some]
            simp [Instr.sliceAt, Instr.slice, underlying, hu, hbr, Go.sizeOf, typeInfo, hinf, hsz]
          refine ⟨_, run_v hrun, .d ?_⟩
          exact .zero _ _ (.inr rfl) (fun _ => rfl)
    · exact ht.elim
  · obtain ⟨ht, h⟩ := h
    obtain ⟨l, h, hl⟩ := bnd_sound h
    obtain ⟨hh, h, hhi⟩ := bnd_sound h
    obtain ⟨hmx, hs, hK⟩ := h
    have hmx : mx = none := by cases mx <;> simp_all
    subst hmx
    split at ht
    · rename_i e m hsl
      obtain ⟨hu, inf, hinf, hsz⟩ := slA_spec hsl
      refine ⟨_, hK, fun hg j0 j a w o ho hrel => ?_⟩
      obtain ⟨e0, e1⟩ := hs hg
      subst e0 e1
      have h1 := R_v (hx hg j0 j a w hrel)
      have hbr := bounds_run (P := P) (isS := true) (len := 0) (cap := 0) (hl.at hg hrel) (hhi.at hg hrel) (by omega) (by omega) (by omega) w
      have hrun : (Instr.sliceAt t (.slice none 0 0) (lo.map a.eval) (hi.map a.eval) none).run P w = .ok (.slice none 0 0) w := by
        simp [Instr.sliceAt, Instr.slice, underlying, hu, hbr, Go.sizeOf, typeInfo, hinf]
      simp only [execOp, ho, h1]
      exact ⟨_, run_v hrun, .d (.v _)⟩
    · exact ht.elim
  · rename_i b sz lo' n
    obtain ⟨ht, h⟩ := h
    obtain ⟨l, h, hl⟩ := bnd_sound h
    obtain ⟨hh, h, hhi⟩ := bnd_sound h
    split at ht
    · rename_i e m hsl
      have hm := Nat.eq_of_beq_eq_true ht
      subst hm
      obtain ⟨hu, inf, hinf, hsz⟩ := slA_spec hsl
      cases mx with
      | none =>
        obtain ⟨hs, hK⟩ := h
        refine ⟨_, hK, fun hg j0 j a w o ho hrel => ?_⟩
        obtain ⟨h2, h3, h4⟩ := hs hg
        have h1 := hx hg j0 j a w hrel
        simp only [execOp, ho]
        generalize a.eval x = u at h1
        have e1 : (hh - l).toNat = hh.toNat - l.toNat := by omega
        rw [e1]
        cases h1 with
        | @ms _ _ _ _ cb c e' m' hb hsh hn hmm =>
          have hc : hh ≤ c := by
            rcases h4 with h4 | h4
            · omega
            · have := room_ok hrel.sto h4 hb hsh hmm; omega
          have hbr := bounds_run (P := P) (isS := true) (len := n) (cap := c) (hl.at hg hrel) (hhi.at hg hrel) h2 h3 hc w
          have hrun : (Instr.sliceAt t (.slice (some ⟨cb, lo' * m, none⟩) n c) (lo.map a.eval) (hi.map a.eval) none).run P w = .ok (.slice (if c = l.toNat then some (⟨cb, lo' * m, none⟩ : Addr) else some (Addr.add ⟨cb, lo' * m, none⟩ (l.toNat * m))) (hh.toNat - l.toNat) (c - l.toNat)) w := by
            simp [Instr.sliceAt, Instr.slice, underlying, hu, hbr, Go.sizeOf, typeInfo, hinf, hsz]
          refine ⟨_, run_v hrun, ?_⟩
          have h6 : lo' + l.toNat + (c - l.toNat) = lo' + c := by omega
          by_cases h7 : c = l.toNat
          · rw [if_pos h7]
            by_cases h8 : l.toNat = 0
            · rw [h8, Nat.add_zero, Nat.sub_zero, Nat.sub_zero]
              refine .ms _ _ _ hb hsh (by omega) hmm
            · have h9 : hh.toNat - l.toNat = 0 := by omega
              have h10 : c - l.toNat = 0 := by omega
              rw [h9, h10]
              refine .msE _ _ _ hb hsh (by omega) ?_
              rw [← h7]; exact hmm
          · rw [if_neg h7, add_off _ rfl, ← Nat.add_mul]
            refine .ms _ _ _ hb hsh (by omega) ?_
            rw [h6]; exact hmm
        | @msE _ _ _ cb p e' m' hb hsh hlo' hmm =>
          have e3 : hh = 0 := by
            rcases h4 with h4 | h4
            · omega
            · have := room_ok (c := 0) hrel.sto h4 hb hsh (by rw [Nat.add_zero]; exact hmm); omega
          have e2 : l = 0 := by omega
          subst e2 e3
          have hbr := bounds_run (P := P) (isS := true) (len := 0) (cap := 0) (hl.at hg hrel) (hhi.at hg hrel) (by omega) (by omega) (by omega) w
          have hrun : (Instr.sliceAt t (.slice p 0 0) (lo.map a.eval) (hi.map a.eval) none).run P w = .ok (.slice p 0 0) w := by
            simp [Instr.sliceAt, Instr.slice, underlying, hu, hbr, Go.sizeOf, typeInfo, hinf, hsz]
          exact ⟨_, run_v hrun, .msE _ _ _ hb hsh hlo' hmm⟩
        | ms0 p hb =>
          have e3 : hh = 0 := by
            rcases h4 with h4 | h4
            · omega
            · have := room_none hrel.sto h4 hb; omega
          have e2 : l = 0 := by omega
          subst e2 e3
          have hbr := bounds_run (P := P) (isS := true) (len := 0) (cap := 0) (hl.at hg hrel) (hhi.at hg hrel) (by omega) (by omega) (by omega) w
          have hrun : (Instr.sliceAt t (.slice p 0 0) (lo.map a.eval) (hi.map a.eval) none).run P w = .ok (.slice p 0 0) w := by
            simp [Instr.sliceAt, Instr.slice, underlying, hu, hbr, Go.sizeOf, typeInfo, hinf, hsz]
          exact ⟨_, run_v hrun, .ms0 _ hb⟩
      | some mm =>
        simp only at h
        obtain ⟨hsome, h⟩ := h
        obtain ⟨q, h, hq⟩ := bnd_sound h
        obtain ⟨hs, hK⟩ := h
        refine ⟨_, hK, fun hg j0 j a w o ho hrel => ?_⟩
        obtain ⟨h2, h3, h4, h5⟩ := hs hg
        have h1 := hx hg j0 j a w hrel
        simp only [execOp, ho]
        generalize a.eval x = u at h1
        cases hi with
        | none => simp at hsome
        | some hy =>
        cases h1 with
        | @ms _ _ _ _ cb c e' m' hb hsh hn hmm =>
          have hbr := bounds_run3 (P := P) (isS := true) (len := n) (cap := c) (hl.at hg hrel) (hhi.at hg hrel) (hq.at hg hrel) h2 h3 h4 (by omega) w
          have hrun : (Instr.sliceAt t (.slice (some ⟨cb, lo' * m, none⟩) n c) (lo.map a.eval) ((some hy).map a.eval) ((some mm).map a.eval)).run P w = .ok (.slice (if q.toNat = l.toNat then some ⟨cb, lo' * m, none⟩ else (some (⟨cb, lo' * m, none⟩ : Addr)).map (·.add (l.toNat * m))) (hh.toNat - l.toNat) (q.toNat - l.toNat)) w := by
            simp only [Option.map_some]
            simp [Instr.sliceAt, Instr.slice, underlying, hu, hbr, Go.sizeOf, typeInfo, hinf, hsz]
          exact ⟨_, run_v hrun, .undef _⟩
        | ms0 p hb =>
          have e0 : l = 0 := by omega
          have e1 : hh = 0 := by omega
          have e2 : q = 0 := by omega
          subst e0 e1 e2
          have hbr := bounds_run3 (P := P) (isS := true) (len := 0) (cap := 0) (hl.at hg hrel) (hhi.at hg hrel) (hq.at hg hrel) (by omega) (by omega) (by omega) (by omega) w
          have hrun : (Instr.sliceAt t (.slice p 0 0) (lo.map a.eval) ((some hy).map a.eval) ((some mm).map a.eval)).run P w = .ok (.slice p 0 0) w := by
            simp only [Option.map_some]
            simp [Instr.sliceAt, Instr.slice, underlying, hu, hbr, Go.sizeOf, typeInfo, hinf, hsz]
          exact ⟨_, run_v hrun, .undef _⟩
        | msE p e' m' hb =>
          have e0 : l = 0 := by omega
          have e1 : hh = 0 := by omega
          have e2 : q = 0 := by omega
          subst e0 e1 e2
          have hbr := bounds_run3 (P := P) (isS := true) (len := 0) (cap := 0) (hl.at hg hrel) (hhi.at hg hrel) (hq.at hg hrel) (by omega) (by omega) (by omega) (by omega) w
          have hrun : (Instr.sliceAt t (.slice p 0 0) (lo.map a.eval) ((some hy).map a.eval) ((some mm).map a.eval)).run P w = .ok (.slice p 0 0) w := by
            simp only [Option.map_some]
            simp [Instr.sliceAt, Instr.slice, underlying, hu, hbr, Go.sizeOf, typeInfo, hinf, hsz]
          exact ⟨_, run_v hrun, .undef _⟩
    · exact ht.elim
  · rename_i b sz lo' n c
    obtain ⟨ht, h⟩ := h
    obtain ⟨l, h, hl⟩ := bnd_sound h
    obtain ⟨hh, h, hhi⟩ := bnd_sound h
    obtain ⟨hmx, hs, hK⟩ := h
    have hmx : mx = none := by cases mx <;> simp_all
    subst hmx
    split at ht
    · rename_i e m hsl
      have hm := Nat.eq_of_beq_eq_true ht
      subst hm
      obtain ⟨hu, inf, hinf, hsz⟩ := slA_spec hsl
      refine ⟨_, hK, fun hg j0 j a w o ho hrel => ?_⟩
      obtain ⟨h2, h3, h4⟩ := hs hg
      have h1 := hx hg j0 j a w hrel
      simp only [execOp, ho]
      generalize a.eval x = u at h1
      have e1 : (hh - l).toNat = hh.toNat - l.toNat := by omega
      rw [e1]
      have hbr := bounds_run (P := P) (isS := true) (len := n) (cap := c) (hl.at hg hrel) (hhi.at hg hrel) h2 h3 (by omega) w
      cases h1 with | mc h1 q hv =>
      cases h1 with
      | @ms _ _ _ _ cb c' e' m' hb hsh hn hmm =>
        cases hv
        have hrun : (Instr.sliceAt t (.slice (some ⟨cb, lo' * m, none⟩) n c) (lo.map a.eval) (hi.map a.eval) none).run P w = .ok (.slice (if c = l.toNat then some (⟨cb, lo' * m, none⟩ : Addr) else some (Addr.add ⟨cb, lo' * m, none⟩ (l.toNat * m))) (hh.toNat - l.toNat) (c - l.toNat)) w := by
          simp [Instr.sliceAt, Instr.slice, underlying, hu, hbr, Go.sizeOf, typeInfo, hinf, hsz]
        refine ⟨_, run_v hrun, .mc ?_ _ rfl⟩
        have h6 : lo' + l.toNat + (c - l.toNat) = lo' + c := by omega
        by_cases h7 : c = l.toNat
        · rw [if_pos h7]
          by_cases h8 : l.toNat = 0
          · rw [h8, Nat.add_zero, Nat.sub_zero, Nat.sub_zero]
            exact .ms _ _ _ hb hsh (by omega) hmm
          · have h9 : hh.toNat - l.toNat = 0 := by omega
            have h10 : c - l.toNat = 0 := by omega
            rw [h9, h10]
            refine .msE _ _ _ hb hsh (by omega) ?_
            rw [← h7]; exact hmm
        · rw [if_neg h7, add_off _ rfl, ← Nat.add_mul]
          refine .ms _ _ _ hb hsh (by omega) ?_
          rw [h6]; exact hmm
      | ms0 p hb =>
        cases hv
        have e3 : hh = 0 := by omega
        have e2 : l = 0 := by omega
        subst e2 e3
        have hrun : (Instr.sliceAt t (.slice q 0 0) (lo.map a.eval) (hi.map a.eval) none).run P w = .ok (.slice q 0 0) w := by
          simp [Instr.sliceAt, Instr.slice, underlying, hu, hbr, Go.sizeOf, typeInfo, hinf, hsz]
        exact ⟨_, run_v hrun, .mc (.ms0 _ hb) _ rfl⟩
      | @msE _ _ _ cb p e' m' hb hsh hlo' hmm =>
        cases hv
        have e3 : hh = 0 := by omega
        have e2 : l = 0 := by omega
        subst e2 e3
        have hrun : (Instr.sliceAt t (.slice q 0 0) (lo.map a.eval) (hi.map a.eval) none).run P w = .ok (.slice q 0 0) w := by
          simp [Instr.sliceAt, Instr.slice, underlying, hu, hbr, Go.sizeOf, typeInfo, hinf, hsz]
        exact ⟨_, run_v hrun, .mc (.msE _ _ _ hb hsh hlo' hmm) _ rfl⟩
    · exact ht.elim
  · exact h.elim
end
end Go.Abs

/-! Ag -/
namespace Go.Abs
set_option linter.unusedVariables false
set_option linter.unusedSimpArgs false
def oneOk : AV → Bool
  | .d (.v x) => x.oneCell'
  | .d (.sl _ _ _ _) => true
  | .ptr _ _ => true
  | .pe _ _ _ _ => true
  | .el _ => true
  | .op _ _ => true
  | .ms _ _ _ _ => true
  | .mc _ _ _ _ _ => true
  | .mp _ => true
  | .clo _ _ _ => true
  | .yld _ => true
  | _ => false
theorem oneOk_cell {w : World} {j : Js} {av : AV} {v : Value} (h : R w j av v) (ho : oneOk av = true) : v.oneCell' = true := by
  cases h with
  | d h => cases h <;> simp_all [oneOk, Value.oneCell']
  | mc h q hv => subst hv; rfl
  | @op b _ _ hh h0 =>
    cases b with
    | true => cases hh rfl with | el a => rfl
    | false => rw [h0 rfl]; rfl
  | _ => simp_all [oneOk, Value.oneCell']
def allOne : List AV → Bool
  | [] => true
  | x :: xs => oneOk x && allOne xs
theorem allOne_getD : ∀ {cs : List AV} {k : Nat}, allOne cs = true → k < cs.length → oneOk (cs.getD k .undef) = true
  | [], _, _, hk => by simp at hk
  | x :: xs, 0, h, _ => by simp [allOne] at h; simpa using h.1
  | x :: xs, k + 1, h, hk => by
    simp [allOne] at h
    have := allOne_getD (k := k) h.2 (by simpa using hk)
    simpa using this
theorem cellsOf_rel {w : World} {j : Js} {av : AV} {v : Value} (h : R w j av v) (ho : allOne (cellsOf av) = true) :
    v.cells.size = (cellsOf av).length ∧ ∀ k, k < (cellsOf av).length → R w j ((cellsOf av).getD k .undef) (v.cells.getD k Go.undef) ∧ (v.cells.getD k Go.undef).oneCell' = true := by
  have fin : ∀ k, k < (cellsOf av).length → R w j ((cellsOf av).getD k .undef) (v.cells.getD k Go.undef) → (v.cells.getD k Go.undef).oneCell' = true := fun k hk hr => oneOk_cell hr (allOne_getD ho hk)
  cases h with
  | agg vs hs h => exact ⟨hs, fun k hk => ⟨h k hk, fin k hk (h k hk)⟩⟩
  | d h =>
    have hv : v.oneCell' = true := oneOk_cell (.d h) (by simpa [cellsOf, allOne] using ho)
    have hc : v.cells = #[v] := by cases v <;> simp_all [Value.oneCell', Value.cells]
    refine ⟨by rw [hc]; rfl, fun k hk => ?_⟩
    simp only [cellsOf, List.length_singleton, Nat.lt_one_iff] at hk
    subst hk
    rw [hc]
    exact ⟨.d h, hv⟩
  | undef | iff | tup => simp [cellsOf, allOne, oneOk] at ho
  | ptr h => exact ⟨rfl, fun k hk => by simp only [cellsOf, List.length_singleton, Nat.lt_one_iff] at hk; subst hk; exact ⟨.ptr h, rfl⟩⟩
  | pe h => exact ⟨rfl, fun k hk => by simp only [cellsOf, List.length_singleton, Nat.lt_one_iff] at hk; subst hk; exact ⟨.pe h, rfl⟩⟩
  | el a val h1 h2 h3 h4 h5 => exact ⟨rfl, fun k hk => by simp only [cellsOf, List.length_singleton, Nat.lt_one_iff] at hk; subst hk; exact ⟨.el a val h1 h2 h3 h4 h5, rfl⟩⟩
  | ms c e m h1 h2 h3 h4 => exact ⟨rfl, fun k hk => by simp only [cellsOf, List.length_singleton, Nat.lt_one_iff] at hk; subst hk; exact ⟨.ms c e m h1 h2 h3 h4, rfl⟩⟩
  | ms0 p h => exact ⟨rfl, fun k hk => by simp only [cellsOf, List.length_singleton, Nat.lt_one_iff] at hk; subst hk; exact ⟨.ms0 p h, rfl⟩⟩
  | msE p e m h h1 h2 h3 => exact ⟨rfl, fun k hk => by simp only [cellsOf, List.length_singleton, Nat.lt_one_iff] at hk; subst hk; exact ⟨.msE p e m h h1 h2 h3, rfl⟩⟩
  | mp h => exact ⟨rfl, fun k hk => by simp only [cellsOf, List.length_singleton, Nat.lt_one_iff] at hk; subst hk; exact ⟨.mp h, rfl⟩⟩
  | mc h q hv => subst hv; exact ⟨rfl, fun k hk => by simp only [cellsOf, List.length_singleton, Nat.lt_one_iff] at hk; subst hk; exact ⟨.mc h q rfl, rfl⟩⟩
  | @op b cs v hh h0 =>
    have hv : ∃ p, v = .pointer p := by
      cases b with
      | true => cases hh rfl with | el a => exact ⟨_, rfl⟩
      | false => exact ⟨_, h0 rfl⟩
    obtain ⟨p, rfl⟩ := hv
    exact ⟨rfl, fun k hk => by simp only [cellsOf, List.length_singleton, Nat.lt_one_iff] at hk; subst hk; exact ⟨.op hh h0, rfl⟩⟩
  | yld h => exact ⟨rfl, fun k hk => by simp only [cellsOf, List.length_singleton, Nat.lt_one_iff] at hk; subst hk; exact ⟨.yld h, rfl⟩⟩
  | clo ff cc h1 h2 h3 h4 => exact ⟨rfl, fun k hk => by simp only [cellsOf, List.length_singleton, Nat.lt_one_iff] at hk; subst hk; exact ⟨.clo ff cc h1 h2 h3 h4, rfl⟩⟩
def setRange {α : Type} (cs : List α) (off : Nat) (vs : List α) : List α := cs.take off ++ (vs ++ cs.drop (off + vs.length))
theorem setRange_length {α : Type} {cs vs : List α} {off : Nat} (h : off + vs.length ≤ cs.length) : (setRange cs off vs).length = cs.length := by
  simp [setRange]; omega
theorem setRange_getD {α : Type} {cs vs : List α} {off k : Nat} {d : α} (h : off + vs.length ≤ cs.length) : (setRange cs off vs).getD k d = if off ≤ k ∧ k < off + vs.length then vs.getD (k - off) d else cs.getD k d := by
  simp only [setRange, List.getD_eq_getElem?_getD, List.getElem?_append, List.length_take, List.getElem?_take, List.getElem?_drop]
  by_cases h1 : k < off
  · rw [if_pos (by omega), if_pos h1, if_neg (by omega)]
  · rw [if_neg (by omega)]
    have hm : min off cs.length = off := by omega
    rw [hm]
    by_cases h2 : k - off < vs.length
    · rw [if_pos h2, if_pos (by omega)]
    · rw [if_neg h2, if_neg (by omega)]
      congr 2; omega
theorem foldl_set (vs : Array Value) (off : Nat) (C : Array Value) (h : off + vs.size ≤ C.size) :
    (vs.zipIdx.foldl (fun cs (c, j) => cs.setIfInBounds (off + j) c) C).size = C.size ∧ ∀ k, (vs.zipIdx.foldl (fun cs (c, j) => cs.setIfInBounds (off + j) c) C).getD k Go.undef = if off ≤ k ∧ k < off + vs.size then vs.getD (k - off) Go.undef else C.getD k Go.undef := by
  have gen : ∀ (l : List Value) (i : Nat) (C : Array Value), off + i + l.length ≤ C.size →
      ((l.zipIdx i).foldl (fun (cs : Array Value) (p : Value × Nat) => cs.setIfInBounds (off + p.2) p.1) C).size = C.size ∧ ∀ k, ((l.zipIdx i).foldl (fun (cs : Array Value) (p : Value × Nat) => cs.setIfInBounds (off + p.2) p.1) C).getD k Go.undef = if off + i ≤ k ∧ k < off + i + l.length then l.getD (k - (off + i)) Go.undef else C.getD k Go.undef := by
    intro l
    induction l with
    | nil => intro i C _; exact ⟨rfl, fun k => by rw [if_neg (by simp only [List.length_nil]; omega)]; rfl⟩
    | cons x l ih =>
      intro i C hC
      simp only [List.zipIdx_cons, List.foldl_cons, List.length_cons] at hC ⊢
      obtain ⟨h1, h2⟩ := ih (i + 1) (C.setIfInBounds (off + i) x) (by simp; omega)
      refine ⟨by rw [h1]; simp, fun k => ?_⟩
      rw [h2, R_setIfInBounds (w := default) (j := []) (by omega)]
      by_cases hk : off + i = k
      · subst hk
        rw [if_neg (by omega), if_pos rfl, if_pos (by omega)]; simp
      · rw [if_neg hk]
        by_cases hk2 : off + (i + 1) ≤ k ∧ k < off + (i + 1) + l.length
        · rw [if_pos hk2, if_pos (by omega), show k - (off + i) = (k - (off + (i + 1))) + 1 by omega]; simp
        · rw [if_neg hk2, if_neg (by omega)]
  have := gen vs.toList 0 C (by simpa using h)
  rw [← Array.foldl_toList]
  simp only [Array.toList_zipIdx, Nat.add_zero, Array.length_toList] at this ⊢
  refine ⟨this.1, fun k => ?_⟩
  rw [this.2 k]
  simp [Array.getD_eq_getD_getElem?, List.getD_eq_getElem?_getD]
def fillA (places : List (Nat × Nat)) (cells : List AV) : List (Nat × AV) → Option (List AV)
  | [] => some cells
  | (i, v) :: rest => match places[i]? with
    | some (off, size) => if allOne (cellsOf v) && Nat.beq (cellsOf v).length size && Nat.ble (off + size) cells.length then fillA places (setRange cells off (cellsOf v)) rest else none
    | none => none
theorem fill_sound {w : World} {j : Js} {places : List (Nat × Nat)} {pl : Nat → Option (Nat × Nat)} (hp : ∀ i x, places[i]? = some x → pl i = some x) : ∀ {parts : List (Nat × AV)} {vals : List (Nat × Value)} {cells r : List AV} {C : Array Value},
    C.size = cells.length → (∀ k, k < cells.length → R w j (cells.getD k .undef) (C.getD k Go.undef)) → parts.length = vals.length → (∀ k, k < parts.length → (parts.getD k (0, .undef)).1 = (vals.getD k (0, Go.undef)).1 ∧ R w j (parts.getD k (0, .undef)).2 (vals.getD k (0, Go.undef)).2) →
    fillA places cells parts = some r → ∃ C', Instr.fill pl C vals = some C' ∧ C'.size = r.length ∧ r.length = cells.length ∧ ∀ k, k < r.length → R w j (r.getD k .undef) (C'.getD k Go.undef)
  | [], [], cells, r, C, h1, h2, _, _, h5 => by
    simp only [fillA, Option.some.injEq] at h5
    subst h5
    exact ⟨C, rfl, h1, rfl, h2⟩
  | [], _ :: _, _, _, _, _, _, h3, _, _ => by simp at h3
  | _ :: _, [], _, _, _, _, _, h3, _, _ => by simp at h3
  | (i, v) :: parts, (i', u) :: vals, cells, r, C, h1, h2, h3, h4, h5 => by
    have h0 := h4 0 (by simp)
    simp at h0
    obtain ⟨rfl, hvu⟩ := h0
    simp only [fillA] at h5
    split at h5
    · rename_i off size hpl
      split at h5
      · rename_i hc
        simp only [Bool.and_eq_true, Nat.ble_eq] at hc
        obtain ⟨⟨hone, hsz⟩, hle⟩ := hc
        have hsz := Nat.eq_of_beq_eq_true hsz
        subst hsz
        obtain ⟨hus, hur⟩ := cellsOf_rel hvu hone
        have hf := foldl_set u.cells off C (by omega)
        have hlen := setRange_length (cs := cells) (vs := cellsOf v) (off := off) hle
        obtain ⟨C', g1, g2, g3, g4⟩ := fill_sound (w := w) (j := j) hp (parts := parts) (vals := vals) (cells := setRange cells off (cellsOf v)) (r := r) (C := u.cells.zipIdx.foldl (fun cs (c, j) => cs.setIfInBounds (off + j) c) C)
          (by rw [hf.1, hlen, h1]) (fun k hk => by
            rw [hf.2, setRange_getD hle, hus]
            rw [hlen] at hk
            split
            · exact (hur _ (by omega)).1
            · exact h2 k hk) (by simpa using h3) (fun k hk => by have := h4 (k + 1) (by simpa using hk); simpa using this) h5
        refine ⟨C', ?_, g2, by rw [g3, hlen], g4⟩
        simp only [Instr.fill, hp _ _ hpl]
        rw [if_neg (by simp; omega)]
        exact g1
      · simp at h5
    · simp at h5
def placesA (P : Program) (t : TypeId) : Option (List (Nat × Nat) × List Value) :=
  match P.info? t with
  | some i => match i.zero with
    | some z => match P.underlying t with
      | some (.struct fs) => match fs.toList.mapM (fun f => (P.info? f.type).map fun i => (f.offset, i.size)) with
        | some ps => some (ps, z.cells.toList)
        | none => none
      | some (.array n e) => match P.info? e with
        | some ie => some ((List.range n).map fun k => (k * ie.size, ie.size), z.cells.toList)
        | none => none
      | _ => none
    | none => none
  | none => none
theorem mapM_places {P : Program} {w : World} : ∀ {fs : List Field} {ps : List (Nat × Nat)}, fs.mapM (fun f => (P.info? f.type).map fun i => (f.offset, i.size)) = some ps → (fs.mapM (fun f => do pure (f.offset, ← Go.sizeOf f.type) : Field → Sem (Nat × Nat))).run P w = .ok ps w
  | [], ps, h => by simp at h; subst h; simp
  | f :: fs, ps, h => by
    rw [List.mapM_cons] at h
    cases hi : P.info? f.type with
    | none => simp [hi] at h
    | some i =>
      cases hq : fs.mapM (fun f => (P.info? f.type).map fun i => (f.offset, i.size)) with
      | none => simp [hi, hq] at h
      | some qs =>
      simp [hi, hq] at h
      subst h
      have hsz : (do pure (f.offset, ← Go.sizeOf f.type) : Sem (Nat × Nat)).run P w = .ok (f.offset, i.size) w := by simp [Go.sizeOf, typeInfo, hi]
      rw [List.mapM_cons, Sem.run_bind, hsz]
      simp only [Result.andThen_ok, Sem.run_bind, mapM_places hq, Sem.run_pure]
def buildA (P : Program) (t : TypeId) (parts : List (Nat × AV)) (K : AV → Prop) : Prop :=
  match placesA P t with
  | some (ps, z) => (match fillA ps (z.map fun v => .d (.v v)) parts with
    | some r => K (.agg r)
    | none => False)
  | none => False
theorem build_run {P : Program} {t : TypeId} {w : World} {j : Js} {parts : List (Nat × AV)} {vals : List (Nat × Value)} (h3 : parts.length = vals.length) (h4 : ∀ k, k < parts.length → (parts.getD k (0, .undef)).1 = (vals.getD k (0, Go.undef)).1 ∧ R w j (parts.getD k (0, .undef)).2 (vals.getD k (0, Go.undef)).2)
    {ps : List (Nat × Nat)} {z : List Value} (hp : placesA P t = some (ps, z)) {r : List AV} (hr : fillA ps (z.map fun v => .d (.v v)) parts = some r) :
    ∃ v, (Instr.build t vals.toArray).run P w = .ok v w ∧ R w j (.agg r) v := by
  unfold placesA at hp
  split at hp
  · rename_i i hi
    split at hp
    · rename_i zz hz
      have hzc : ∀ (C : Array Value), C.toList = z → C.size = (z.map fun v => AV.d (.v v)).length ∧ ∀ k, k < (z.map fun v => AV.d (.v v)).length → R w j ((z.map fun v => AV.d (.v v)).getD k .undef) (C.getD k Go.undef) := by
        intro C hC
        subst hC
        refine ⟨by simp, fun k hk => ?_⟩
        simp only [List.length_map, Array.length_toList] at hk
        have h1 : (C.toList.map fun c => AV.d (.v c)).getD k .undef = AV.d (.v (C.getD k Go.undef)) := by
          simp [List.getD_eq_getElem?_getD, hk, Array.getD_eq_getD_getElem?]
        rw [h1]; exact .d (.v _)
      split at hp
      · rename_i fs hu
        split at hp
        · rename_i qs hq
          simp only [Option.some.injEq, Prod.mk.injEq] at hp
          obtain ⟨rfl, hz2⟩ := hp
          obtain ⟨g1, g2⟩ := hzc zz.cells hz2
          obtain ⟨C', f1, f2, f3, f4⟩ := fill_sound (w := w) (j := j) (places := qs) (pl := (qs.toArray[·]?)) (fun i x hx => by simpa using hx) g1 g2 h3 h4 hr
          refine ⟨.agg C', ?_, .agg C' f2 f4⟩
          have hm : (fs.mapM (fun f => do pure (f.offset, ← Go.sizeOf f.type) : Field → Sem (Nat × Nat))).run P w = .ok qs.toArray w := by
            rw [← Array.toArray_toList (xs := fs), List.mapM_toArray, Sem.run_map, mapM_places hq]; rfl
          unfold Instr.build
          simp only [Sem.run_bind, zeroValue, typeInfo, run_program, Result.andThen_ok, hi, hz, Sem.run_pure, underlying, hu, hm, List.toList_toArray, f1]
        · simp at hp
      · rename_i n e hu
        split at hp
        · rename_i ie hie
          simp only [Option.some.injEq, Prod.mk.injEq] at hp
          obtain ⟨rfl, hz2⟩ := hp
          obtain ⟨g1, g2⟩ := hzc zz.cells hz2
          obtain ⟨C', f1, f2, f3, f4⟩ := fill_sound (w := w) (j := j) (pl := fun i => some (i * ie.size, ie.size)) (fun i x hx => by
            simp only [List.getElem?_map, Option.map_eq_some_iff] at hx
            obtain ⟨q, hq, rfl⟩ := hx
            have := List.getElem?_eq_some_iff.1 hq
            obtain ⟨hlt, he⟩ := this
            simp at he
            rw [he]) g1 g2 h3 h4 hr
          refine ⟨.agg C', ?_, .agg C' f2 f4⟩
          unfold Instr.build
          simp only [Sem.run_bind, zeroValue, typeInfo, run_program, Result.andThen_ok, hi, hz, Sem.run_pure, underlying, hu, Go.sizeOf, hie, List.toList_toArray, f1]
        · simp at hp
      · simp at hp
    · simp at hp
  · simp at hp
def partsA (g : Bool) (s : St) : List (Nat × Operand) → (List (Nat × AV) → Prop) → Prop
  | [], K => K []
  | (i, x) :: xs, K => arg g s x fun a => partsA g s xs fun as => K ((i, a) :: as)
theorem partsA_sound {g : Bool} {s : St} : ∀ {xs : List (Nat × Operand)} {K : List (Nat × AV) → Prop}, partsA g s xs K → ∃ ps, K ps ∧ ps.length = xs.length ∧ ∀ k, k < xs.length → (ps.getD k (0, .undef)).1 = (xs.getD k (0, .const Go.undef)).1 ∧ Arg g s (xs.getD k (0, .const Go.undef)).2 (ps.getD k (0, .undef)).2
  | [], K, h => ⟨[], h, rfl, by simp⟩
  | (i, x) :: xs, K, h => by
    obtain ⟨av, h1, h2⟩ := arg_sound h
    obtain ⟨avs, h3, h4, h5⟩ := partsA_sound h1
    refine ⟨(i, av) :: avs, h3, by simp [h4], fun k hk => ?_⟩
    cases k with
    | zero => exact ⟨by simp, by simpa using h2⟩
    | succ k => simpa using h5 k (by simpa using hk)
theorem build_sound {P : Program} {g : Bool} {s : St} {t : TypeId} {ps : Array (Nat × Operand)} {K : AV → Prop} (h : partsA g s ps.toList fun parts => buildA P t parts K) : ∃ av, K av ∧ Yld P g s (.build t ps) av := by
  obtain ⟨parts, h, hl, hp⟩ := partsA_sound h
  unfold buildA at h
  split at h
  · rename_i pl z hpl
    split at h
    · rename_i r hr
      refine ⟨_, h, fun hg j0 j a w o ho hrel => ?_⟩
      obtain ⟨v, h1, h2⟩ := build_run (P := P) (w := w) (j := j) (t := t) (parts := parts) (vals := ps.toList.map fun p => (p.1, a.eval p.2)) (by simpa using hl) (fun k hk => by
        have hk' : k < ps.toList.length := by rw [← hl]; exact hk
        have := hp k hk'
        have e : (ps.toList.map fun p => (p.1, a.eval p.2)).getD k (0, Go.undef) = ((ps.toList.getD k (0, .const Go.undef)).1, a.eval (ps.toList.getD k (0, .const Go.undef)).2) := by
          have hk2 : k < ps.size := by simpa using hk'
          simp [List.getD_eq_getElem?_getD, hk2]
        rw [e]
        exact ⟨this.1, this.2 hg j0 j a w hrel⟩) hpl hr
      refine ⟨v, ?_, h2⟩
      have e : (ps.toList.map fun p => (p.1, a.eval p.2)).toArray = ps.map fun (i, x) => (i, a.eval x) := by
        apply Array.ext'; simp
      rw [e] at h1
      simp only [execOp, ho]
      exact run_v h1
    · exact h.elim
  · exact h.elim
end Go.Abs

/-! Ah -/
namespace Go.Abs
set_option linter.unusedVariables false
set_option linter.unusedSimpArgs false
theorem avoids_nil (av : AV) : av.avoids [] = true := by
  induction av using AV.rec (motive_2 := fun l => avoidsL [] l = true) <;> simp_all [AV.avoids, avoidsL]
theorem R.mono0 {j j' : Js} {w w' : World} (he : Ev j w j' w') (hl : ∀ b cb : Nat, j[b]? = some (some cb) → cb < w.heap.size) (hag : Ag j j' []) {av : AV} {v : Value} (h : R w j av v) : R w' j' av v :=
  h.mono he hl hag (avoids_nil av)
theorem free_avoids (X : List Nat) (av : AV) : av.free = true → av.avoids X = true := by
  induction av using AV.rec (motive_2 := fun l => freeL l = true → avoidsL X l = true) with
  | iff b x ih => intro h; cases b with
    | false => rfl
    | true => simpa [AV.avoids] using ih (by simpa [AV.free] using h)
  | agg cs ih => intro h; exact ih h
  | tup cs ih => intro h; exact ih h
  | clo fn fs cs ih1 ih2 =>
    intro h
    simp only [AV.free, Bool.and_eq_true] at h
    simp only [AV.avoids, ih1 h.1, ih2 h.2]; rfl
  | cons x xs ih1 ih2 =>
    rename_i h
    simp only [freeL, Bool.and_eq_true] at h
    simp only [avoidsL, ih1 h.1, ih2 h.2]; rfl
  | nil => rfl
  | ptr b o => intro h; cases h
  | pe b s i k => intro h; cases h
  | ms b s l n => intro h; cases h
  | mc b s l n c => intro h; cases h
  | mp b => intro h; cases h
  | yld b => intro h; cases h
  | _ => intro _; rfl
theorem R.freeM {j j' : Js} {w w' : World} (he : Ev j w j' w') (hl : ∀ b cb : Nat, j[b]? = some (some cb) → cb < w.heap.size) {av : AV} {v : Value} (h : R w j av v) (hf : av.free = true) : R w' j' av v :=
  h.mono he hl (X := List.range j.length) (fun b hb hn => absurd (List.mem_range.2 hb) hn) (free_avoids _ av hf)
theorem MapIs.mono {j j' : Js} {w w' : World} (he : Ev j w j' w') (hl : ∀ b cb : Nat, j[b]? = some (some cb) → cb < w.heap.size) {es : Array MapEntry} {cl : Nat} {d : Bool} {ks : List Key} {f : Key → AV} (h : MapIs w j es cl d ks f) : MapIs w' j' es cl d ks f :=
  ⟨h.stamped, h.keys, h.kind, h.free, fun e hm k hk => (h.rel e hm k hk).freeM he hl (h.free k)⟩
theorem IterIs.mono {j j' : Js} {w w' : World} (he : Ev j w j' w') (hl : ∀ b cb : Nat, j[b]? = some (some cb) → cb < w.heap.size) {mb : Nat} {es : Array MapEntry} {cl : Nat} {seen : Array Nat} {left : List Key} {cur : Option Key} {f : Key → AV} (h : IterIs w j mb es cl seen left cur f) : IterIs w' j' mb es cl seen left cur f :=
  ⟨Nat.lt_of_lt_of_le h.lt he.size, fun hm => h.own (he.sub _ h.lt hm), by rw [he.keep _ h.lt h.own]; exact h.heap, h.stamped, h.keys, h.cur, h.free, fun e hm k hk => (h.rel e hm k hk).freeM he hl (h.free k)⟩
theorem RB.mono {j j' : Js} {w w' : World} (he : Ev j w j' w') (hl : ∀ b cb : Nat, j[b]? = some (some cb) → cb < w.heap.size) (hag : Ag j j' []) {x : Blk} {o : Option Nat} (h : RB w j x o) (ho : ∀ cb, o = some cb → w'.heap[cb]? = w.heap[cb]?) : RB w' j' x o := by
  cases x with
  | dead => trivial
  | loc c =>
    obtain ⟨h1, h2, h3, m, h4⟩ := h
    exact ⟨h1, Nat.lt_of_lt_of_le h2 he.size, fun hm => h3 (he.sub _ h2 hm), m, (cell_eq (a := ⟨c, 0, none⟩) (he.keep c h2 h3)).trans h4⟩
  | tab c vs =>
    obtain ⟨h1, h2, h3, e, h4, h5⟩ := h
    exact ⟨h1, Nat.lt_of_lt_of_le h2 he.size, fun hm => h3 (he.sub _ h2 hm), e, (he.shp c h2).trans h4, fun i => (cell_eq (a := ⟨c, i, none⟩) (he.keep c h2 h3)).trans (h5 i)⟩
  | var cs =>
    cases o with
    | none => exact h
    | some cb =>
      obtain ⟨C, e, h1, h2, h3⟩ := h
      exact ⟨C, e, by rw [ho cb rfl, h1], h2, fun k hk => (h3 k hk).mono0 he hl hag⟩
  | arr sz n row =>
    cases o with
    | none => exact h
    | some cb =>
      obtain ⟨C, e, h1, h2, h3⟩ := h
      exact ⟨C, e, h1.at (ho cb rfl), h2, fun i hi => ⟨(h3 i hi).1, fun k hk => ((h3 i hi).2 k hk).mono he⟩⟩
  | lp L st pd =>
    cases o with
    | none => exact h
    | some cb =>
      obtain ⟨r, h1, h2, h3, h4⟩ := h
      exact ⟨r, by rw [ho cb rfl, h1], h2, h3, fun k av hk => ⟨(h4 k av hk).1, (h4 k av hk).2.mono0 he hl hag⟩⟩
  | mp d ks f =>
    cases o with
    | none => exact h
    | some cb =>
      obtain ⟨es, cl, h1, h2⟩ := h
      exact ⟨es, cl, by rw [ho cb rfl, h1], h2.mono he hl⟩
  | it left cur f =>
    cases o with
    | none => exact h
    | some cb =>
      obtain ⟨mb, es, cl, seen, h1, h2⟩ := h
      exact ⟨mb, es, cl, seen, by rw [ho cb rfl, h1], h2.mono he hl⟩
theorem heap_push_old (w : World) (o : Obj) {i : Nat} (h : i < w.heap.size) : (w.alloc o).heap[i]? = w.heap[i]? := by
  show (w.heap.push o)[i]? = _
  rw [Array.getElem?_push, if_neg (by omega)]
theorem ev_allocN (j j' : Js) (w : World) (ob : Obj) (hj : ∀ b, b < w.heap.size → some b ∈ j' → some b ∈ j) : Ev j w j' (w.alloc ob) where
  size := by simp
  keep b hb _ := heap_push_old w _ hb
  sub := hj
  shp b hb := by simp [World.shape?, heap_push_old w _ hb]
  frz a ha := by simp [World.frozen?, heap_push_old w _ ha]
  os := rfl
  tape := rfl
  output := rfl
  lps b r hb := ⟨r, by rw [heap_push_old w _ (Array.getElem?_eq_some_iff.1 hb).1]; exact hb⟩
theorem ev_alloc (j j' : Js) (w : World) (C : Array Value) (t : TypeId) (hj : ∀ b, b < w.heap.size → some b ∈ j' → some b ∈ j) : Ev j w j' (w.alloc (.cells C t)) := ev_allocN j j' w _ hj
theorem ag_append (j : Js) (o : Option Nat) : Ag j (j ++ [o]) [] := by
  intro b hb _
  rw [List.getElem?_append_left hb]
theorem RelS.allocN {w : World} {j : Js} {σ : List Blk} (h : RelS w j σ) (ob : Obj) (x : Blk)
    (hx : RB (w.alloc ob) (j ++ [some w.heap.size]) x (some w.heap.size)) :
    RelS (w.alloc ob) (j ++ [some w.heap.size]) (σ ++ [x]) ∧ Ev j w (j ++ [some w.heap.size]) (w.alloc ob) := by
  have he : Ev j w (j ++ [some w.heap.size]) (w.alloc ob) := ev_allocN _ _ _ _ (fun b hb hm => by
    simp at hm
    rcases hm with hm | hm
    · exact hm
    · omega)
  refine ⟨⟨by simp [h.len], fun b cb hb => ?_, fun b b' cb hb hb' => ?_, fun b y hy => ?_⟩, he⟩
  · rw [List.getElem?_append] at hb
    split at hb
    · have := h.lt b cb hb; simp; omega
    · rw [List.getElem?_singleton] at hb
      split at hb <;> simp at hb
      simp; omega
  · have key : ∀ q : Nat, (j ++ [some w.heap.size])[q]? = some (some cb) → (j[q]? = some (some cb) ∧ cb < w.heap.size) ∨ (q = j.length ∧ cb = w.heap.size) := by
      intro q hq
      rw [List.getElem?_append] at hq
      split at hq
      · exact .inl ⟨hq, h.lt q cb hq⟩
      · rw [List.getElem?_singleton] at hq
        split at hq <;> simp at hq
        exact .inr ⟨by omega, hq.symm⟩
    rcases key b hb with h1 | h1 <;> rcases key b' hb' with h2 | h2
    · exact h.inj b b' cb h1.1 h2.1
    · omega
    · omega
    · omega
  · rw [List.getElem?_append] at hy
    split at hy
    · obtain ⟨o, ho, hB⟩ := h.blk b y hy
      have hbl : b < j.length := by rw [h.len]; assumption
      refine ⟨o, by rw [List.getElem?_append_left hbl]; exact ho, hB.mono he h.lt (ag_append _ _) fun cb hcb => ?_⟩
      subst hcb
      exact heap_push_old w _ (h.lt b cb ho)
    · rw [List.getElem?_singleton] at hy
      split at hy <;> simp at hy
      subst hy
      refine ⟨some w.heap.size, ?_, hx⟩
      rw [List.getElem?_append_right (by rw [h.len]; omega), List.getElem?_singleton, if_pos (by rw [h.len]; omega)]
theorem RelS.alloc {w : World} {j : Js} {σ : List Blk} (h : RelS w j σ) (C : Array Value) (t : TypeId) (x : Blk)
    (hx : RB (w.alloc (.cells C t)) (j ++ [some w.heap.size]) x (some w.heap.size)) :
    RelS (w.alloc (.cells C t)) (j ++ [some w.heap.size]) (σ ++ [x]) ∧ Ev j w (j ++ [some w.heap.size]) (w.alloc (.cells C t)) := h.allocN _ x hx
def St.newVar (s : St) (cs : List AV) : St := { s with σ := s.σ ++ [.var cs] }
theorem Rel.newVar {j0 : J0} {j : Js} {s : St} {a : Act} {w : World} (h : Rel j0 s j a w) (C : Array Value) (t : TypeId) {cs : List AV} (hs : C.size = cs.length) (hc : ∀ k, k < cs.length → R w j (cs.getD k .undef) (C.getD k Go.undef)) :
    Rel j0 (s.newVar cs) (j ++ [some w.heap.size]) a (w.alloc (.cells C t)) ∧ Ev j w (j ++ [some w.heap.size]) (w.alloc (.cells C t)) ∧ R (w.alloc (.cells C t)) (j ++ [some w.heap.size]) (.ptr s.σ.length 0) (.pointer (some ⟨w.heap.size, 0, none⟩)) := by
  have he : Ev j w (j ++ [some w.heap.size]) (w.alloc (.cells C t)) := ev_alloc _ _ _ _ _ (fun b hb hm => by
    simp at hm
    rcases hm with hm | hm
    · exact hm
    · omega)
  obtain ⟨h1, h2⟩ := h.sto.alloc C t (.var cs) ⟨C, t, heap_alloc_new w _, hs, fun k hk => (hc k hk).mono0 he h.sto.lt (ag_append _ _)⟩
  refine ⟨?_, h2, .ptr ?_⟩
  · have := h.after h2 h1 (by simp) (ag_append _ _)
    exact this
  · rw [List.getElem?_append_right (by rw [h.sto.len]; omega)]
    simp [h.sto.len]
/-! stores -/
def asDs : List AV → Option (List D)
  | [] => some []
  | .d x :: xs => (asDs xs).map (x :: ·)
  | .clo fn [] [] :: xs => (asDs xs).map (.v (.func fn #[] #[]) :: ·)
  | _ => none
theorem R_clo0 {w : World} {j : Js} {fn : Fn} {v : Value} (h : R w j (.clo fn [] []) v) : v = .func fn #[] #[] := by
  cases h with
  | clo ff cc h1 h2 h3 h4 =>
    have e1 : ff = #[] := Array.eq_empty_of_size_eq_zero h1
    have e2 : cc = #[] := Array.eq_empty_of_size_eq_zero h2
    rw [e1, e2]
theorem asDs_spec : ∀ {vs : List AV} {ds : List D}, asDs vs = some ds → ds.length = vs.length ∧ ∀ {w : World} {j : Js} {k : Nat} {v : Value}, k < vs.length → R w j (vs.getD k .undef) v → RD w j (ds.getD k default) v := by
  intro vs
  induction vs with
  | nil => intro ds h; simp [asDs] at h; subst h; simp
  | cons x xs ih =>
    intro ds h
    have main : ∀ (d : D), (∀ {w : World} {j : Js} {v : Value}, R w j x v → RD w j d v) → (asDs xs).map (d :: ·) = some ds → ds.length = (x :: xs).length ∧ ∀ {w : World} {j : Js} {k : Nat} {v : Value}, k < (x :: xs).length → R w j ((x :: xs).getD k .undef) v → RD w j (ds.getD k default) v := by
      intro d hd h
      simp only [Option.map_eq_some_iff] at h
      obtain ⟨ys, h1, h2⟩ := h
      subst h2
      obtain ⟨h3, h4⟩ := ih h1
      refine ⟨by simp [h3], fun {w j k v} hk hr => ?_⟩
      cases k with
      | zero => exact hd (by simpa using hr)
      | succ k => exact h4 (by simpa using hk) (by simpa using hr)
    unfold asDs at h
    split at h
    · rename_i he; cases he
    · rename_i he; cases he
      exact main _ (fun hr => by cases hr with | d h => exact h) h
    · rename_i he; cases he
      exact main _ (fun hr => by rw [R_clo0 hr]; exact .v _) h
    · simp at h
def storeBlk (σ : List Blk) (p : AV) (vs : List AV) : Option (Prop × List Blk) :=
  match p with
  | .ptr b off => match σ[b]? with
    | some (.var cs) => if Nat.ble (off + vs.length) cs.length then some (True, σ.set b (.var (setRange cs off vs))) else none
    | _ => none
  | .pe b sz i k => match σ[b]? with
    | some (.arr sz' n row) => if Nat.beq sz sz' && Nat.ble (k + vs.length) sz then (match asDs vs with
      | some ds => some (i < n, σ.set b (.arr sz n fun q => if q = i then setRange (row i) k ds else row q))
      | none => none) else none
    | _ => none
  | _ => none
theorem shape_setRow {w : World} {g : Nat} {C C' : Array Value} {e : TypeId} {f : Nat × Nat} (hg : w.heap[g]? = some (.cells C e f)) (hs : C'.size = C.size) (b : Nat) : (w.setRow g C').shape? b = w.shape? b := by
  by_cases h : b = g
  · subst h
    simp [World.shape?, setRow_heap w b C C' e f hg, hg, hs]
  · simp [World.shape?, setRow_other w g b C' h]
theorem frozen_setRow {w : World} {g : Nat} {C C' : Array Value} {e : TypeId} {f : Nat × Nat} (hg : w.heap[g]? = some (.cells C e f)) (a : Addr) : (w.setRow g C').frozen? a = w.frozen? a := by
  by_cases h : a.block = g
  · subst h
    simp [World.frozen?, setRow_heap w _ C C' e f hg, hg]
  · simp [World.frozen?, setRow_other w g a.block C' h]
theorem ev_setRow {j : Js} {w : World} {g : Nat} {C C' : Array Value} {e : TypeId} {f : Nat × Nat} (hg : w.heap[g]? = some (.cells C e f)) (hs : C'.size = C.size) (hj : some g ∈ j) : Ev j w j (w.setRow g C') where
  size := by simp
  keep b _ hn := setRow_other w g b C' (fun he => hn (he ▸ hj))
  sub _ _ h := h
  shp b _ := shape_setRow hg hs b
  frz a _ := frozen_setRow hg a
  os := rfl
  tape := rfl
  output := rfl
  lps b r hb := ⟨r, by rw [setRow_other w g b C' (fun he => by subst he; rw [hg] at hb; cases hb)]; exact hb⟩
theorem run_storeCells_ok {P : Program} (g o : Nat) (t : TypeId) (f : Nat × Nat) : ∀ (vs : List Value) (i : Nat) (cur : Array Value) (w : World), w.heap[g]? = some (.cells cur t f) → (cur.size ≤ f.1 ∨ f = (0, 0)) → o + i + vs.length ≤ cur.size → (∀ v ∈ vs, v.oneCell' = true) →
    (storeCells ⟨g, o, none⟩ vs i).run P w = .ok () (w.setRow g (cur.toList.take (o + i) ++ vs ++ cur.toList.drop (o + i + vs.length)).toArray)
  | [], i, cur, w, hg, _, _, _ => by
    simp only [storeCells, List.append_nil, List.length_nil, Nat.add_zero, List.take_append_drop, Array.toArray_toList]
    rw [setRow_self w g cur t f hg]
    rfl
  | v :: rest, i, cur, w, hg, hf, hl, h1 => by
    have hi : o + i < cur.size := by simp at hl; omega
    have hadd : (⟨g, o, none⟩ : Addr).add i = ⟨g, o + i, none⟩ := by unfold Addr.add; split <;> simp_all
    have hcell : w.cell? ⟨g, o + i, none⟩ = some cur[o + i] := by simp [World.cell?, hg, hi]
    have hfro : w.frozen? ⟨g, o + i, none⟩ = false := by
      obtain ⟨lo, hi'⟩ := f
      simp only [World.frozen?, hg, Bool.and_eq_false_iff, decide_eq_false_iff_not]
      rcases hf with hf | hf
      · left; simp only at hf; omega
      · simp only [Prod.mk.injEq] at hf; right; omega
    have hst : (store ((⟨g, o, none⟩ : Addr).add i) v).run P w = .ok () (w.setRow g (cur.setIfInBounds (o + i) v)) := by
      rw [hadd, run_store P w _ v _ (h1 v (by simp)), hcell]
      simp [hfro, setCell_eq_setRow w g (o + i) cur t f v hg]
    have hrest := run_storeCells_ok (P := P) g o t f rest (i + 1) (cur.setIfInBounds (o + i) v) (w.setRow g (cur.setIfInBounds (o + i) v)) (setRow_heap w g cur _ t _ hg) (by simpa using hf) (by simp at hl ⊢; omega) (fun x hx => h1 x (by simp [hx]))
    simp only [storeCells, Sem.run_bind, hst, Result.andThen_ok, hrest, setRow_setRow]
    congr 3
    have hstep := list_seg_step cur.toList (o + i) v rest (by simp at hl ⊢; omega)
    simpa [Array.toList_setIfInBounds, Nat.add_assoc] using hstep
theorem RelS.setRow {w : World} {j : Js} {σ : List Blk} (h : RelS w j σ) {b g : Nat} (hb : j[b]? = some (some g)) {C C' : Array Value} {e : TypeId} {f : Nat × Nat} (hg : w.heap[g]? = some (.cells C e f)) (hs : C'.size = C.size) {x : Blk}
    (hx : RB (w.setRow g C') j x (some g)) : RelS (w.setRow g C') j (σ.set b x) ∧ Ev j w j (w.setRow g C') := by
  have he : Ev j w j (w.setRow g C') := ev_setRow hg hs (List.mem_of_getElem? hb)
  refine ⟨⟨by simp [h.len], fun b cb hb => by have := h.lt b cb hb; simpa using this, h.inj, fun b' y hy => ?_⟩, he⟩
  rw [List.getElem?_set] at hy
  split at hy
  · rename_i hbb
    split at hy <;> simp at hy
    subst hbb hy
    exact ⟨_, hb, hx⟩
  · rename_i hbb
    obtain ⟨o, ho, hB⟩ := h.blk b' y hy
    refine ⟨o, ho, hB.mono he h.lt (.refl _ _) fun cb hcb => ?_⟩
    subst hcb
    exact setRow_other w g cb C' (fun hc => hbb (h.inj b b' g hb (hc ▸ ho)))
theorem setRow_getD {C : Array Value} {vs : List Value} {off k : Nat} (h : off + vs.length ≤ C.size) : ((C.toList.take off ++ vs ++ C.toList.drop (off + vs.length)).toArray).getD k Go.undef = if off ≤ k ∧ k < off + vs.length then vs.getD (k - off) Go.undef else C.getD k Go.undef := by
  have := setRange_getD (cs := C.toList) (vs := vs) (off := off) (k := k) (d := Go.undef) (by simpa using h)
  simp only [setRange] at this
  rw [← List.append_assoc] at this
  rw [Array.getD_eq_getD_getElem?, List.getElem?_toArray, ← List.getD_eq_getElem?_getD, this]
  simp [List.getD_eq_getElem?_getD, Array.getD_eq_getD_getElem?]
theorem store_sound {P : Program} {w : World} {j : Js} {σ : List Blk} (hS : RelS w j σ) {t : TypeId} {agg : Bool} {m : Nat} (ht : tyA P t = some (agg, m)) {p v : AV} {pv vv : Value} (hp : R w j p pv) (hv : R w j v vv) (hone : allOne (cellsOf v) = true) (hlen : (cellsOf v).length = m)
    {side : Prop} {σ' : List Blk} (hst : storeBlk σ p (cellsOf v) = some (side, σ')) (hside : side) :
    ∃ w', (Instr.storeAt t pv vv).run P w = .ok () w' ∧ RelS w' j σ' ∧ Ev j w j w' := by
  obtain ⟨hcs, hcr⟩ := cellsOf_rel hv hone
  have hone' : ∀ u ∈ vv.cells.toList, u.oneCell' = true := by
    intro u hu
    obtain ⟨k, hk, rfl⟩ := List.getElem_of_mem hu
    simp only [Array.length_toList] at hk
    have := (hcr k (by omega)).2
    simpa [Array.getD_eq_getD_getElem?, hk] using this
  have hrun : ∀ (g o : Nat) (C : Array Value) (e : TypeId) (f : Nat × Nat), w.heap[g]? = some (.cells C e f) → (C.size ≤ f.1 ∨ f = (0, 0)) → o + m ≤ C.size → pv = .pointer (some ⟨g, o, none⟩) →
      (Instr.storeAt t pv vv).run P w = .ok () (w.setRow g (C.toList.take o ++ vv.cells.toList ++ C.toList.drop (o + vv.cells.toList.length)).toArray) := by
    intro g o C e f hg hf ho hpv
    have h1 := run_storeCells_ok (P := P) g o e f vv.cells.toList 0 C w hg hf (by simp; omega) hone'
    simp only [Nat.add_zero] at h1
    rw [hpv]
    have h2 : ¬ (vv.cells.size ≠ m) := by omega
    unfold Instr.storeAt
    simp only [Instr.sureAddr, Sem.run_bind, Sem.run_pure, Result.andThen_ok]
    unfold storeVar
    simp only [Sem.run_bind, tyA_sizeOf ht, Result.andThen_ok, h2, if_false, h1, Sem.run_pure]
  have hsz : ∀ (o : Nat) (C : Array Value), o + m ≤ C.size → (C.toList.take o ++ vv.cells.toList ++ C.toList.drop (o + vv.cells.toList.length)).toArray.size = C.size := by
    intro o C ho
    simp; omega
  have hval : ∀ (o : Nat) (C : Array Value) (k : Nat), o + m ≤ C.size → ((C.toList.take o ++ vv.cells.toList ++ C.toList.drop (o + vv.cells.toList.length)).toArray).getD k Go.undef = if o ≤ k ∧ k < o + m then vv.cells.getD (k - o) Go.undef else C.getD k Go.undef := by
    intro o C k ho
    rw [setRow_getD (by simp; omega)]
    simp only [Array.length_toList, hcs, hlen]
    split
    · simp [Array.getD_eq_getD_getElem?, List.getD_eq_getElem?_getD]
    · rfl
  unfold storeBlk at hst
  split at hst
  · rename_i b off
    split at hst
    · rename_i cs hb
      split at hst
      · rename_i hle
        simp only [Option.some.injEq, Prod.mk.injEq] at hst
        obtain ⟨rfl, rfl⟩ := hst
        simp only [Nat.ble_eq] at hle
        cases hp with
        | @ptr _ _ g hj =>
        obtain ⟨o, ho, hB⟩ := hS.blk b _ hb
        rw [hj] at ho
        cases ho
        obtain ⟨C, e, hC, hCs, hCr⟩ := hB
        refine ⟨_, hrun g off C e (0, 0) hC (.inr rfl) (by omega) rfl, ?_⟩
        have he := ev_setRow (j := j) hC (hsz off C (by omega)) (List.mem_of_getElem? hj)
        refine hS.setRow hj hC (hsz off C (by omega)) ⟨_, e, setRow_heap w g C _ e (0, 0) hC, ?_, fun k hk => ?_⟩
        · rw [hsz off C (by omega), setRange_length (by omega), hCs]
        · rw [setRange_length (by omega)] at hk
          rw [hval off C k (by omega), setRange_getD (by omega), hlen]
          split
          · exact ((hcr _ (by omega)).1).mono0 he hS.lt (.refl _ _)
          · exact (hCr k hk).mono0 he hS.lt (.refl _ _)
      · simp at hst
    · simp at hst
  · rename_i b sz i k
    split at hst
    · rename_i sz' n row hb
      split at hst
      · rename_i hle
        split at hst
        case h_2 => simp at hst
        rename_i ds hds
        obtain ⟨hdl0, hds⟩ := asDs_spec hds
        have hdl : ds.length = m := by rw [← hlen, hdl0]
        have hcr' : ∀ k, k < m → RD w j (ds.getD k default) (vv.cells.getD k Go.undef) := by
          intro k hk
          exact hds (by omega) (hcr k (by omega)).1
        simp only [Option.some.injEq, Prod.mk.injEq] at hst
        obtain ⟨rfl, rfl⟩ := hst
        simp only [Bool.and_eq_true, Nat.ble_eq] at hle
        have hsz' := Nat.eq_of_beq_eq_true hle.1
        subst hsz'
        cases hp with
        | @pe _ _ _ _ g hj =>
        obtain ⟨o, ho, hB⟩ := hS.blk b _ hb
        rw [hj] at ho
        cases ho
        obtain ⟨C, e, ⟨f, hC, hf⟩, hCs, hCr⟩ := hB
        have hbound : i * sz + sz ≤ n * sz := by
          have : (i + 1) * sz ≤ n * sz := Nat.mul_le_mul_right _ hside
          rwa [Nat.succ_mul] at this
        have hfit : i * sz + k + m ≤ C.size := by omega
        refine ⟨_, hrun g (i * sz + k) C e f hC hf hfit rfl, ?_⟩
        have he := ev_setRow (j := j) hC (hsz (i * sz + k) C hfit) (List.mem_of_getElem? hj)
        refine hS.setRow hj hC (hsz _ C hfit) ⟨_, e, ⟨f, setRow_heap w g C _ e f hC, by rw [hsz _ C hfit]; exact hf⟩, ?_, fun q hq => ?_⟩
        · rw [hsz _ C hfit]; exact hCs
        · have hrow := hCr q hq
          by_cases hqi : q = i
          · subst hqi
            simp only [if_true]
            refine ⟨by rw [setRange_length (by omega)]; exact hrow.1, fun c hc => ?_⟩
            rw [hval _ C _ hfit, setRange_getD (by omega), hdl]
            by_cases hin : k ≤ c ∧ c < k + m
            · rw [if_pos hin, if_pos (by omega), show q * sz + c - (q * sz + k) = c - k by omega]
              exact (hcr' _ (by omega)).mono he
            · rw [if_neg hin, if_neg (by omega)]
              exact (hrow.2 c hc).mono he
          · simp only [hqi, if_false]
            refine ⟨hrow.1, fun c hc => ?_⟩
            have hout : ¬ (i * sz + k ≤ q * sz + c ∧ q * sz + c < i * sz + k + m) := by
              rcases Nat.lt_or_gt_of_ne hqi with hlt | hlt
              · have : (q + 1) * sz ≤ i * sz := Nat.mul_le_mul_right _ hlt
                rw [Nat.succ_mul] at this
                omega
              · have : (i + 1) * sz ≤ q * sz := Nat.mul_le_mul_right _ hlt
                rw [Nat.succ_mul] at this
                omega
            rw [hval _ C _ hfit, if_neg hout]
            exact (hrow.2 c hc).mono he
      · simp at hst
    · simp at hst
  · simp at hst
end Go.Abs

/-! Aj -/
namespace Go.Abs
set_option linter.unusedVariables false
set_option linter.unusedSimpArgs false
def slB (P : Program) (t : TypeId) : Option (TypeId × Nat × Nat × List Value) :=
  match P.underlying t with
  | some (.slice e) => match P.info? e with
    | some i => match i.zero with
      | some z => if Nat.beq z.cells.size i.size then some (e, i.size, i.bytes, z.cells.toList) else none
      | none => none
    | none => none
  | _ => none
theorem slB_spec {P : Program} {t e : TypeId} {sz bytes : Nat} {z : List Value} (h : slB P t = some (e, sz, bytes, z)) :
    P.underlying t = some (.slice e) ∧ ∃ i zz, P.info? e = some i ∧ i.zero = some zz ∧ i.size = sz ∧ i.bytes = bytes ∧ zz.cells.toList = z ∧ zz.cells.size = sz := by
  unfold slB at h
  split at h
  · rename_i e' hu
    split at h
    · rename_i i hi
      split at h
      · rename_i zz hz
        split at h
        · rename_i hb
          simp only [Option.some.injEq, Prod.mk.injEq] at h
          obtain ⟨rfl, rfl, rfl, rfl⟩ := h
          exact ⟨hu, i, zz, hi, hz, rfl, rfl, rfl, Nat.eq_of_beq_eq_true hb⟩
        · simp at h
      · simp at h
    · simp at h
  · simp at h
def oneD : D → Bool
  | .v x => x.oneCell'
  | .sl _ _ _ _ => true
def allOneD : List D → Bool
  | [] => true
  | x :: xs => oneD x && allOneD xs
theorem oneD_cell {w : World} {j : Js} {x : D} {v : Value} (h : RD w j x v) (ho : oneD x = true) : v.oneCell' = true := by
  cases h <;> simp_all [oneD, Value.oneCell']
theorem allOneD_getD : ∀ {cs : List D} {k : Nat}, allOneD cs = true → k < cs.length → oneD (cs.getD k default) = true
  | [], _, _, hk => by simp at hk
  | x :: xs, 0, h, _ => by simp [allOneD] at h; simpa using h.1
  | x :: xs, k + 1, h, hk => by
    simp [allOneD] at h
    have := allOneD_getD (k := k) h.2 (by simpa using hk)
    simpa using this
def srcA (σ : List Blk) (sz : Nat) (y : AV) (K : Nat → (Nat → List D) → Prop) : Prop :=
  match y with
  | .d (.sl _ sz' k row) => Nat.beq sz sz' = true ∧ (∀ i, i < k → allOneD (row i) = true) ∧ K k row
  | .d (.v (.slice none 0 0)) => K 0 fun _ => []
  | .ms b sz' lo k => match σ[b]? with
    | some (.arr sz'' n row) => (Nat.beq sz sz' && Nat.beq sz sz'') = true ∧ lo + k ≤ n ∧ (∀ i, i < k → allOneD (row (lo + i)) = true) ∧ K k fun i => row (lo + i)
    | _ => False
  | .mc b sz' lo k _ => match σ[b]? with
    | some (.arr sz'' n row) => (Nat.beq sz sz' && Nat.beq sz sz'') = true ∧ lo + k ≤ n ∧ (∀ i, i < k → allOneD (row (lo + i)) = true) ∧ K k fun i => row (lo + i)
    | _ => False
  | .d (.v (.string b)) => Nat.beq sz 1 = true ∧ K b.size fun i => [.v (.int .u8 ((b[i]?).getD 0).toNat)]
  | _ => False
structure Src (P : Program) (w : World) (j : Js) (sz k : Nat) (rows : Nat → List D) (v : Value) (news : List Value) : Prop where
  len : (Builtin.lenOf v).run P w = .ok k w
  first : ∀ w', (∀ b, b < w.heap.size → w'.heap[b]? = w.heap[b]?) → (Builtin.firstCells sz k v).run P w' = .ok news.toArray w'
  size : news.length = k * sz
  rlen : ∀ i, i < k → (rows i).length = sz
  rel : ∀ i, i < k → ∀ q, q < sz → RD w j ((rows i).getD q default) (news.getD (i * sz + q) Go.undef)
  one : ∀ u ∈ news, u.oneCell' = true
theorem rows_one {k sz : Nat} {news : List Value} {rows : Nat → List D} {w : World} {j : Js} (size : news.length = k * sz) (rlen : ∀ i, i < k → (rows i).length = sz)
    (rel : ∀ i, i < k → ∀ q, q < sz → RD w j ((rows i).getD q default) (news.getD (i * sz + q) Go.undef)) (hone : ∀ i, i < k → allOneD (rows i) = true) : ∀ u ∈ news, u.oneCell' = true := by
  intro u hu
  obtain ⟨q, hq, rfl⟩ := List.getElem_of_mem hu
  have hsz : 0 < sz := by
    rcases Nat.eq_zero_or_pos sz with h | h
    · subst h; simp at size; subst size; simp at hq
    · exact h
  have h1 : q / sz < k := by
    rw [size] at hq
    exact Nat.div_lt_of_lt_mul (by rwa [Nat.mul_comm] at hq)
  have h2 : q % sz < sz := Nat.mod_lt _ hsz
  have h3 := rel (q / sz) h1 (q % sz) h2
  have h4 : q / sz * sz + q % sz = q := by rw [Nat.mul_comm]; exact Nat.div_add_mod q sz
  rw [h4] at h3
  have h5 := oneD_cell h3 (allOneD_getD (hone _ h1) (by rw [rlen _ h1]; exact h2))
  simpa [List.getD_eq_getElem?_getD, hq] using h5
theorem firstCells_of {P : Program} {w : World} {sz k len cap : Nat} {a : Addr} {news : List Value} (hl : news.length = k * sz) (h : ∀ q, q < news.length → w.cell? (a.add q) = some (news.getD q Go.undef)) : (Builtin.firstCells sz k (.slice (some a) len cap)).run P w = .ok news.toArray w :=
  run_firstCells_some w sz k a len cap news hl (fun q v hq => by
    obtain ⟨h1, h2⟩ := List.getElem?_eq_some_iff.1 hq
    rw [h q h1]
    simp [List.getD_eq_getElem?_getD, hq])
theorem cell_same {w w' : World} (h : ∀ b, b < w.heap.size → w'.heap[b]? = w.heap[b]?) {a : Addr} {v : Value} (hc : w.cell? a = some v) : w'.cell? a = some v := by
  rw [cell_eq (h a.block (block_lt_of_cell hc))]; exact hc
theorem src_sound {P : Program} {w : World} {j : Js} {σ : List Blk} (hS : RelS w j σ) {sz : Nat} {y : AV} {v : Value} {K : Nat → (Nat → List D) → Prop} (h : srcA σ sz y K) (hr : R w j y v) : ∃ k rows news, K k rows ∧ Src P w j sz k rows v news := by
  unfold srcA at h
  split at h
  · rename_i cap sz' k row
    obtain ⟨hb, hone, hK⟩ := h
    have := Nat.eq_of_beq_eq_true hb
    subst this
    cases hr with | d hr =>
    cases hr with
    | sl a c val hcap hle ha hlt hbj hlen hcell hrel =>
      let news : List Value := (List.range (k * sz)).map fun q => val (q / sz) (q % sz)
      have hsize : news.length = k * sz := by simp [news]
      have hget : ∀ q, q < k * sz → news.getD q Go.undef = val (q / sz) (q % sz) := by
        intro q hq; simp [news, List.getD_eq_getElem?_getD, hq]
      have hcl : ∀ q, q < news.length → w.cell? (a.add q) = some (news.getD q Go.undef) := by
        intro q hq
        rw [hsize] at hq
        have hsz : 0 < sz := by
          rcases Nat.eq_zero_or_pos sz with h | h
          · subst h; simp at hq
          · exact h
        have h1 : q / sz < k := Nat.div_lt_of_lt_mul (by rwa [Nat.mul_comm] at hq)
        have h2 : q % sz < sz := Nat.mod_lt _ hsz
        have h4 : q / sz * sz + q % sz = q := by rw [Nat.mul_comm]; exact Nat.div_add_mod q sz
        rw [add_off _ ha, hget q hq, ← hcell _ h1 _ h2, Nat.add_assoc, h4]
      have hrel' : ∀ i, i < k → ∀ q, q < sz → RD w j ((row i).getD q default) (news.getD (i * sz + q) Go.undef) := by
        intro i hi q hq
        have hb : i * sz + q < k * sz := by
          have : (i + 1) * sz ≤ k * sz := Nat.mul_le_mul_right _ hi
          rw [Nat.succ_mul] at this; omega
        rw [hget _ hb]
        have e1 : (i * sz + q) / sz = i := by
          rw [Nat.mul_comm, Nat.mul_add_div (by omega), Nat.div_eq_of_lt hq]; rfl
        have e2 : (i * sz + q) % sz = q := by
          rw [Nat.mul_comm, Nat.mul_add_mod, Nat.mod_eq_of_lt hq]
        rw [e1, e2]; exact hrel i hi q hq
      refine ⟨k, row, news, hK, by simp [Builtin.lenOf], fun w' hw' => ?_, hsize, hlen, hrel', rows_one hsize hlen hrel' hone⟩
      exact firstCells_of hsize fun q hq => cell_same hw' (hcl q hq)
    | zero p c hcap hp =>
      refine ⟨0, row, [], hK, by simp [Builtin.lenOf], fun w' hw' => ?_, by simp, by simp, by simp, by simp⟩
      cases p with
      | none => simp [Builtin.firstCells]
      | some a => exact firstCells_of (news := []) (by simp) (by simp)
  · have := R_v hr
    subst this
    exact ⟨0, _, [], h, by simp [Builtin.lenOf], fun w' _ => by simp [Builtin.firstCells], by simp, by simp, by simp, by simp⟩
  · rename_i b sz' lo k
    split at h
    · rename_i sz'' n row hb
      obtain ⟨hbb, hle, hone, hK⟩ := h
      simp only [Bool.and_eq_true] at hbb
      have e1 := Nat.eq_of_beq_eq_true hbb.1
      have e2 := Nat.eq_of_beq_eq_true hbb.2
      subst e1 e2
      obtain ⟨o, ho, hB⟩ := hS.blk b _ hb
      cases hr with
      | @ms _ _ _ _ cb c e m hj hsh hn hm =>
        rw [hj] at ho
        cases ho
        obtain ⟨C, e', ⟨f, hC, hf⟩, hCs, hCr⟩ := hB
        have hmul : (lo + k) * sz ≤ n * sz := Nat.mul_le_mul_right _ hle
        rw [Nat.add_mul] at hmul
        let news : List Value := (List.range (k * sz)).map fun q => C.getD (lo * sz + q) Go.undef
        have hsize : news.length = k * sz := by simp [news]
        have hget : ∀ q, q < k * sz → news.getD q Go.undef = C.getD (lo * sz + q) Go.undef := by
          intro q hq; simp [news, List.getD_eq_getElem?_getD, hq]
        have hrel' : ∀ i, i < k → ∀ q, q < sz → RD w j ((row (lo + i)).getD q default) (news.getD (i * sz + q) Go.undef) := by
          intro i hi q hq
          have hb : i * sz + q < k * sz := by
            have : (i + 1) * sz ≤ k * sz := Nat.mul_le_mul_right _ hi
            rw [Nat.succ_mul] at this; omega
          rw [hget _ hb, ← Nat.add_assoc, ← Nat.add_mul]
          exact (hCr (lo + i) (by omega)).2 q hq
        refine ⟨k, fun i => row (lo + i), news, hK, by simp [Builtin.lenOf], fun w' hw' => ?_, hsize, fun i hi => (hCr (lo + i) (by omega)).1, hrel', rows_one hsize (fun i hi => (hCr (lo + i) (by omega)).1) hrel' hone⟩
        refine firstCells_of hsize fun q hq => cell_same hw' ?_
        rw [hsize] at hq
        rw [add_off _ rfl, cell_of hC, hget q hq]
        simp [Array.getD_eq_getD_getElem?, show lo * sz + q < C.size by omega]
      | ms0 p hj =>
        refine ⟨0, fun i => row (0 + i), [], hK, by simp [Builtin.lenOf], fun w' hw' => ?_, by simp, by simp, by simp, by simp⟩
        cases p with
        | none => simp [Builtin.firstCells]
        | some a => exact firstCells_of (news := []) (by simp) (by simp)
      | msE p e m hj hsh hlo hm =>
        refine ⟨0, fun i => row (lo + i), [], hK, by simp [Builtin.lenOf], fun w' hw' => ?_, by simp, by simp, by simp, by simp⟩
        cases p with
        | none => simp [Builtin.firstCells]
        | some a => exact firstCells_of (news := []) (by simp) (by simp)
    · exact h.elim
  · rename_i b sz' lo k _
    cases hr with | mc hr _ _ =>
    split at h
    · rename_i sz'' n row hb
      obtain ⟨hbb, hle, hone, hK⟩ := h
      simp only [Bool.and_eq_true] at hbb
      have e1 := Nat.eq_of_beq_eq_true hbb.1
      have e2 := Nat.eq_of_beq_eq_true hbb.2
      subst e1 e2
      obtain ⟨o, ho, hB⟩ := hS.blk b _ hb
      cases hr with
      | @ms _ _ _ _ cb c e m hj hsh hn hm =>
        rw [hj] at ho
        cases ho
        obtain ⟨C, e', ⟨f, hC, hf⟩, hCs, hCr⟩ := hB
        have hmul : (lo + k) * sz ≤ n * sz := Nat.mul_le_mul_right _ hle
        rw [Nat.add_mul] at hmul
        let news : List Value := (List.range (k * sz)).map fun q => C.getD (lo * sz + q) Go.undef
        have hsize : news.length = k * sz := by simp [news]
        have hget : ∀ q, q < k * sz → news.getD q Go.undef = C.getD (lo * sz + q) Go.undef := by
          intro q hq; simp [news, List.getD_eq_getElem?_getD, hq]
        have hrel' : ∀ i, i < k → ∀ q, q < sz → RD w j ((row (lo + i)).getD q default) (news.getD (i * sz + q) Go.undef) := by
          intro i hi q hq
          have hb : i * sz + q < k * sz := by
            have : (i + 1) * sz ≤ k * sz := Nat.mul_le_mul_right _ hi
            rw [Nat.succ_mul] at this; omega
          rw [hget _ hb, ← Nat.add_assoc, ← Nat.add_mul]
          exact (hCr (lo + i) (by omega)).2 q hq
        refine ⟨k, fun i => row (lo + i), news, hK, by simp [Builtin.lenOf], fun w' hw' => ?_, hsize, fun i hi => (hCr (lo + i) (by omega)).1, hrel', rows_one hsize (fun i hi => (hCr (lo + i) (by omega)).1) hrel' hone⟩
        refine firstCells_of hsize fun q hq => cell_same hw' ?_
        rw [hsize] at hq
        rw [add_off _ rfl, cell_of hC, hget q hq]
        simp [Array.getD_eq_getD_getElem?, show lo * sz + q < C.size by omega]
      | ms0 p hj =>
        refine ⟨0, fun i => row (0 + i), [], hK, by simp [Builtin.lenOf], fun w' hw' => ?_, by simp, by simp, by simp, by simp⟩
        cases p with
        | none => simp [Builtin.firstCells]
        | some a => exact firstCells_of (news := []) (by simp) (by simp)
      | msE p e m hj hsh hlo hm =>
        refine ⟨0, fun i => row (lo + i), [], hK, by simp [Builtin.lenOf], fun w' hw' => ?_, by simp, by simp, by simp, by simp⟩
        cases p with
        | none => simp [Builtin.firstCells]
        | some a => exact firstCells_of (news := []) (by simp) (by simp)
    · exact h.elim
  · rename_i b
    obtain ⟨hb, hK⟩ := h
    have := Nat.eq_of_beq_eq_true hb
    subst this
    have := R_v hr
    subst this
    let news : List Value := b.data.toList.map fun x => .int .u8 x.toNat
    have hl : news.length = b.size := by simp [news]
    refine ⟨b.size, _, news, hK, by simp [Builtin.lenOf], fun w' _ => ?_, by omega, by simp, fun i hi q hq => ?_, ?_⟩
    · have e1 : (b.extract 0 b.size).data = b.data := by
        have : b.extract 0 b.size = b := ByteArray.extract_zero_size
        rw [this]
      simp only [Builtin.firstCells, e1, news, Sem.run_pure]
      congr 1
      apply Array.ext'; simp
    · have : q = 0 := by omega
      subst this
      have hi' : i < b.data.size := hi
      have e2 : b[i]? = some b.data[i] := by
        rw [getElem?_pos b i hi]; rfl
      have e1 : news.getD (i * 1 + 0) Go.undef = .int .u8 (b.data[i]).toNat := by
        simp only [news, Nat.mul_one, Nat.add_zero, List.getD_eq_getElem?_getD, List.getElem?_map]
        rw [Array.getElem?_toList, Array.getElem?_eq_getElem hi']; rfl
      rw [e1]
      simp only [e2, Option.getD_some]
      exact .v _
    · intro u hu
      simp only [news, List.mem_map] at hu
      obtain ⟨x, _, rfl⟩ := hu
      rfl
  · exact h.elim
end Go.Abs

/-! Ak -/
namespace Go.Abs
set_option linter.unusedVariables false
set_option linter.unusedSimpArgs false
section
variable {P : Program} {w : World}
theorem append_grow_run {t t' ty e : TypeId} {d' : TypeDesc} {i : TypeInfo} {zz : Value} (hu : P.underlying t = some (.slice e)) (hu' : P.underlying t' = some d') (hd' : d' = .string ∨ ∃ e', d' = .slice e') (hi : P.info? e = some i) (hz : i.zero = some zz)
    {p : Option Addr} {n c k : Nat} {v : Value} {olds news : List Value} (ho : (Builtin.firstCells i.size n (.slice p n c)).run P w.drew = .ok olds.toArray w.drew) (hl : (Builtin.lenOf v).run P w = .ok k w) (hf : (Builtin.firstCells i.size k v).run P w.drew = .ok news.toArray w.drew)
    (hg : c < n + k) (h63 : n + k ≤ 9223372036854775807) (hb : (n + k) * i.bytes ≤ 140737488355328) :
    (Builtin.append_ #[t, t'] ty #[.slice p n c, v]).run P w = .ok (.slice (some ⟨w.heap.size, 0, none⟩) (n + k) (grownCap w (n + k) c e))
      (w.drew.alloc (.cells (olds.toArray ++ news.toArray ++ Builtin.zeroCells zz.cells (grownCap w (n + k) c e - (n + k))) e)) := by
  have h1 : ¬ (n + k ≤ c) := by omega
  have h2 : ¬ (9223372036854775807 < (n : Int) + (k : Int)) := by omega
  have h3 : ¬ (281474976710656 < Builtin.nextslicecap (n + k) c * i.bytes) := by have := growslice_fits hg hb; omega
  rcases hd' with rfl | ⟨e', rfl⟩
  all_goals
    simp [Builtin.append_, run_underlying hu, run_underlying hu', Go.sizeOf, typeInfo, zeroValue, hi, hz, hl, h1, h2, h3, Question.forced, hf, ho, newRow, grownCap]
    congr 2
    apply Array.ext'
    simp [List.append_assoc]
theorem append_room_run {t t' ty e : TypeId} {d' : TypeDesc} {i : TypeInfo} (hu : P.underlying t = some (.slice e)) (hu' : P.underlying t' = some d') (hd' : d' = .string ∨ ∃ e', d' = .slice e') (hi : P.info? e = some i)
    {g n c k : Nat} {v : Value} {news : List Value} {C : Array Value} {ec : TypeId} {f : Nat × Nat} (hC : w.heap[g]? = some (.cells C ec f)) (hfz : C.size ≤ f.1 ∨ f = (0, 0)) (hl : (Builtin.lenOf v).run P w = .ok k w) (hf : (Builtin.firstCells i.size k v).run P w = .ok news.toArray w)
    (hlen : news.length = k * i.size) (hone : ∀ u ∈ news, u.oneCell' = true) (hg : n + k ≤ c) (hfit : (n + k) * i.size ≤ C.size) :
    (Builtin.append_ #[t, t'] ty #[.slice (some ⟨g, 0, none⟩) n c, v]).run P w = .ok (.slice (some ⟨g, 0, none⟩) (n + k) c) (w.setRow g (C.toList.take (n * i.size) ++ news ++ C.toList.drop (n * i.size + news.length)).toArray) := by
  rw [Nat.add_mul] at hfit
  have hst := run_storeCells_ok (P := P) g (n * i.size) ec f news 0 C w hC hfz (by omega) hone
  simp only [Nat.add_zero] at hst
  have hadd : (⟨g, 0, none⟩ : Addr).add (n * i.size) = ⟨g, n * i.size, none⟩ := by rw [add_off _ rfl]; simp
  rcases hd' with rfl | ⟨e', rfl⟩
  all_goals simp [Builtin.append_, run_underlying hu, run_underlying hu', Go.sizeOf, typeInfo, hi, hl, hg, hf, hadd, hst]
theorem append_none_run {t t' ty e : TypeId} {d' : TypeDesc} {i : TypeInfo} (hu : P.underlying t = some (.slice e)) (hu' : P.underlying t' = some d') (hd' : d' = .string ∨ ∃ e', d' = .slice e') (hi : P.info? e = some i)
    {p : Option Addr} {n c : Nat} {v : Value} (hl : (Builtin.lenOf v).run P w = .ok 0 w) (hf : (Builtin.firstCells i.size 0 v).run P w = .ok #[] w) (hg : n ≤ c) :
    (Builtin.append_ #[t, t'] ty #[.slice p n c, v]).run P w = .ok (.slice p n c) w := by
  rcases hd' with rfl | ⟨e', rfl⟩
  all_goals cases p <;> simp [Builtin.append_, run_underlying hu, run_underlying hu', Go.sizeOf, typeInfo, hi, hl, hg, hf, storeCells]
end
def scrubV (X : List Nat) : Blk → Blk
  | .var cs => .var (cs.map fun c => if c.avoids X then c else .undef)
  | .lp L st pd => .lp { L with t := scrub' X L.t } st pd
  | x => x
theorem RB.scrub {j : Js} {w : World} (X : List Nat) {x : Blk} {o : Option Nat} (h : RB w j x o) : RB w j (scrubV X x) o := by
  cases x with
  | dead => exact h
  | loc c => exact h
  | tab c vs => exact h
  | arr sz n row => exact h
  | mp d ks f => exact h
  | it left cur f => exact h
  | lp L st pd =>
    cases o with
    | none => exact h
    | some cb =>
      obtain ⟨r, h1, h2, h3, h4⟩ := h
      exact ⟨r, h1, h2, h3, fun k av hk => h4 k av (scrub'_mem hk).1⟩
  | var cs =>
    cases o with
    | none => exact h
    | some cb =>
      obtain ⟨C, e, h1, h2, h3⟩ := h
      refine ⟨C, e, h1, by simpa using h2, fun k hk => ?_⟩
      simp only [List.length_map] at hk
      have e1 : (cs.map fun c => if c.avoids X then c else AV.undef).getD k .undef = if (cs.getD k .undef).avoids X then cs.getD k .undef else .undef := by
        simp [List.getD_eq_getElem?_getD, hk]
      rw [e1]
      split
      · exact h3 k hk
      · exact .undef _
theorem RB.monoX {j j' : Js} {w w' : World} {X : List Nat} (he : Ev j w j' w') (hl : ∀ b cb : Nat, j[b]? = some (some cb) → cb < w.heap.size) (hag : Ag j j' X) {x : Blk} {o : Option Nat} (h : RB w j x o) (ho : ∀ cb, o = some cb → w'.heap[cb]? = w.heap[cb]?) : RB w' j' (scrubV X x) o := by
  cases x with
  | dead => trivial
  | loc c =>
    obtain ⟨h1, h2, h3, m, h4⟩ := h
    exact ⟨h1, Nat.lt_of_lt_of_le h2 he.size, fun hm => h3 (he.sub _ h2 hm), m, (cell_eq (a := ⟨c, 0, none⟩) (he.keep c h2 h3)).trans h4⟩
  | tab c vs =>
    obtain ⟨h1, h2, h3, e, h4, h5⟩ := h
    exact ⟨h1, Nat.lt_of_lt_of_le h2 he.size, fun hm => h3 (he.sub _ h2 hm), e, (he.shp c h2).trans h4, fun i => (cell_eq (a := ⟨c, i, none⟩) (he.keep c h2 h3)).trans (h5 i)⟩
  | var cs =>
    cases o with
    | none => exact h
    | some cb =>
      obtain ⟨C, e, h1, h2, h3⟩ := h
      refine ⟨C, e, by rw [ho cb rfl, h1], by simpa using h2, fun k hk => ?_⟩
      simp only [List.length_map] at hk
      have e1 : (cs.map fun c => if c.avoids X then c else AV.undef).getD k .undef = if (cs.getD k .undef).avoids X then cs.getD k .undef else .undef := by
        simp [List.getD_eq_getElem?_getD, hk]
      rw [e1]
      split
      · rename_i hav; exact (h3 k hk).mono he hl hag hav
      · exact .undef _
  | arr sz n row =>
    cases o with
    | none => exact h
    | some cb =>
      obtain ⟨C, e, h1, h2, h3⟩ := h
      exact ⟨C, e, h1.at (ho cb rfl), h2, fun i hi => ⟨(h3 i hi).1, fun k hk => ((h3 i hi).2 k hk).mono he⟩⟩
  | lp L st pd =>
    cases o with
    | none => exact h
    | some cb =>
      obtain ⟨r, h1, h2, h3, h4⟩ := h
      exact ⟨r, by rw [ho cb rfl, h1], h2, h3, fun k av hk => by
        have hk' := scrub'_mem hk
        exact ⟨(h4 k av hk'.1).1, (h4 k av hk'.1).2.mono he hl hag hk'.2⟩⟩
  | mp d ks f =>
    cases o with
    | none => exact h
    | some cb =>
      obtain ⟨es, cl, h1, h2⟩ := h
      exact ⟨es, cl, by rw [ho cb rfl, h1], h2.mono he hl⟩
  | it left cur f =>
    cases o with
    | none => exact h
    | some cb =>
      obtain ⟨mb, es, cl, seen, h1, h2⟩ := h
      exact ⟨mb, es, cl, seen, by rw [ho cb rfl, h1], h2.mono he hl⟩
theorem ev_drew (j : Js) (w : World) : Ev j w j w.drew := ⟨Nat.le_refl _, fun _ _ _ => rfl, fun _ _ h => h, fun _ _ => rfl, fun _ _ => rfl, rfl, rfl, rfl, fun _ r h => ⟨r, h⟩⟩
def catRows (n : Nat) (row rows : Nat → List D) : Nat → List D := fun i => if i < n then row i else rows (i - n)
theorem cat_getD {olds news : List Value} {z : Array Value} {q : Nat} : (olds.toArray ++ news.toArray ++ z).getD q Go.undef = if q < olds.length then olds.getD q Go.undef else if q < olds.length + news.length then news.getD (q - olds.length) Go.undef else z.getD (q - (olds.length + news.length)) Go.undef := by
  simp only [Array.getD_eq_getD_getElem?, List.getD_eq_getElem?_getD, Array.getElem?_append, List.getElem?_toArray, Array.size_append, List.size_toArray]
  by_cases h1 : q < olds.length
  · rw [if_pos (by omega), if_pos h1, if_pos h1]
  · by_cases h2 : q < olds.length + news.length
    · rw [if_pos h2, if_neg h1, if_neg h1, if_pos h2]
    · rw [if_neg h2, if_neg h1, if_neg h2]
theorem cat_rel {w : World} {j : Js} {n k sz : Nat} {row rows : Nat → List D} {olds news : List Value} {z : Array Value} (ho : olds.length = n * sz) (hn : news.length = k * sz) (hl1 : ∀ i, i < n → (row i).length = sz) (hl2 : ∀ i, i < k → (rows i).length = sz)
    (h1 : ∀ i, i < n → ∀ q, q < sz → RD w j ((row i).getD q default) (olds.getD (i * sz + q) Go.undef)) (h2 : ∀ i, i < k → ∀ q, q < sz → RD w j ((rows i).getD q default) (news.getD (i * sz + q) Go.undef)) :
    ∀ i, i < n + k → (catRows n row rows i).length = sz ∧ ∀ q, q < sz → RD w j ((catRows n row rows i).getD q default) ((olds.toArray ++ news.toArray ++ z).getD (i * sz + q) Go.undef) := by
  intro i hi
  unfold catRows
  by_cases hin : i < n
  · simp only [hin, if_true]
    refine ⟨hl1 i hin, fun q hq => ?_⟩
    have : (i + 1) * sz ≤ n * sz := Nat.mul_le_mul_right _ hin
    rw [Nat.succ_mul] at this
    rw [cat_getD, if_pos (by omega)]; exact h1 i hin q hq
  · simp only [hin, if_false]
    refine ⟨hl2 (i - n) (by omega), fun q hq => ?_⟩
    have h3 : n * sz ≤ i * sz := Nat.mul_le_mul_right _ (by omega)
    have h4 : (i + 1) * sz ≤ (n + k) * sz := Nat.mul_le_mul_right _ hi
    rw [Nat.succ_mul, Nat.add_mul] at h4
    rw [cat_getD, if_neg (by omega), if_pos (by omega), ho]
    have h5 : i * sz + q - n * sz = (i - n) * sz + q := by rw [Nat.sub_mul]; omega
    rw [h5]; exact h2 (i - n) (by omega) q hq
def setRows (lo k : Nat) (rows row : Nat → List D) : Nat → List D := fun i => if lo ≤ i ∧ i < lo + k then rows (i - lo) else row i
def appendA (P : Program) (σ : List Blk) (t t' : TypeId) (x y : AV) (K : AV → List Blk → List Nat → Prop) : Prop :=
  match slB P t with
  | some (e, sz, bytes, z) => (Nat.beq (lenT P t') 1 || Nat.beq (lenT P t') 2) = true ∧ srcA σ sz y fun k rows =>
    match x with
    | .d (.v (.slice none 0 0)) => k ≤ 9223372036854775807 ∧ k * bytes ≤ 140737488355328 ∧ K (.ms σ.length sz 0 k) (σ ++ [.arr sz k rows]) []
    | .d (.sl (some c) sz' n row) => Nat.beq sz sz' = true ∧ c = n ∧ (n = 0 ∨ 0 < k) ∧ n + k ≤ 9223372036854775807 ∧ (n + k) * bytes ≤ 140737488355328 ∧ K (.ms σ.length sz 0 (n + k)) (σ ++ [.arr sz (n + k) (catRows n row rows)]) []
    | .ms b sz' lo n => (match σ[b]? with
      | some (.arr sz'' n' row) => (Nat.beq sz sz' && Nat.beq sz sz'') = true ∧ lo = 0 ∧ if n < n' then n + k ≤ n' ∧ 0 < sz ∧ K (.ms b sz 0 (n + k)) (σ.set b (.arr sz n' (setRows n k rows row))) []
        else n' = n ∧ n + k ≤ 9223372036854775807 ∧ (n + k) * bytes ≤ 140737488355328 ∧ K (.ms b sz 0 (n + k)) ((σ.map (scrubV [b])).set b (.arr sz (n + k) (catRows n row rows))) [b]
      | _ => False)
    | _ => False
  | none => False
theorem lenT_d {P : Program} {t : TypeId} (h : (Nat.beq (lenT P t) 1 || Nat.beq (lenT P t) 2) = true) : ∃ d, P.underlying t = some d ∧ (d = .string ∨ ∃ e', d = .slice e') := by
  simp only [Bool.or_eq_true] at h
  rcases h with h | h
  · obtain ⟨e, he⟩ := lenT_1 h; exact ⟨_, he, .inr ⟨_, rfl⟩⟩
  · exact ⟨_, lenT_2 h, .inl rfl⟩
theorem shape_of {w : World} {b : Nat} {C : Array Value} {e : TypeId} {f : Nat × Nat} (h : w.heap[b]? = some (.cells C e f)) : w.shape? b = some (e, C.size) := by simp [World.shape?, h]
theorem RelS.grown {w : World} {j : Js} {σ : List Blk} (h : RelS w j σ) {sz n k cap : Nat} {row rows : Nat → List D} {olds news : List Value} {z : Array Value} {e : TypeId} (ho : olds.length = n * sz) (hn : news.length = k * sz) (hl1 : ∀ i, i < n → (row i).length = sz) (hl2 : ∀ i, i < k → (rows i).length = sz)
    (h1 : ∀ i, i < n → ∀ q, q < sz → RD w j ((row i).getD q default) (olds.getD (i * sz + q) Go.undef)) (h2 : ∀ i, i < k → ∀ q, q < sz → RD w j ((rows i).getD q default) (news.getD (i * sz + q) Go.undef)) (hz : z.size = (cap - (n + k)) * sz) (hcap : n + k ≤ cap) :
    let w' := w.drew.alloc (.cells (olds.toArray ++ news.toArray ++ z) e)
    let j' := j ++ [some w.heap.size]
    RelS w' j' (σ ++ [.arr sz (n + k) (catRows n row rows)]) ∧ R w' j' (.ms σ.length sz 0 (n + k)) (.slice (some ⟨w.heap.size, 0, none⟩) (n + k) cap) ∧ Ev j w j' w' := by
  intro w' j'
  have hd : RelS w.drew j σ := ⟨h.len, h.lt, h.inj, fun b x hx => let ⟨o, h1, h2⟩ := h.blk b x hx; ⟨o, h1, h2.mono (ev_drew j w) h.lt (.refl _ _) fun _ _ => rfl⟩⟩
  have he : Ev j w.drew j' w' := ev_alloc _ _ _ _ _ (fun b hb hm => by
    simp only [j', List.mem_append, List.mem_singleton, Option.some.injEq] at hm
    rcases hm with hm | hm
    · exact hm
    · subst hm; exact absurd hb (by simp))
  have hcs : (olds.toArray ++ news.toArray ++ z).size = cap * sz := by
    simp only [Array.size_append, List.size_toArray, ho, hn, hz, ← Nat.add_mul]
    congr 1; omega
  have hrow := cat_rel (w := w) (j := j) (z := z) ho hn hl1 hl2 h1 h2
  have hle : (n + k) * sz ≤ cap * sz := Nat.mul_le_mul_right _ hcap
  obtain ⟨g1, g2⟩ := hd.alloc (olds.toArray ++ news.toArray ++ z) e (.arr sz (n + k) (catRows n row rows)) ⟨_, e, .mk0 (heap_alloc_new _ _), by rw [hcs]; exact hle, fun i hi => ⟨(hrow i hi).1, fun q hq => (((hrow i hi).2 q hq).mono (ev_drew j w)).mono he⟩⟩
  refine ⟨g1, ?_, (ev_drew j w).trans g2⟩
  have hms : R w' j' (.ms σ.length sz 0 (n + k)) (.slice (some ⟨w.heap.size, 0 * sz, none⟩) (n + k) cap) := by
    refine .ms cap e (cap * sz) ?_ ?_ hcap (by simp)
    · simp only [j']; rw [List.getElem?_append_right (by rw [h.len]; omega)]; simp [h.len]
    · rw [← hcs]; exact shape_of (heap_alloc_new _ _)
  rwa [Nat.zero_mul] at hms
theorem RelS.unmade {w : World} {j : Js} {σ : List Blk} (h : RelS w j σ) {sz : Nat} {rows : Nat → List D} {p : Option Addr} :
    let j' := j ++ [none]
    RelS w j' (σ ++ [.arr sz 0 rows]) ∧ R w j' (.ms σ.length sz 0 0) (.slice p 0 0) ∧ Ev j w j' w := by
  intro j'
  have he : Ev j w j' w := ⟨Nat.le_refl _, fun _ _ _ => rfl, fun b _ hm => by simpa [j'] using hm, fun _ _ => rfl, fun _ _ => rfl, rfl, rfl, rfl, fun _ r h => ⟨r, h⟩⟩
  refine ⟨⟨by simp [j', h.len], fun b cb hb => ?_, fun b b' cb hb hb' => ?_, fun b y hy => ?_⟩, .ms0 p ?_, he⟩
  · simp only [j'] at hb
    rw [List.getElem?_append] at hb
    split at hb
    · exact h.lt b cb hb
    · rw [List.getElem?_singleton] at hb; split at hb <;> simp at hb
  · have key : ∀ q : Nat, j'[q]? = some (some cb) → j[q]? = some (some cb) := by
      intro q hq
      simp only [j'] at hq
      rw [List.getElem?_append] at hq
      split at hq
      · exact hq
      · rw [List.getElem?_singleton] at hq; split at hq <;> simp at hq
    exact h.inj b b' cb (key b hb) (key b' hb')
  · rw [List.getElem?_append] at hy
    split at hy
    · obtain ⟨o, ho, hB⟩ := h.blk b y hy
      have hbl : b < j.length := by rw [h.len]; assumption
      exact ⟨o, by simp only [j']; rw [List.getElem?_append_left hbl]; exact ho, hB.mono he h.lt (ag_append _ _) fun cb hcb => rfl⟩
    · rw [List.getElem?_singleton] at hy
      split at hy <;> simp at hy
      subst hy
      refine ⟨none, ?_, rfl⟩
      simp only [j']
      rw [List.getElem?_append_right (by rw [h.len]; omega), List.getElem?_singleton, if_pos (by rw [h.len]; omega)]
  · simp only [j']; rw [List.getElem?_append_right (by rw [h.len]; omega)]; simp [h.len]
end Go.Abs

/-! Al -/
namespace Go.Abs
set_option linter.unusedVariables false
set_option linter.unusedSimpArgs false
theorem RelS.drew {w : World} {j : Js} {σ : List Blk} (h : RelS w j σ) : RelS w.drew j σ :=
  ⟨h.len, h.lt, h.inj, fun b x hx => let ⟨o, h1, h2⟩ := h.blk b x hx; ⟨o, h1, h2.mono (ev_drew j w) h.lt (.refl _ _) fun _ _ => rfl⟩⟩
theorem RelS.scrub {w : World} {j : Js} {σ : List Blk} (h : RelS w j σ) (X : List Nat) : RelS w j (σ.map (scrubV X)) :=
  ⟨by simp [h.len], h.lt, h.inj, fun b x hx => by
    simp only [List.getElem?_map, Option.map_eq_some_iff] at hx
    obtain ⟨y, hy, rfl⟩ := hx
    obtain ⟨o, h1, h2⟩ := h.blk b y hy
    exact ⟨o, h1, h2.scrub X⟩⟩
theorem RelS.movedO {w : World} {j : Js} {σ : List Blk} (h : RelS w j σ) {b : Nat} (hb : b < j.length) {ob : Obj} {x : Blk}
    (hx : RB (w.alloc ob) (j.set b (some w.heap.size)) x (some w.heap.size)) :
    RelS (w.alloc ob) (j.set b (some w.heap.size)) ((σ.map (scrubV [b])).set b x) ∧ Ev j w (j.set b (some w.heap.size)) (w.alloc ob) ∧ Ag j (j.set b (some w.heap.size)) [b] := by
  have he : Ev j w (j.set b (some w.heap.size)) (w.alloc ob) := ev_allocN _ _ _ _ (fun q hq hm => by
    rcases List.mem_or_eq_of_mem_set hm with hm | hm
    · exact hm
    · simp at hm; omega)
  have hag : Ag j (j.set b (some w.heap.size)) [b] := by
    intro q hq hn
    simp at hn
    rw [List.getElem?_set_ne (by omega)]
  have key : ∀ q cb : Nat, (j.set b (some w.heap.size))[q]? = some (some cb) → (q ≠ b ∧ j[q]? = some (some cb) ∧ cb < w.heap.size) ∨ (q = b ∧ cb = w.heap.size) := by
    intro q cb hq
    rw [List.getElem?_set] at hq
    split at hq
    · rename_i hbq
      simp [hb] at hq
      exact .inr ⟨hbq.symm, hq.symm⟩
    · rename_i hbq
      exact .inl ⟨fun h => hbq h.symm, hq, h.lt q cb hq⟩
  refine ⟨⟨by simp [h.len], fun q cb hq => ?_, fun q q' cb hq hq' => ?_, fun q y hy => ?_⟩, he, hag⟩
  · rcases key q cb hq with h1 | h1 <;> simp <;> omega
  · rcases key q cb hq with h1 | h1 <;> rcases key q' cb hq' with h2 | h2
    · exact h.inj q q' cb h1.2.1 h2.2.1
    · omega
    · omega
    · omega
  · rw [List.getElem?_set] at hy
    split at hy
    · rename_i hbq
      split at hy <;> simp at hy
      subst hbq hy
      exact ⟨some w.heap.size, by rw [List.getElem?_set]; simp [hb], hx⟩
    · rename_i hbq
      simp only [List.getElem?_map, Option.map_eq_some_iff] at hy
      obtain ⟨y', hy', rfl⟩ := hy
      obtain ⟨o, ho, hB⟩ := h.blk q y' hy'
      refine ⟨o, by rw [List.getElem?_set_ne hbq]; exact ho, hB.monoX he h.lt hag fun cb hcb => ?_⟩
      subst hcb
      exact heap_push_old w _ (h.lt q cb ho)
theorem RelS.moved {w : World} {j : Js} {σ : List Blk} (h : RelS w j σ) {b : Nat} (hb : b < j.length) {C : Array Value} {e : TypeId} {x : Blk}
    (hx : RB (w.alloc (.cells C e)) (j.set b (some w.heap.size)) x (some w.heap.size)) :
    RelS (w.alloc (.cells C e)) (j.set b (some w.heap.size)) ((σ.map (scrubV [b])).set b x) ∧ Ev j w (j.set b (some w.heap.size)) (w.alloc (.cells C e)) ∧ Ag j (j.set b (some w.heap.size)) [b] := h.movedO hb hx
theorem append_sound {P : Program} {w : World} {j : Js} {σ : List Blk} (hS : RelS w j σ) {t t' ty : TypeId} {x y : AV} {vx vy : Value} {K : AV → List Blk → List Nat → Prop} (h : appendA P σ t t' x y K) (hx : R w j x vx) (hy : R w j y vy) :
    ∃ v w' j' r σ' X, (Builtin.append_ #[t, t'] ty #[vx, vy]).run P w = .ok v w' ∧ RelS w' j' σ' ∧ R w' j' r v ∧ Ev j w j' w' ∧ j.length ≤ j'.length ∧ Ag j j' X ∧ K r σ' X := by
  unfold appendA at h
  split at h
  · rename_i e sz bytes z hsl
    obtain ⟨hu, i, zz, hi, hz, hsz, hby, hzz, hzs⟩ := slB_spec hsl
    obtain ⟨ht', h⟩ := h
    obtain ⟨d', hu', hd'⟩ := lenT_d ht'
    obtain ⟨k, rows, news, h, src⟩ := src_sound (P := P) hS h hy
    subst hsz hby
    have hf0 := src.first w (fun _ _ => rfl)
    have hf1 := src.first w.drew (fun _ _ => rfl)
    have hzc : ∀ m, (Builtin.zeroCells zz.cells m).size = m * i.size := by intro m; rw [size_zeroCells, hzs]
    split at h
    · -- nil
      obtain ⟨h63, hroom, hK⟩ := h
      have hvx := R_v hx
      subst hvx
      rcases Nat.eq_zero_or_pos k with hk | hk
      · subst hk
        have hn : news = [] := by have := src.size; simpa using this
        subst hn
        obtain ⟨g1, g2, g3⟩ := hS.unmade (sz := i.size) (rows := rows) (p := none)
        exact ⟨_, _, _, _, _, _, append_none_run hu hu' hd' hi src.len hf0 (Nat.le_refl 0), g1, g2, g3, by simp, ag_append _ _, hK⟩
      · have hrun := append_grow_run (P := P) (w := w) (ty := ty) hu hu' hd' hi hz (p := none) (n := 0) (c := 0) (olds := []) (by simp [Builtin.firstCells]) src.len hf1 (by omega) (by omega) (by simpa using hroom)
        have hcap := grownCap_ge w (0 + k) 0 e
        obtain ⟨g1, g2, g3⟩ := hS.grown (sz := i.size) (n := 0) (k := k) (cap := grownCap w (0 + k) 0 e) (row := rows) (rows := rows) (olds := []) (news := news) (z := Builtin.zeroCells zz.cells (grownCap w (0 + k) 0 e - (0 + k))) (e := e) (by simp) src.size (by simp) src.rlen (by simp) src.rel (hzc _) hcap
        have ecat : catRows 0 rows rows = rows := by funext q; simp [catRows]
        rw [ecat] at g1
        simp only [Nat.zero_add] at hrun g1 g2 g3
        exact ⟨_, _, _, _, _, _, hrun, g1, g2, g3, by simp, ag_append _ _, hK⟩
    · rename_i c sz' n0 row _
      obtain ⟨hb, hcn, hnk, h63, hroom, hK⟩ := h
      have := Nat.eq_of_beq_eq_true hb
      subst this hcn
      rcases Nat.eq_zero_or_pos k with hk | hk
      · subst hk
        have hn : news = [] := by have := src.size; simpa using this
        subst hn
        have hc0 : c = 0 := by omega
        subst hc0
        have hval : ∃ p, vx = .slice p 0 0 := by
          cases hx with | d hx =>
          cases hx with
          | sl a c' val hcap _ _ _ _ _ _ _ => rcases hcap with h | h <;> simp at h; subst h; exact ⟨_, rfl⟩
          | zero p c' hcap _ => rcases hcap with h | h <;> simp at h; subst h; exact ⟨_, rfl⟩
        obtain ⟨p, rfl⟩ := hval
        obtain ⟨g1, g2, g3⟩ := hS.unmade (sz := i.size) (rows := catRows 0 row rows) (p := p)
        exact ⟨_, _, _, _, _, _, append_none_run hu hu' hd' hi src.len hf0 (Nat.le_refl 0), g1, g2, g3, by simp, ag_append _ _, hK⟩
      · have hval : ∃ (p : Option Addr) (olds : List Value), vx = .slice p c c ∧ olds.length = c * i.size ∧ (∀ w', (∀ b, b < w.heap.size → w'.heap[b]? = w.heap[b]?) → (Builtin.firstCells i.size c vx).run P w' = .ok olds.toArray w') ∧ (∀ q, q < c → (row q).length = i.size) ∧ ∀ q, q < c → ∀ r, r < i.size → RD w j ((row q).getD r default) (olds.getD (q * i.size + r) Go.undef) := by
          cases hx with | d hx =>
          cases hx with
          | sl a c' val hcap hle ha hlt hbj hlen hcell hrel =>
            rcases hcap with h | h <;> simp at h
            subst h
            let olds : List Value := (List.range (c * i.size)).map fun q => val (q / i.size) (q % i.size)
            have hsize : olds.length = c * i.size := by simp [olds]
            have hget : ∀ q, q < c * i.size → olds.getD q Go.undef = val (q / i.size) (q % i.size) := by
              intro q hq; simp [olds, List.getD_eq_getElem?_getD, hq]
            refine ⟨_, olds, rfl, hsize, fun w' hw' => firstCells_of hsize fun q hq => cell_same hw' ?_, hlen, fun q hq r hr => ?_⟩
            · rw [hsize] at hq
              have hsz : 0 < i.size := by
                rcases Nat.eq_zero_or_pos i.size with h | h
                · rw [h] at hq; simp at hq
                · exact h
              have h1 : q / i.size < c := Nat.div_lt_of_lt_mul (by rwa [Nat.mul_comm] at hq)
              have h2 : q % i.size < i.size := Nat.mod_lt _ hsz
              have h4 : q / i.size * i.size + q % i.size = q := by rw [Nat.mul_comm]; exact Nat.div_add_mod q i.size
              rw [add_off _ ha, hget q hq, ← hcell _ h1 _ h2, Nat.add_assoc, h4]
            · have hb : q * i.size + r < c * i.size := by
                have : (q + 1) * i.size ≤ c * i.size := Nat.mul_le_mul_right _ hq
                rw [Nat.succ_mul] at this; omega
              rw [hget _ hb]
              have e1 : (q * i.size + r) / i.size = q := by
                rw [Nat.mul_comm, Nat.mul_add_div (by omega), Nat.div_eq_of_lt hr]; rfl
              have e2 : (q * i.size + r) % i.size = r := by
                rw [Nat.mul_comm, Nat.mul_add_mod, Nat.mod_eq_of_lt hr]
              rw [e1, e2]; exact hrel q hq r hr
          | zero p c' hcap hp =>
            rcases hcap with h | h <;> simp at h
            subst h
            refine ⟨p, [], rfl, by simp, fun w' hw' => ?_, by simp, by simp⟩
            cases p with
            | none => simp [Builtin.firstCells]
            | some a => exact firstCells_of (news := []) (by simp) (by simp)
        obtain ⟨p, olds, rfl, hol, hof, hrl, hrr⟩ := hval
        have hrun := append_grow_run (P := P) (w := w) (ty := ty) hu hu' hd' hi hz (hof w.drew fun _ _ => rfl) src.len hf1 (by omega) h63 hroom
        obtain ⟨g1, g2, g3⟩ := hS.grown (e := e) hol src.size hrl src.rlen hrr src.rel (hzc _) (grownCap_ge w (c + k) c e)
        exact ⟨_, _, _, _, _, _, hrun, g1, g2, g3, by simp, ag_append _ _, hK⟩
    · rename_i b sz' lo n _
      split at h
      · rename_i sz'' n' row hb
        obtain ⟨hbb, hlo, h⟩ := h
        simp only [Bool.and_eq_true] at hbb
        have e1 := Nat.eq_of_beq_eq_true hbb.1
        have e2 := Nat.eq_of_beq_eq_true hbb.2
        split at h
        · -- within the block
          rename_i hlt
          obtain ⟨hfit0, hpos, hK⟩ := h
          subst e1 e2 hlo
          obtain ⟨o, ho, hB⟩ := hS.blk b _ hb
          cases hx with
          | @ms _ _ _ _ cb c e' m hj hsh hn hm =>
            rw [hj] at ho
            cases ho
            obtain ⟨C, e'', ⟨f, hC, hfz⟩, hCs, hCr⟩ := hB
            have hm' : C.size = m := by rw [shape_of hC] at hsh; simp at hsh; exact hsh.2
            simp only [Nat.zero_add, Nat.zero_mul] at hm ⊢
            have hge : n + k ≤ c := by
              have : n' * i.size ≤ c * i.size := by omega
              exact Nat.le_trans hfit0 (Nat.le_of_mul_le_mul_right this hpos)
            have hfit : (n + k) * i.size ≤ C.size := Nat.le_trans (Nat.mul_le_mul_right _ hfit0) hCs
            have hrun := append_room_run (P := P) (w := w) (ty := ty) hu hu' hd' hi hC hfz src.len hf0 src.size src.one hge hfit
            have hss : (C.toList.take (n * i.size) ++ news ++ C.toList.drop (n * i.size + news.length)).toArray.size = C.size := by
              rw [Nat.add_mul] at hfit
              have := src.size
              simp; omega
            have hev := ev_setRow (j := j) hC hss (List.mem_of_getElem? hj)
            have hRB : RB (w.setRow cb (C.toList.take (n * i.size) ++ news ++ C.toList.drop (n * i.size + news.length)).toArray) j (.arr i.size n' (setRows n k rows row)) (some cb) := by
              refine ⟨_, e'', ⟨f, setRow_heap w cb C _ e'' f hC, by rw [hss]; exact hfz⟩, by rw [hss]; exact hCs, fun q hq => ?_⟩
              rw [Nat.add_mul] at hfit
              have hsl := src.size
              have hgd : ∀ r, ((C.toList.take (n * i.size) ++ news ++ C.toList.drop (n * i.size + news.length)).toArray).getD r Go.undef = if n * i.size ≤ r ∧ r < n * i.size + news.length then news.getD (r - n * i.size) Go.undef else C.getD r Go.undef := fun r => setRow_getD (by omega)
              unfold setRows
              by_cases hqn : n ≤ q ∧ q < n + k
              · rw [if_pos hqn]
                refine ⟨src.rlen _ (by omega), fun r hr => ?_⟩
                have h3 : n * i.size ≤ q * i.size := Nat.mul_le_mul_right _ hqn.1
                have h4 : (q + 1) * i.size ≤ (n + k) * i.size := Nat.mul_le_mul_right _ hqn.2
                rw [Nat.succ_mul, Nat.add_mul] at h4
                have h5 : q * i.size + r - n * i.size = (q - n) * i.size + r := by rw [Nat.sub_mul]; omega
                rw [hgd, if_pos (by omega), h5]
                exact (src.rel (q - n) (by omega) r hr).mono hev
              · rw [if_neg hqn]
                refine ⟨(hCr q hq).1, fun r hr => ?_⟩
                have hout : ¬ (n * i.size ≤ q * i.size + r ∧ q * i.size + r < n * i.size + news.length) := by
                  rcases Nat.lt_or_ge q n with h1 | h1
                  · have : (q + 1) * i.size ≤ n * i.size := Nat.mul_le_mul_right _ h1
                    rw [Nat.succ_mul] at this
                    omega
                  · have : (n + k) * i.size ≤ q * i.size := Nat.mul_le_mul_right _ (by omega)
                    rw [Nat.add_mul] at this
                    omega
                rw [hgd, if_neg hout]
                exact ((hCr q hq).2 r hr).mono hev
            obtain ⟨g1, g2⟩ := hS.setRow (C' := (C.toList.take (n * i.size) ++ news ++ C.toList.drop (n * i.size + news.length)).toArray) hj hC hss (x := .arr i.size n' (setRows n k rows row)) hRB
            refine ⟨_, _, _, _, _, _, hrun, g1, ?_, g2, Nat.le_refl _, .refl _ _, hK⟩
            have hms : R (w.setRow cb (C.toList.take (n * i.size) ++ news ++ C.toList.drop (n * i.size + news.length)).toArray) j (.ms b i.size 0 (n + k)) (.slice (some ⟨cb, 0 * i.size, none⟩) (n + k) c) := by
              refine .ms c e' m hj ?_ hge (by simpa using hm)
              rw [shape_setRow hC hss]; exact hsh
            rwa [Nat.zero_mul] at hms
          | ms0 p hj =>
            rw [hj] at ho
            cases ho
            have : n' = 0 := hB
            omega
          | msE p e' m hj hsh hlo hm => exact absurd hlo (Nat.lt_irrefl 0)
        obtain ⟨hn', h63, hroom, hK⟩ := h
        subst e1 e2 hlo hn'
        obtain ⟨o, ho, hB⟩ := hS.blk b _ hb
        have hbl : b < j.length := by rw [hS.len]; exact (List.getElem?_eq_some_iff.1 hb).1
        have hbs : b < σ.length := (List.getElem?_eq_some_iff.1 hb).1
        cases hx with
        | @ms _ _ _ _ cb c e' m hj hsh hn hm =>
          rw [hj] at ho
          cases ho
          obtain ⟨C, e'', ⟨f, hC, hfz⟩, hCs, hCr⟩ := hB
          have hm' : C.size = m := by rw [shape_of hC] at hsh; simp at hsh; exact hsh.2
          simp only [Nat.zero_add, Nat.zero_mul] at hm ⊢
          rcases Nat.lt_or_ge c (n' + k) with hlt | hge
          · -- a new block
            let olds : List Value := C.toList.take (n' * i.size)
            have hol : olds.length = n' * i.size := by simp [olds]; omega
            have hog : ∀ q, q < n' * i.size → olds.getD q Go.undef = C.getD q Go.undef := by
              intro q hq; simp [olds, List.getD_eq_getElem?_getD, List.getElem?_take, hq, Array.getD_eq_getD_getElem?]
            have hof : (Builtin.firstCells i.size n' (.slice (some ⟨cb, 0, none⟩) n' c)).run P w.drew = .ok olds.toArray w.drew := by
              refine firstCells_of hol fun q hq => ?_
              rw [hol] at hq
              rw [add_off _ rfl, Nat.zero_add]
              show w.cell? _ = _
              rw [cell_of hC, hog q hq]
              simp [Array.getD_eq_getD_getElem?, show q < C.size by omega]
            have hrr : ∀ q, q < n' → ∀ r, r < i.size → RD w j ((row q).getD r default) (olds.getD (q * i.size + r) Go.undef) := by
              intro q hq r hr
              have hb : q * i.size + r < n' * i.size := by
                have : (q + 1) * i.size ≤ n' * i.size := Nat.mul_le_mul_right _ hq
                rw [Nat.succ_mul] at this; omega
              rw [hog _ hb]; exact (hCr q hq).2 r hr
            have hrun := append_grow_run (P := P) (w := w) (ty := ty) hu hu' hd' hi hz hof src.len hf1 hlt h63 hroom
            have hcap := grownCap_ge w (n' + k) c e
            have hcat := cat_rel (w := w) (j := j) (z := Builtin.zeroCells zz.cells (grownCap w (n' + k) c e - (n' + k))) hol src.size (fun q hq => (hCr q hq).1) src.rlen hrr src.rel
            have hcs : (olds.toArray ++ news.toArray ++ Builtin.zeroCells zz.cells (grownCap w (n' + k) c e - (n' + k))).size = grownCap w (n' + k) c e * i.size := by
              simp only [Array.size_append, List.size_toArray, hol, src.size, hzc, ← Nat.add_mul]
              congr 1; omega
            have hle : (n' + k) * i.size ≤ grownCap w (n' + k) c e * i.size := Nat.mul_le_mul_right _ hcap
            have hev0 : Ev j w.drew (j.set b (some w.heap.size)) (w.drew.alloc (.cells (olds.toArray ++ news.toArray ++ Builtin.zeroCells zz.cells (grownCap w (n' + k) c e - (n' + k))) e)) := ev_alloc _ _ _ _ _ (fun q hq hm => by
              rcases List.mem_or_eq_of_mem_set hm with hm | hm
              · exact hm
              · simp only [Option.some.injEq] at hm; subst hm; exact absurd hq (by simp))
            obtain ⟨g1, g2, g3⟩ := hS.drew.moved (b := b) hbl (C := olds.toArray ++ news.toArray ++ Builtin.zeroCells zz.cells (grownCap w (n' + k) c e - (n' + k))) (e := e) (x := .arr i.size (n' + k) (catRows n' row rows))
              ⟨_, e, .mk0 (heap_alloc_new _ _), by rw [hcs]; exact hle, fun q hq => ⟨(hcat q hq).1, fun r hr => (((hcat q hq).2 r hr).mono (ev_drew j w)).mono hev0⟩⟩
            refine ⟨_, _, _, _, _, _, hrun, g1, ?_, (ev_drew j w).trans g2, by simp, g3, hK⟩
            have hms : R (w.drew.alloc (.cells (olds.toArray ++ news.toArray ++ Builtin.zeroCells zz.cells (grownCap w (n' + k) c e - (n' + k))) e)) (j.set b (some w.heap.size)) (.ms b i.size 0 (n' + k)) (.slice (some ⟨w.heap.size, 0 * i.size, none⟩) (n' + k) (grownCap w (n' + k) c e)) := by
              refine .ms _ e (grownCap w (n' + k) c e * i.size) ?_ ?_ hcap (by simp)
              · rw [List.getElem?_set]; simp [hbl]
              · rw [← hcs]; exact shape_of (heap_alloc_new _ _)
            rwa [Nat.zero_mul] at hms
          · -- there is room
            have hfit : (n' + k) * i.size ≤ C.size := by
              rw [hm']; exact Nat.le_trans (Nat.mul_le_mul_right _ hge) (Nat.le_of_eq hm)
            have hrun := append_room_run (P := P) (w := w) (ty := ty) hu hu' hd' hi hC hfz src.len hf0 src.size src.one hge hfit
            have hss : (C.toList.take (n' * i.size) ++ news ++ C.toList.drop (n' * i.size + news.length)).toArray.size = C.size := by
              rw [Nat.add_mul] at hfit
              have := src.size
              simp; omega
            have hev := ev_setRow (j := j) hC hss (List.mem_of_getElem? hj)
            have hss2 := hS.scrub [b]
            have hRB : RB (w.setRow cb (C.toList.take (n' * i.size) ++ news ++ C.toList.drop (n' * i.size + news.length)).toArray) j (.arr i.size (n' + k) (catRows n' row rows)) (some cb) := by
              refine ⟨_, e'', ⟨f, setRow_heap w cb C _ e'' f hC, by rw [hss]; exact hfz⟩, by rw [hss]; exact hfit, fun q hq => ?_⟩
              rw [Nat.add_mul] at hfit
              have hsl := src.size
              have hgd : ∀ r, ((C.toList.take (n' * i.size) ++ news ++ C.toList.drop (n' * i.size + news.length)).toArray).getD r Go.undef = if n' * i.size ≤ r ∧ r < n' * i.size + news.length then news.getD (r - n' * i.size) Go.undef else C.getD r Go.undef := fun r => setRow_getD (by omega)
              unfold catRows
              by_cases hqn : q < n'
              · simp only [hqn, if_true]
                refine ⟨(hCr q hqn).1, fun r hr => ?_⟩
                have : (q + 1) * i.size ≤ n' * i.size := Nat.mul_le_mul_right _ hqn
                rw [Nat.succ_mul] at this
                rw [hgd, if_neg (by omega)]
                exact ((hCr q hqn).2 r hr).mono hev
              · simp only [hqn, if_false]
                refine ⟨src.rlen _ (by omega), fun r hr => ?_⟩
                have h3 : n' * i.size ≤ q * i.size := Nat.mul_le_mul_right _ (by omega)
                have h4 : (q + 1) * i.size ≤ (n' + k) * i.size := Nat.mul_le_mul_right _ hq
                rw [Nat.succ_mul, Nat.add_mul] at h4
                have h5 : q * i.size + r - n' * i.size = (q - n') * i.size + r := by rw [Nat.sub_mul]; omega
                rw [hgd, if_pos (by omega), h5]
                exact (src.rel (q - n') (by omega) r hr).mono hev
            obtain ⟨g1, g2⟩ := hss2.setRow (C' := (C.toList.take (n' * i.size) ++ news ++ C.toList.drop (n' * i.size + news.length)).toArray) hj hC hss (x := .arr i.size (n' + k) (catRows n' row rows)) hRB
            refine ⟨_, _, _, _, _, _, hrun, g1, ?_, g2, Nat.le_refl _, .refl _ _, hK⟩
            have hms : R (w.setRow cb (C.toList.take (n' * i.size) ++ news ++ C.toList.drop (n' * i.size + news.length)).toArray) j (.ms b i.size 0 (n' + k)) (.slice (some ⟨cb, 0 * i.size, none⟩) (n' + k) c) := by
              refine .ms c e' m hj ?_ hge (by simpa using hm)
              rw [shape_setRow hC hss]; exact hsh
            rwa [Nat.zero_mul] at hms
        | msE p e' m hj hsh hlo hm => exact absurd hlo (Nat.lt_irrefl 0)
        | ms0 p hj =>
          rcases Nat.eq_zero_or_pos k with hk | hk
          · subst hk
            have hn : news = [] := by have := src.size; simpa using this
            subst hn
            have hrun := append_none_run (P := P) (w := w) (ty := ty) hu hu' hd' hi (p := p) src.len hf0 (Nat.le_refl 0)
            have hss2 := hS.scrub [b]
            refine ⟨_, _, j, _, _, _, hrun, ⟨by simp [hS.len], hS.lt, hS.inj, fun q y hy => ?_⟩, .ms0 p hj, .refl _ _, Nat.le_refl _, .refl _ _, hK⟩
            rw [List.getElem?_set] at hy
            split at hy
            · rename_i hbq
              split at hy <;> simp at hy
              subst hbq hy
              exact ⟨none, hj, rfl⟩
            · exact hss2.blk q y hy
          · have hrun := append_grow_run (P := P) (w := w) (ty := ty) hu hu' hd' hi hz (p := p) (n := 0) (c := 0) (olds := []) (by
              cases p with
              | none => simp [Builtin.firstCells]
              | some a => exact firstCells_of (news := []) (by simp) (by simp)) src.len hf1 (by omega) h63 hroom
            have hcap := grownCap_ge w (0 + k) 0 e
            generalize grownCap w (0 + k) 0 e = gc at hrun hcap
            have hcat := cat_rel (w := w) (j := j) (n := 0) (row := row) (olds := []) (z := Builtin.zeroCells zz.cells (gc - (0 + k))) (by simp) src.size (by simp) src.rlen (by simp) src.rel
            have hcs : (([] : List Value).toArray ++ news.toArray ++ Builtin.zeroCells zz.cells (gc - (0 + k))).size = gc * i.size := by
              simp only [Array.size_append, List.size_toArray, List.length_nil, src.size, hzc, Nat.zero_add, ← Nat.add_mul]
              congr 1; omega
            have hle : (0 + k) * i.size ≤ gc * i.size := Nat.mul_le_mul_right _ hcap
            have hev0 : Ev j w.drew (j.set b (some w.heap.size)) (w.drew.alloc (.cells (([] : List Value).toArray ++ news.toArray ++ Builtin.zeroCells zz.cells (gc - (0 + k))) e)) := ev_alloc _ _ _ _ _ (fun q hq hm => by
              rcases List.mem_or_eq_of_mem_set hm with hm | hm
              · exact hm
              · simp only [Option.some.injEq] at hm; subst hm; exact absurd hq (by simp))
            obtain ⟨g1, g2, g3⟩ := hS.drew.moved (b := b) hbl (C := ([] : List Value).toArray ++ news.toArray ++ Builtin.zeroCells zz.cells (gc - (0 + k))) (e := e) (x := .arr i.size (0 + k) (catRows 0 row rows))
              ⟨_, e, .mk0 (heap_alloc_new _ _), by rw [hcs]; exact hle, fun q hq => ⟨(hcat q hq).1, fun r hr => (((hcat q hq).2 r hr).mono (ev_drew j w)).mono hev0⟩⟩
            refine ⟨_, _, _, _, _, _, hrun, g1, ?_, (ev_drew j w).trans g2, by simp, g3, hK⟩
            have hms : R (w.drew.alloc (.cells (([] : List Value).toArray ++ news.toArray ++ Builtin.zeroCells zz.cells (gc - (0 + k))) e)) (j.set b (some w.heap.size)) (.ms b i.size 0 (0 + k)) (.slice (some ⟨w.heap.size, 0 * i.size, none⟩) (0 + k) (gc)) := by
              refine .ms _ e (gc * i.size) ?_ ?_ hcap (by simp)
              · rw [List.getElem?_set]; simp [hbl]
              · rw [← hcs]; exact shape_of (heap_alloc_new _ _)
            rwa [Nat.zero_mul] at hms
      · exact h.elim
    · exact h.elim
  · exact h.elim
end Go.Abs

/-! Am -/
namespace Go.Abs
set_option linter.unusedVariables false
set_option linter.unusedSimpArgs false
theorem made_getD {z : Array Value} {m q : Nat} (hq : q < m) (hz : 0 < z.size) : (madeCells z m).getD q Go.undef = z.getD (q % z.size) Go.undef := by
  have h : q % z.size < z.size := Nat.mod_lt _ hz
  simp [madeCells, Array.getD_eq_getD_getElem?, hq, h]
def makeA (P : Program) (σ : List Blk) (t : TypeId) (l c : Int) (K : AV → List Blk → Prop) : Prop :=
  match slB P t with
  | some (e, sz, bytes, z) => (0 ≤ l ∧ l ≤ c ∧ (bytes : Int) * c ≤ 281474976710656 ∧ c ≤ 9223372036854775807) ∧ K (.ms σ.length sz 0 l.toNat) (σ ++ [.arr sz l.toNat fun _ => z.map .v])
  | none => False
theorem make_sound {P : Program} {w : World} {j : Js} {σ : List Blk} (hS : RelS w j σ) {t : TypeId} {kl kc : IntKind} {l c : Int} {K : AV → List Blk → Prop} (h : makeA P σ t l c K) :
    ∃ v w' j' r σ', (Instr.makeSlice t (.int kl l) (.int kc c)).run P w = .ok v w' ∧ RelS w' j' σ' ∧ R w' j' r v ∧ Ev j w j' w' ∧ j.length ≤ j'.length ∧ Ag j j' [] ∧ K r σ' := by
  unfold makeA at h
  split at h
  · rename_i e sz bytes z hsl
    obtain ⟨hu, i, zz, hi, hz, hsz, hby, hzz, hzs⟩ := slB_spec hsl
    obtain ⟨⟨h0, h1, h2, h3⟩, hK⟩ := h
    subst hsz hby hzz
    have hrun := run_make (P := P) w t e i zz hu hi hz kl kc l c h0 h1 h2 h3
    have hmul : l.toNat * i.size ≤ c.toNat * i.size := Nat.mul_le_mul_right _ (by omega)
    obtain ⟨g1, g2⟩ := hS.alloc (madeCells zz.cells (c.toNat * i.size)) e (.arr i.size l.toNat fun _ => zz.cells.toList.map .v) ⟨_, e, .mk0 (heap_alloc_new _ _), by rw [size_madeCells]; exact hmul, fun q hq => ⟨by simp [hzs], fun r hr => by
      have hlt : q * i.size + r < c.toNat * i.size := by
        have : (q + 1) * i.size ≤ l.toNat * i.size := Nat.mul_le_mul_right _ hq
        rw [Nat.succ_mul] at this; omega
      rw [made_getD hlt (by omega), hzs]
      have e1 : (q * i.size + r) % i.size = r := by rw [Nat.mul_comm, Nat.mul_add_mod, Nat.mod_eq_of_lt hr]
      rw [e1]
      have e2 : (zz.cells.toList.map D.v).getD r default = .v (zz.cells.getD r Go.undef) := by
        simp [List.getD_eq_getElem?_getD, Array.getD_eq_getD_getElem?, show r < zz.cells.size by omega]
      rw [e2]; exact .v _⟩⟩
    refine ⟨_, _, _, _, _, hrun, g1, ?_, g2, by simp, ag_append _ _, hK⟩
    have hms : R (w.alloc (.cells (madeCells zz.cells (c.toNat * i.size)) e)) (j ++ [some w.heap.size]) (.ms σ.length i.size 0 l.toNat) (.slice (some ⟨w.heap.size, 0 * i.size, none⟩) l.toNat c.toNat) := by
      refine .ms _ e (c.toNat * i.size) ?_ ?_ (by omega) (by simp)
      · rw [List.getElem?_append_right (by rw [hS.len]; omega)]; simp [hS.len]
      · rw [shape_of (heap_alloc_new _ _), size_madeCells]
    rwa [Nat.zero_mul] at hms
  · exact h.elim
def rep (z : List Value) : Nat → List Value
  | 0 => []
  | n + 1 => z ++ rep z n
theorem rep_length (z : List Value) : ∀ n, (rep z n).length = n * z.length
  | 0 => by simp [rep]
  | n + 1 => by simp [rep, rep_length z n, Nat.succ_mul]; omega
theorem rep_getD (z : List Value) : ∀ n q, q < n * z.length → (rep z n).getD q Go.undef = z.getD (q % z.length) Go.undef
  | 0, q, h => by simp at h
  | n + 1, q, h => by
    simp only [rep, List.getD_eq_getElem?_getD, List.getElem?_append]
    split
    · rename_i hq; rw [Nat.mod_eq_of_lt hq]
    · rename_i hq
      have hz : 0 < z.length := by
        rcases Nat.eq_zero_or_pos z.length with hh | hh
        · rw [hh] at h; simp at h
        · exact hh
      rw [← List.getD_eq_getElem?_getD, rep_getD z n (q - z.length) (by rw [Nat.succ_mul] at h; omega), ← List.getD_eq_getElem?_getD, ← Nat.mod_eq_sub_mod (by omega)]
def rowsOf (sz : Nat) (ds : List D) (i : Nat) : List D := (ds.drop (i * sz)).take sz
def buildSliceA (P : Program) (t : TypeId) (len : Nat) (parts : List (Nat × AV)) (K : AV → Prop) : Prop :=
  match slB P t with
  | some (e, sz, bytes, z) => Nat.ble (len * sz) 16777216 = true ∧ (match fillA ((List.range len).map fun i => (i * sz, sz)) ((rep z len).map fun v => .d (.v v)) parts with
    | some r => (match asDs r with
      | some ds => K (.d (.sl (some len) sz len (rowsOf sz ds)))
      | none => False)
    | none => False)
  | none => False
theorem buildSliceA_eq {P : Program} {t : TypeId} {len : Nat} {parts : List (Nat × AV)} {K : AV → Prop} (h : buildSliceA P t len parts K) : ∃ av, K av ∧ buildSliceA P t len parts fun r => r = av := by
  unfold buildSliceA at h ⊢
  split at h
  · obtain ⟨h0, h⟩ := h
    split at h
    · split at h
      · exact ⟨_, h, h0, rfl⟩
      · exact h.elim
    · exact h.elim
  · exact h.elim
theorem buildSliceA_ex {P : Program} {t : TypeId} {len : Nat} {parts : List (Nat × AV)} {K : AV → Prop} (h : buildSliceA P t len parts K) : ∃ av, K av := by
  unfold buildSliceA at h
  split at h
  · obtain ⟨_, h⟩ := h
    split at h
    · split at h
      · exact ⟨_, h⟩
      · exact h.elim
    · exact h.elim
  · exact h.elim
theorem buildSlice_sound {P : Program} {w : World} {j : Js} {σ : List Blk} (hS : RelS w j σ) {t : TypeId} {len : Nat} {parts : List (Nat × AV)} {vals : List (Nat × Value)} {K : AV → Prop} (h : buildSliceA P t len parts K)
    (h3 : parts.length = vals.length) (h4 : ∀ k, k < parts.length → (parts.getD k (0, .undef)).1 = (vals.getD k (0, Go.undef)).1 ∧ R w j (parts.getD k (0, .undef)).2 (vals.getD k (0, Go.undef)).2) :
    ∃ v w' r, (Instr.buildSlice t len vals.toArray).run P w = .ok v w' ∧ RelS w' j σ ∧ R w' j r v ∧ Ev j w j w' ∧ K r := by
  unfold buildSliceA at h
  split at h
  · rename_i e sz bytes z hsl
    obtain ⟨hu, i, zz, hi, hz, hsz, hby, hzz, hzs⟩ := slB_spec hsl
    obtain ⟨hle, h⟩ := h
    split at h
    · rename_i r hr
      split at h
      · rename_i ds hds
        obtain ⟨hdl0, hds⟩ := asDs_spec hds
        subst hsz hby hzz
        simp only [Nat.ble_eq] at hle
        have hrl : (rep zz.cells.toList len).length = len * i.size := by rw [rep_length]; simp [hzs]
        have hini : ∀ k, k < ((rep zz.cells.toList len).map fun v => AV.d (.v v)).length → R w j (((rep zz.cells.toList len).map fun v => AV.d (.v v)).getD k .undef) ((madeCells zz.cells (len * i.size)).getD k Go.undef) := by
          intro k hk
          simp only [List.length_map, hrl] at hk
          have hsz : 0 < i.size := by
            rcases Nat.eq_zero_or_pos i.size with hh | hh
            · rw [hh] at hk; simp at hk
            · exact hh
          have e1 : ((rep zz.cells.toList len).map fun v => AV.d (.v v)).getD k .undef = AV.d (.v ((rep zz.cells.toList len).getD k Go.undef)) := by
            simp [List.getD_eq_getElem?_getD, show k < (rep zz.cells.toList len).length by omega]
          rw [e1, rep_getD _ _ _ (by simpa [hzs] using hk), made_getD hk (by omega)]
          have e2 : zz.cells.toList.getD (k % zz.cells.toList.length) Go.undef = zz.cells.getD (k % zz.cells.size) Go.undef := by
            simp [List.getD_eq_getElem?_getD, Array.getD_eq_getD_getElem?]
          rw [e2]; exact .d (.v _)
        obtain ⟨C', f1, f2, f3, f4⟩ := fill_sound (w := w) (j := j) (pl := fun q => some (q * i.size, i.size)) (C := madeCells zz.cells (len * i.size)) (fun q x hx => by
            simp only [List.getElem?_map, Option.map_eq_some_iff] at hx
            obtain ⟨q', hq', rfl⟩ := hx
            obtain ⟨hlt, he⟩ := List.getElem?_eq_some_iff.1 hq'
            simp at he
            rw [he]) (by rw [size_madeCells]; simp [hrl]) hini h3 h4 hr
        have hdl : ds.length = len * i.size := by
          have : r.length = len * i.size := by rw [f3]; simp [hrl]
          rw [hdl0]; exact this
        have hrun : (Instr.buildSlice t len vals.toArray).run P w = .ok (.slice (some ⟨w.heap.size, 0, none⟩) len len) (w.alloc (.cells C' e)) := by
          have hgt : ¬ (16777216 < len * i.size) := by omega
          by_cases h0 : len * i.size = 0
          · have hm : (Array.range 0).map (fun q => (#[] : Array Value)[q % (#[] : Array Value).size]!) = madeCells zz.cells (len * i.size) := by rw [h0]; simp [madeCells]
            simp only [Instr.buildSlice, Sem.run_bind, run_underlying hu, Result.andThen_ok, Go.sizeOf, typeInfo, run_program, hi, Sem.run_pure, h0, Sem.run_ite, if_true]
            rw [if_neg (by decide)]
            simp only [Result.andThen_ok, Sem.run_pure, hm, f1, newRow, Sem.run_bind, run_newObj]
            rfl
          · simp only [Instr.buildSlice, Sem.run_bind, run_underlying hu, Result.andThen_ok, Go.sizeOf, typeInfo, run_program, hi, Sem.run_pure, h0, Sem.run_ite, if_false]
            rw [if_neg (by omega)]
            have hm : (Array.range (len * i.size)).map (fun q => zz.cells[q % zz.cells.size]!) = madeCells zz.cells (len * i.size) := rfl
            simp only [Result.andThen_ok, Sem.run_pure, zeroValue, typeInfo, Sem.run_bind, run_program, hi, hz, hm, f1, newRow, run_newObj]
            rfl
        have he : Ev j w j (w.alloc (.cells C' e)) := ev_alloc _ _ _ _ _ (fun _ _ h => h)
        have hcell : ∀ q, q < len * i.size → (w.alloc (.cells C' e)).cell? ⟨w.heap.size, q, none⟩ = some (C'.getD q Go.undef) := by
          intro q hq
          rw [cell_of (heap_alloc_new w _)]
          have : q < C'.size := by rw [f2, f3]; simp [hrl]; exact hq
          simp [Array.getD_eq_getD_getElem?, this]
        refine ⟨_, _, _, hrun, ⟨hS.len, fun b cb hb => by have := hS.lt b cb hb; simp; omega, hS.inj, fun b x hx => ?_⟩, ?_, he, h⟩
        · obtain ⟨o, ho, hB⟩ := hS.blk b x hx
          refine ⟨o, ho, hB.mono he hS.lt (.refl _ _) fun cb hcb => ?_⟩
          subst hcb
          exact heap_push_old w _ (hS.lt b cb ho)
        · rcases Nat.eq_zero_or_pos len with hl0 | hl0
          · subst hl0; exact .d (.zero _ _ (.inr rfl) (by simp))
          refine .d (.sl _ _ (fun q k => C'.getD (q * i.size + k) Go.undef) (.inr rfl) (Nat.le_refl _) rfl (by simp) (fun hm => ?_) (fun q hq => ?_) (fun q hq k hk => ?_) (fun q hq k hk => ?_))
          · obtain ⟨b, hb⟩ := List.getElem?_of_mem hm
            have := hS.lt b _ hb; simp at this
          · have : (q + 1) * i.size ≤ len * i.size := Nat.mul_le_mul_right _ hq
            rw [Nat.succ_mul] at this
            simp [rowsOf, hdl]; omega
          · have : (q + 1) * i.size ≤ len * i.size := Nat.mul_le_mul_right _ hq
            rw [Nat.succ_mul] at this
            have := hcell (q * i.size + k) (by omega)
            simpa using this
          · have hle2 : (q + 1) * i.size ≤ len * i.size := Nat.mul_le_mul_right _ hq
            rw [Nat.succ_mul] at hle2
            have hlt : q * i.size + k < r.length := by rw [f3]; simp [hrl]; omega
            have := (f4 _ hlt).mono0 he hS.lt (.refl _ _)
            have this := hds hlt this
            have e2 : (rowsOf i.size ds q).getD k default = ds.getD (q * i.size + k) default := by
              simp [rowsOf, List.getD_eq_getElem?_getD, List.getElem?_take, hk]
            rw [e2]
            exact this
      · exact h.elim
    · exact h.elim
  · exact h.elim
def appendD (P : Program) (σ : List Blk) (t t' : TypeId) (x y : AV) (K : AV → Prop) : Prop :=
  match slB P t with
  | some (e, sz, bytes, z) => (Nat.beq (lenT P t') 1 || Nat.beq (lenT P t') 2) = true ∧ srcA σ sz y fun k rows =>
    match x with
    | .d (.sl (some 0) sz' 0 row) => Nat.beq sz sz' = true ∧ k ≤ 9223372036854775807 ∧ k * bytes ≤ 140737488355328 ∧ K (.d (.sl none sz k rows))
    | .d (.sl (some c) sz' n row) => Nat.beq sz sz' = true ∧ c = n ∧ 0 < k ∧ n + k ≤ 9223372036854775807 ∧ (n + k) * bytes ≤ 140737488355328 ∧ K (.d (.sl none sz (n + k) (catRows n row rows)))
    | _ => False
  | none => False
theorem srcA_eq {σ : List Blk} {sz : Nat} {y : AV} {K : Nat → (Nat → List D) → Prop} (h : srcA σ sz y K) : ∃ k rows, K k rows ∧ srcA σ sz y fun k' rows' => k' = k ∧ rows' = rows := by
  unfold srcA at h ⊢
  split at h
  · exact ⟨_, _, h.2.2, h.1, h.2.1, rfl, rfl⟩
  · exact ⟨_, _, h, rfl, rfl⟩
  · split at h
    · rename_i hb
      exact ⟨_, _, h.2.2.2, h.1, h.2.1, h.2.2.1, rfl, rfl⟩
    · exact h.elim
  · split at h
    · rename_i hb
      exact ⟨_, _, h.2.2.2, h.1, h.2.1, h.2.2.1, rfl, rfl⟩
    · exact h.elim
  · exact ⟨_, _, h.2, h.1, rfl, rfl⟩
  · exact h.elim
theorem appendD_eq {P : Program} {σ : List Blk} {t t' : TypeId} {x y : AV} {K : AV → Prop} (h : appendD P σ t t' x y K) : ∃ av, K av ∧ appendD P σ t t' x y fun r => r = av := by
  unfold appendD at h ⊢
  split at h
  · rename_i e sz bytes z hsl
    obtain ⟨h0, h⟩ := h
    obtain ⟨k, rows, h, hs⟩ := srcA_eq h
    have key : ∀ {K' : Nat → (Nat → List D) → Prop}, K' k rows → srcA σ sz y K' := by
      intro K' hK'
      unfold srcA at hs ⊢
      split at hs
      · exact ⟨hs.1, hs.2.1, by obtain ⟨_, _, h1, h2⟩ := hs; rw [h1, h2]; exact hK'⟩
      · obtain ⟨h1, h2⟩ := hs; rw [h1, h2]; exact hK'
      · split at hs
        · rename_i hb
          obtain ⟨a1, a2, a3, h1, h2⟩ := hs
          exact ⟨a1, a2, a3, by rw [h1, h2]; exact hK'⟩
        · exact hs.elim
      · split at hs
        · rename_i hb
          obtain ⟨a1, a2, a3, h1, h2⟩ := hs
          exact ⟨a1, a2, a3, by rw [h1, h2]; exact hK'⟩
        · exact hs.elim
      · obtain ⟨a1, h1, h2⟩ := hs
        exact ⟨a1, by rw [h1, h2]; exact hK'⟩
      · exact hs.elim
    split at h
    · exact ⟨_, h.2.2.2, h0, key ⟨h.1, h.2.1, h.2.2.1, rfl⟩⟩
    · exact ⟨_, h.2.2.2.2.2, h0, key ⟨h.1, h.2.1, h.2.2.1, h.2.2.2.1, h.2.2.2.2.1, rfl⟩⟩
    · exact h.elim
  · exact h.elim
theorem appendD_new {w : World} {j : Js} {σ : List Blk} (hS : RelS w j σ) {sz n k cap : Nat} {row rows : Nat → List D} {olds news : List Value} {z : Array Value} {e : TypeId} (ho : olds.length = n * sz) (hn : news.length = k * sz) (hl1 : ∀ i, i < n → (row i).length = sz) (hl2 : ∀ i, i < k → (rows i).length = sz)
    (h1 : ∀ i, i < n → ∀ q, q < sz → RD w j ((row i).getD q default) (olds.getD (i * sz + q) Go.undef)) (h2 : ∀ i, i < k → ∀ q, q < sz → RD w j ((rows i).getD q default) (news.getD (i * sz + q) Go.undef)) (hz : z.size = (cap - (n + k)) * sz) (hcap : n + k ≤ cap) :
    let w' := w.drew.alloc (.cells (olds.toArray ++ news.toArray ++ z) e)
    RelS w' j σ ∧ RD w' j (.sl none sz (n + k) (catRows n row rows)) (.slice (some ⟨w.heap.size, 0, none⟩) (n + k) cap) ∧ Ev j w j w' := by
  intro w'
  have he : Ev j w j w' := (ev_drew j w).trans (ev_alloc _ _ _ _ _ (fun _ _ h => h))
  have hcs : (olds.toArray ++ news.toArray ++ z).size = cap * sz := by
    simp only [Array.size_append, List.size_toArray, ho, hn, hz, ← Nat.add_mul]
    congr 1; omega
  have hrow := cat_rel (w := w) (j := j) (z := z) ho hn hl1 hl2 h1 h2
  have hle : (n + k) * sz ≤ cap * sz := Nat.mul_le_mul_right _ hcap
  refine ⟨⟨hS.len, fun b cb hb => Nat.lt_of_lt_of_le (hS.lt b cb hb) he.size, hS.inj, fun b x hx => ?_⟩, ?_, he⟩
  · obtain ⟨o, ho, hB⟩ := hS.blk b x hx
    refine ⟨o, ho, hB.mono he hS.lt (.refl _ _) fun cb hcb => ?_⟩
    subst hcb
    exact heap_push_old w.drew _ (hS.lt b cb ho)
  · refine .sl _ _ (fun q r => (olds.toArray ++ news.toArray ++ z).getD (q * sz + r) Go.undef) (.inl rfl) hcap rfl (by simp [w']) (fun hm => ?_) (fun q hq => (hrow q hq).1) (fun q hq r hr => ?_) (fun q hq r hr => ((hrow q hq).2 r hr).mono he)
    · obtain ⟨b, hb⟩ := List.getElem?_of_mem hm
      have := hS.lt b _ hb; simp at this
    · have h9 : (q + 1) * sz ≤ (n + k) * sz := Nat.mul_le_mul_right _ hq
      rw [Nat.succ_mul] at h9
      have hlt : q * sz + r < (olds.toArray ++ news.toArray ++ z).size := by omega
      have := cell_of (w := w') (heap_alloc_new w.drew (.cells (olds.toArray ++ news.toArray ++ z) e)) (q * sz + r)
      rw [Nat.zero_add]
      refine this.trans ?_
      rw [Array.getD_eq_getD_getElem?, Array.getElem?_eq_getElem hlt]; rfl
theorem appendD_sound {P : Program} {w : World} {j : Js} {σ : List Blk} (hS : RelS w j σ) {t t' ty : TypeId} {x y : AV} {vx vy : Value} {K : AV → Prop} (h : appendD P σ t t' x y K) (hx : R w j x vx) (hy : R w j y vy) :
    ∃ v w' r, (Builtin.append_ #[t, t'] ty #[vx, vy]).run P w = .ok v w' ∧ RelS w' j σ ∧ R w' j r v ∧ Ev j w j w' ∧ K r := by
  unfold appendD at h
  split at h
  · rename_i e sz bytes z hsl
    obtain ⟨hu, i, zz, hi, hz, hsz, hby, hzz, hzs⟩ := slB_spec hsl
    obtain ⟨ht', h⟩ := h
    obtain ⟨d', hu', hd'⟩ := lenT_d ht'
    obtain ⟨k, rows, news, h, src⟩ := src_sound (P := P) hS h hy
    subst hsz hby
    have hf0 := src.first w (fun _ _ => rfl)
    have hf1 := src.first w.drew (fun _ _ => rfl)
    have hzc : ∀ m, (Builtin.zeroCells zz.cells m).size = m * i.size := by intro m; rw [size_zeroCells, hzs]
    split at h
    · rename_i sz' row
      obtain ⟨hb, h63, hroom, hK⟩ := h
      have := Nat.eq_of_beq_eq_true hb
      subst this
      have hval : ∃ p, vx = .slice p 0 0 := by
        cases hx with | d hx =>
        cases hx with
        | sl a c' val hcap _ _ _ _ _ _ _ => rcases hcap with h | h <;> simp at h; subst h; exact ⟨_, rfl⟩
        | zero p c' hcap _ => rcases hcap with h | h <;> simp at h; subst h; exact ⟨_, rfl⟩
      obtain ⟨p, rfl⟩ := hval
      rcases Nat.eq_zero_or_pos k with hk | hk
      · subst hk
        have hn : news = [] := by have := src.size; simpa using this
        subst hn
        exact ⟨_, _, _, append_none_run hu hu' hd' hi src.len hf0 (Nat.le_refl 0), hS, .d (.zero p 0 (.inl rfl) fun _ => rfl), .refl _ _, hK⟩
      · have hfp : (Builtin.firstCells i.size 0 (.slice p 0 0)).run P w.drew = .ok ([] : List Value).toArray w.drew := by
          cases p with
          | none => simp [Builtin.firstCells]
          | some a => exact firstCells_of (news := []) (by simp) (by simp)
        have hrun := append_grow_run (P := P) (w := w) (ty := ty) hu hu' hd' hi hz (p := p) (n := 0) (c := 0) (olds := []) hfp src.len hf1 (by omega) (by omega) (by simpa using hroom)
        have hcap := grownCap_ge w (0 + k) 0 e
        obtain ⟨g1, g2, g3⟩ := appendD_new hS (sz := i.size) (n := 0) (k := k) (cap := grownCap w (0 + k) 0 e) (row := rows) (rows := rows) (olds := []) (news := news) (z := Builtin.zeroCells zz.cells (grownCap w (0 + k) 0 e - (0 + k))) (e := e) (by simp) src.size (by simp) src.rlen (by simp) src.rel (hzc _) hcap
        have ecat : catRows 0 rows rows = rows := by funext q; simp [catRows]
        rw [ecat] at g2
        simp only [Nat.zero_add] at hrun g1 g2 g3
        exact ⟨_, _, _, hrun, g1, .d g2, g3, hK⟩
    · rename_i c sz' n0 row _ _
      obtain ⟨hb, hcn, hk, h63, hroom, hK⟩ := h
      have := Nat.eq_of_beq_eq_true hb
      subst this hcn
      have hval : ∃ (p : Option Addr) (olds : List Value), vx = .slice p c c ∧ olds.length = c * i.size ∧ (∀ w', (∀ b, b < w.heap.size → w'.heap[b]? = w.heap[b]?) → (Builtin.firstCells i.size c vx).run P w' = .ok olds.toArray w') ∧ (∀ q, q < c → (row q).length = i.size) ∧ ∀ q, q < c → ∀ r, r < i.size → RD w j ((row q).getD r default) (olds.getD (q * i.size + r) Go.undef) := by
        cases hx with | d hx =>
        cases hx with
        | sl a c' val hcap hle ha hlt hbj hlen hcell hrel =>
          rcases hcap with h | h <;> simp at h
          subst h
          let olds : List Value := (List.range (c * i.size)).map fun q => val (q / i.size) (q % i.size)
          have hsize : olds.length = c * i.size := by simp [olds]
          have hget : ∀ q, q < c * i.size → olds.getD q Go.undef = val (q / i.size) (q % i.size) := by
            intro q hq; simp [olds, List.getD_eq_getElem?_getD, hq]
          refine ⟨_, olds, rfl, hsize, fun w' hw' => firstCells_of hsize fun q hq => cell_same hw' ?_, hlen, fun q hq r hr => ?_⟩
          · rw [hsize] at hq
            have hsz : 0 < i.size := by
              rcases Nat.eq_zero_or_pos i.size with h | h
              · rw [h] at hq; simp at hq
              · exact h
            have h1 : q / i.size < c := Nat.div_lt_of_lt_mul (by rwa [Nat.mul_comm] at hq)
            have h2 : q % i.size < i.size := Nat.mod_lt _ hsz
            have h4 : q / i.size * i.size + q % i.size = q := by rw [Nat.mul_comm]; exact Nat.div_add_mod q i.size
            rw [add_off _ ha, hget q hq, ← hcell _ h1 _ h2, Nat.add_assoc, h4]
          · have hb : q * i.size + r < c * i.size := by
              have : (q + 1) * i.size ≤ c * i.size := Nat.mul_le_mul_right _ hq
              rw [Nat.succ_mul] at this; omega
            rw [hget _ hb]
            have e1 : (q * i.size + r) / i.size = q := by
              rw [Nat.mul_comm, Nat.mul_add_div (by omega), Nat.div_eq_of_lt hr]; rfl
            have e2 : (q * i.size + r) % i.size = r := by
              rw [Nat.mul_comm, Nat.mul_add_mod, Nat.mod_eq_of_lt hr]
            rw [e1, e2]; exact hrel q hq r hr
        | zero p c' hcap hp =>
          rcases hcap with h | h <;> simp at h
          subst h
          refine ⟨p, [], rfl, by simp, fun w' hw' => ?_, by simp, by simp⟩
          cases p with
          | none => simp [Builtin.firstCells]
          | some a => exact firstCells_of (news := []) (by simp) (by simp)
      obtain ⟨p, olds, rfl, hol, hof, hrl, hrr⟩ := hval
      have hrun := append_grow_run (P := P) (w := w) (ty := ty) hu hu' hd' hi hz (hof w.drew fun _ _ => rfl) src.len hf1 (by omega) h63 hroom
      obtain ⟨g1, g2, g3⟩ := appendD_new hS (e := e) hol src.size hrl src.rlen hrr src.rel (hzc _) (grownCap_ge w (c + k) c e)
      exact ⟨_, _, _, hrun, g1, .d g2, g3, hK⟩
    · exact h.elim
  · exact h.elim
end Go.Abs
