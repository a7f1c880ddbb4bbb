/- Abstract values: arguments that read as data are abstract values; a law's row out of its contract. -/
import Derived.Test.YtplpklikapkloaaAz
import Derived.ProofKit
import Derived.OpenShut
import Derived.ShutString
import Derived.ChangeOld
import Derived.Below
import Derived.Carry
import Derived.Deep.Slices
namespace Go.Abs
open Go.ChangeShapes Go.WideShapes Go.ChangeAt Go.RowKit Go.Deep
set_option linter.unusedVariables false
set_option linter.unusedSimpArgs false

def RDs (w : World) (ds : List D) (cs : List Value) : Prop := cs.length = ds.length ∧ ∀ k, k < ds.length → RD w [] (ds.getD k default) (cs.getD k Go.undef)

theorem RDs.nil (w : World) : RDs w [] [] := ⟨rfl, by simp⟩

theorem RDs.append {w : World} {a b : List D} {c e : List Value} (h : RDs w a c) (k : RDs w b e) : RDs w (a ++ b) (c ++ e) := by
  refine ⟨by simp [h.1, k.1], fun i hi => ?_⟩
  rcases Nat.lt_or_ge i a.length with hl | hl
  · have := h.2 i hl
    rw [List.getD_eq_getElem?_getD, List.getD_eq_getElem?_getD, List.getElem?_append_left hl, List.getElem?_append_left (by rw [h.1]; exact hl)]
    rwa [List.getD_eq_getElem?_getD, List.getD_eq_getElem?_getD] at this
  · have := k.2 (i - a.length) (by simp at hi; omega)
    rw [List.getD_eq_getElem?_getD, List.getD_eq_getElem?_getD, List.getElem?_append_right hl, List.getElem?_append_right (by rw [h.1]; exact hl), h.1]
    rwa [List.getD_eq_getElem?_getD, List.getD_eq_getElem?_getD] at this

theorem RDs.one {w : World} {d : D} {c : Value} (h : RD w [] d c) : RDs w [d] [c] := ⟨rfl, fun k hk => by
  have : k = 0 := by simpa using hk
  subst this; exact h⟩

/-- what reads at type t is so -/
def Opn (P : Program) (t : TypeId) (g : List D → Prop) : Prop :=
  ∀ (H : Type) (enc : TypeId × Value → H) (w : World) (base : Nat) (spare : Nat → Bool) (held : Bool) (fuel : Nat) (cs : List Value) (x : DataW H × List MemPlace), DataW.trod enc P w base spare held fuel t cs = some x → ∃ ds, g ds ∧ RDs w ds cs

section
variable {P : Program} {t : TypeId}

theorem Opn.mono {g g' : List D → Prop} (h : Opn P t g) (hg : ∀ ds, g ds → g' ds) : Opn P t g' := fun H enc w base spare held fuel cs x hx =>
  let ⟨ds, h1, h2⟩ := h H enc w base spare held fuel cs x hx
  ⟨ds, hg ds h1, h2⟩

theorem opn_int {k : IntKind} (ht : P.underlying t = some (.int k)) : Opn P t fun ds => ∃ n, ds = [.v (.int k n)] ∧ (Lit.int k n).wf = true := by
  intro H enc w base spare held fuel cs x hx
  obtain ⟨n, rfl, _, hw⟩ := DataW.trod_int ht hx
  exact ⟨_, ⟨n, rfl, hw⟩, .one (.v _)⟩

theorem opn_bool (ht : P.underlying t = some .bool) : Opn P t fun ds => ∃ b, ds = [.v (.bool b)] := by
  intro H enc w base spare held fuel cs x hx
  obtain ⟨n, rfl, _⟩ := DataW.trod_bool ht hx
  exact ⟨_, ⟨n, rfl⟩, .one (.v _)⟩

theorem opn_string (ht : P.underlying t = some .string) : Opn P t fun ds => ∃ s : ByteArray, ds = [.v (.string s)] ∧ s.size ≤ maxLen := by
  intro H enc w base spare held fuel cs x hx
  obtain ⟨n, rfl, _, hw⟩ := DataW.trod_string ht hx
  exact ⟨_, ⟨n, rfl, hw⟩, .one (.v _)⟩

/-- parts one behind the other -/
def Goods : List (List D → Prop) → List D → Prop
  | [], ds => ds = []
  | g :: gs, ds => ∃ a b, ds = a ++ b ∧ g a ∧ Goods gs b

def fieldsAt (P : Program) (tot : Nat) : Nat → List Field → Bool
  | off, [] => Nat.beq off tot
  | off, f :: fs => Nat.beq f.offset off && fieldsAt P tot (off + P.cellsOf f.type) fs

inductive All2 {α β : Type} (r : α → β → Prop) : List α → List β → Prop
  | nil : All2 r [] []
  | cons {a : α} {b : β} {as : List α} {bs : List β} (h : r a b) (t : All2 r as bs) : All2 r (a :: as) (b :: bs)

theorem fieldsAt_le {tot : Nat} : ∀ {fs : List Field} {off : Nat}, fieldsAt P tot off fs = true → off ≤ tot
  | [], off, h => by have := Nat.eq_of_beq_eq_true h; omega
  | f :: fs, off, h => by
    simp [fieldsAt] at h
    have := fieldsAt_le h.2
    omega

theorem opn_fields {H : Type} {enc : TypeId × Value → H} {w : World} {base : Nat} {spare : Nat → Bool} {held : Bool} {fuel : Nat} {cs : List Value} :
    ∀ {fs : List Field} {gs : List (List D → Prop)} {off : Nat}, All2 (fun f g => Opn P f.type g) fs gs → fieldsAt P cs.length off fs = true →
      (∀ f ∈ fs, ∃ y, DataW.trod enc P w base spare held fuel f.type ((cs.drop f.offset).take (P.cellsOf f.type)) = some y) → ∃ ds, Goods gs ds ∧ RDs w ds (cs.drop off)
  | [], _, off, .nil, hf, _ => by
    have := Nat.eq_of_beq_eq_true hf
    refine ⟨[], rfl, ?_⟩
    rw [List.drop_eq_nil_of_le (by omega)]
    exact .nil w
  | f :: fs, _, off, .cons h hs, hf, hy => by
    simp [fieldsAt] at hf
    obtain ⟨h1, h2⟩ := hf
    have hle := fieldsAt_le h2
    obtain ⟨y, hy0⟩ := hy f (by simp)
    obtain ⟨a, ga, ra⟩ := h _ _ _ _ _ _ _ _ _ hy0
    obtain ⟨b, gb, rb⟩ := opn_fields hs h2 fun f' hf' => hy f' (List.mem_cons_of_mem _ hf')
    refine ⟨a ++ b, ⟨a, b, rfl, ga, gb⟩, ?_⟩
    have := ra.append rb
    rwa [h1, ← List.drop_drop, List.take_append_drop] at this

theorem opn_struct {fs : Array Field} {gs : List (List D → Prop)} (ht : P.underlying t = some (.struct fs)) (hat : fieldsAt P (P.cellsOf t) 0 fs.toList = true) (h : All2 (fun f g => Opn P f.type g) fs.toList gs) : Opn P t (Goods gs) := by
  intro H enc w base spare held fuel cs x hx
  obtain ⟨xs, n, _, _, hlen, hxl, hf⟩ := DataW.trod_struct ht hx
  rw [← hlen] at hat
  have := opn_fields (H := H) (enc := enc) (w := w) (base := base) (spare := spare) (held := held) (fuel := n) (cs := cs) (off := 0) h hat ?_
  · simpa using this
  intro f hm
  obtain ⟨i, hi⟩ := List.getElem?_of_mem hm
  have hi' : fs[i]? = some f := by simpa using hi
  have hlt : i < xs.length := by rw [hxl]; exact (Array.getElem?_eq_some_iff.1 hi').1
  exact ⟨xs[i], (hf i f hi').trans (List.getElem?_eq_getElem hlt)⟩

theorem opn_elems {H : Type} {enc : TypeId × Value → H} {w : World} {base : Nat} {spare : Nat → Bool} {held : Bool} {fuel : Nat} {cs : List Value} {e : TypeId} {g : List D → Prop} (h : Opn P e g) :
    ∀ (n i : Nat), cs.length = (i + n) * P.cellsOf e → (∀ k, i ≤ k → k < i + n → ∃ y, DataW.trod enc P w base spare held fuel e ((cs.drop (k * P.cellsOf e)).take (P.cellsOf e)) = some y) → ∃ ds, Goods (List.replicate n g) ds ∧ RDs w ds (cs.drop (i * P.cellsOf e))
  | 0, i, hl, _ => by
    refine ⟨[], rfl, ?_⟩
    rw [List.drop_eq_nil_of_le (by simp at hl; omega)]
    exact .nil w
  | n + 1, i, hl, hy => by
    obtain ⟨y, hy0⟩ := hy i (Nat.le_refl _) (by omega)
    obtain ⟨a, ga, ra⟩ := h _ _ _ _ _ _ _ _ _ hy0
    obtain ⟨b, gb, rb⟩ := opn_elems h n (i + 1) (by rw [hl]; congr 1; omega) fun k hk hk' => hy k (by omega) (by omega)
    refine ⟨a ++ b, ⟨a, b, rfl, ga, gb⟩, ?_⟩
    have := ra.append rb
    rwa [show (i + 1) * P.cellsOf e = i * P.cellsOf e + P.cellsOf e from Nat.succ_mul _ _, ← List.drop_drop, List.take_append_drop] at this

theorem opn_array {n : Nat} {e : TypeId} {g : List D → Prop} (ht : P.underlying t = some (.array n e)) (hc : P.cellsOf t = n * P.cellsOf e) (h : Opn P e g) : Opn P t (Goods (List.replicate n g)) := by
  intro H enc w base spare held fuel cs x hx
  obtain ⟨xs, m, _, _, hlen, hxl, hf⟩ := DataW.trod_array ht hx
  have := opn_elems (cs := cs) (w := w) (enc := enc) (base := base) (spare := spare) (held := held) (fuel := m) h n 0 (by rw [hlen, hc]; simp) fun k _ hk => ⟨xs[k]'(by omega), (hf k (by omega)).trans (List.getElem?_eq_getElem (by omega))⟩
  simpa using this

theorem add_none (b off n : Nat) : (⟨b, off, none⟩ : Addr).add n = ⟨b, off + n, none⟩ := by
  unfold Addr.add
  split <;> simp_all

theorem opn_slice {e : TypeId} {g : List D → Prop} {sz : Nat} (d0 : List D) (ht : P.underlying t = some (.slice e)) (hC : P.cellsOf e = sz) (hsz : 0 < sz) (h : Opn P e g) (h0 : g d0) : Opn P t fun ds => ∃ n row, ds = [.sl none sz n row] ∧ n ≤ maxLen ∧ ∀ i, g (row i) := by
  intro H enc w base spare held fuel cs x hx
  rcases open_slice ht hx with ⟨rfl, _⟩ | ⟨a, len, cap, m, n, DD, Pl, rfl, hb, hl, hm, hmm, _, hi⟩
  · exact ⟨_, ⟨0, fun _ => d0, rfl, by simp, fun _ => h0⟩, .one (.zero none 0 (.inl rfl) fun _ => rfl)⟩
  · have hml : len ≤ m := by rw [hmm]; split <;> omega
    have key : ∀ i, ∃ ds, g ds ∧ (i < len → ∃ cs', cs'.length = sz ∧ (∀ k, k < sz → w.cell? (a.add (i * sz + k)) = some (cs'.getD k Go.undef)) ∧ RDs w ds cs') := by
      intro i
      by_cases hil : i < len
      · obtain ⟨cs', h1, h2⟩ := hi i (by omega)
        rw [hC] at h1
        obtain ⟨_, hcl, hat⟩ := World.cells?_some h1
        obtain ⟨ds, g1, g2⟩ := h _ _ _ _ _ _ _ _ _ h2
        refine ⟨ds, g1, fun _ => ⟨cs', hcl, fun k hk => ?_, g2⟩⟩
        have := hat k hk
        rw [← Go.Deep.add_add, this, List.getD_eq_getElem?_getD, List.getElem?_eq_getElem (by omega)]
        rfl
      · exact ⟨d0, h0, fun hh => absurd hh hil⟩
    obtain ⟨row, hgr⟩ : ∃ row : Nat → List Abs.D, ∀ i, g (row i) ∧ (i < len → ∃ cs', cs'.length = sz ∧ (∀ k, k < sz → w.cell? (a.add (i * sz + k)) = some (cs'.getD k Go.undef)) ∧ RDs w (row i) cs') := ⟨fun i => (key i).choose, fun i => (key i).choose_spec⟩
    have hg := fun i => (hgr i).1
    have hrow := fun i => (hgr i).2
    refine ⟨_, ⟨len, row, rfl, by omega, hg⟩, .one ?_⟩
    rcases Nat.eq_zero_or_pos len with hz | hp
    · subst hz
      exact .zero (some a) cap (.inl rfl) (by simp)
    · have hcell : ∀ i, i < len → ∃ cs', cs'.length = sz ∧ (∀ k, k < sz → w.cell? (a.add (i * sz + k)) = some (cs'.getD k Go.undef)) ∧ RDs w (row i) cs' := fun i hi => hrow i hi
      obtain ⟨c0, _, hc0, _⟩ := hcell 0 hp
      have h00 := hc0 0 hsz
      obtain ⟨b, off, spot⟩ := a
      have hspot : spot = none := by simpa [Addr.add] using World.cell?_spot h00
      subst hspot
      have hlt : b < w.heap.size := by
        rcases Nat.lt_or_ge b w.heap.size with hlt | hge
        · exact hlt
        · simp [World.cell?, Addr.add, hge] at h00
      refine .sl ⟨b, off, none⟩ cap (fun i k => (w.cell? ⟨b, off + i * sz + k, none⟩).getD Go.undef) (.inl rfl) hl rfl hlt (by simp) (fun i hi => ?_) (fun i hi k hk => ?_) (fun i hi k hk => ?_)
      · obtain ⟨c, k1, k2, k3⟩ := hcell i hi
        rw [← k3.1, k1]
      · obtain ⟨c, k1, k2, k3⟩ := hcell i hi
        have := k2 k hk
        rw [add_none] at this
        rw [Nat.add_assoc]
        rw [this]; rfl
      · obtain ⟨c, k1, k2, k3⟩ := hcell i hi
        have := k2 k hk
        rw [add_none] at this
        rw [Nat.add_assoc, this]
        exact k3.2 k (by rw [← k3.1, k1]; exact hk)

end

/-! arguments -/
section
variable {P : Program} {t : TypeId} {H : Type} {enc : TypeId × Value → H} {w : World} {base : Nat} {spare : Nat → Bool} {held : Bool} {v : Value} {d : DataW H} {p : List MemPlace} {r : Reach} {b0 : Nat} {g : List D → Prop}

theorem arg_agg (h : Opn P t g) (hv : ∃ cs, v = .agg cs) (hd : DataW.Trod enc P w base spare held t v d p) : ∃ ds, g ds ∧ R w [] (.agg (ds.map .d)) v := by
  obtain ⟨cs, rfl⟩ := hv
  obtain ⟨fuel, hf⟩ := hd
  obtain ⟨ds, h1, h2⟩ := h _ _ _ _ _ _ _ _ _ hf
  refine ⟨ds, h1, .agg cs (by have := h2.1; simpa [Value.cells] using this) fun k hk => ?_⟩
  have hk' : k < ds.length := by simpa using hk
  have := h2.2 k hk'
  have e1 : (ds.map AV.d).getD k .undef = AV.d (ds.getD k default) := by simp [List.getD_eq_getElem?_getD, hk']
  rw [e1]
  refine .d ?_
  simpa [Value.cells, Array.getD_eq_getD_getElem?, List.getD_eq_getElem?_getD] using this

theorem arg_struct {x : Array Field} (hs : P.underlying t = some (.struct x)) (h : Opn P t g) (hv : Value.okWide P w r b0 t v) (hd : DataW.Trod enc P w base spare held t v d p) : ∃ ds, g ds ∧ R w [] (.agg (ds.map .d)) v := by
  obtain ⟨cs, rfl, _⟩ := okWide_struct hs hv
  exact arg_agg h ⟨cs, rfl⟩ hd

theorem arg_array {n : Nat} {e : TypeId} (hs : P.underlying t = some (.array n e)) (h : Opn P t g) (hv : Value.okWide P w r b0 t v) (hd : DataW.Trod enc P w base spare held t v d p) : ∃ ds, g ds ∧ R w [] (.agg (ds.map .d)) v := by
  have hv' : ∃ cs, v = .agg cs ∧ cs.size = P.cellsOf t ∧ Row.okWide P w r b0 t cs := by
    unfold Value.okWide at hv
    rw [hs] at hv
    exact hv
  obtain ⟨cs, rfl, _⟩ := hv'
  exact arg_agg h ⟨cs, rfl⟩ hd

/-- a value of one cell -/
theorem arg_one (hc : v.cells = #[v]) {x : D → Prop} (h : Opn P t fun ds => ∃ y, ds = [y] ∧ x y) (hd : DataW.Trod enc P w base spare held t v d p) : ∃ y, x y ∧ R w [] (.d y) v := by
  obtain ⟨fuel, hf⟩ := hd
  rw [hc] at hf
  obtain ⟨ds, ⟨y, rfl, hx⟩, h2⟩ := h _ _ _ _ _ _ _ _ _ hf
  exact ⟨y, hx, .d (h2.2 0 (by simp))⟩

theorem arg_int {k : IntKind} (ht : P.underlying t = some (.int k)) (hv : Value.okWide P w r b0 t v) (hd : DataW.Trod enc P w base spare held t v d p) : ∃ n, (Lit.int k n).wf = true ∧ R w [] (.d (.v (.int k n))) v := by
  obtain ⟨n, rfl, _, _, hw⟩ := open_int ht hv hd
  exact ⟨n, hw, .d (.v _)⟩

theorem arg_bool (ht : P.underlying t = some .bool) (hv : Value.okWide P w r b0 t v) (hd : DataW.Trod enc P w base spare held t v d p) : ∃ b, R w [] (.d (.v (.bool b))) v := by
  obtain ⟨b, rfl, _⟩ := open_bool ht hv hd
  exact ⟨b, .d (.v _)⟩

theorem arg_slice {e : TypeId} {x : D → Prop} (ht : P.underlying t = some (.slice e)) (h : Opn P t fun ds => ∃ y, ds = [y] ∧ x y) (hv : Value.okWide P w r b0 t v) (hd : DataW.Trod enc P w base spare held t v d p) : ∃ y, x y ∧ R w [] (.d y) v := by
  obtain ⟨a, len, cap, rfl⟩ := okWide_slice ht hv
  exact arg_one rfl h hd

theorem arg_string (ht : P.underlying t = some .string) (hv : Value.okWide P w r b0 t v) (hd : DataW.Trod enc P w base spare held t v d p) : ∃ s : ByteArray, s.size ≤ maxLen ∧ R w [] (.d (.v (.string s))) v := by
  obtain ⟨s, rfl, _, _, hw⟩ := Go.ChangeMaps.open_string ht hv hd
  exact ⟨s, hw, .d (.v _)⟩

end

theorem rs_nil (w : World) : Rs w [] [] #[] := ⟨rfl, by simp⟩
theorem Rs.of_list {w : World} {avs : List AV} {vs : List Value} (hl : vs.length = avs.length) (h : ∀ k, k < avs.length → R w [] (avs.getD k .undef) (vs.getD k Go.undef)) : Rs w [] avs vs.toArray :=
  ⟨by simpa using hl, fun k hk => by simpa [Array.getD_eq_getD_getElem?, List.getD_eq_getElem?_getD] using h k hk⟩

theorem Rs.cons {w : World} {x : AV} {v : Value} {xs : List AV} {vs : List Value} (h : R w [] x v) (t : Rs w [] xs vs.toArray) : Rs w [] (x :: xs) (v :: vs).toArray :=
  ⟨by have := t.1; simpa using this, fun k hk => by
    cases k with
    | zero => simpa using h
    | succ k => have := t.2 k (by simpa using hk); simpa using this⟩

/-- a law that returns true, as the row wants it -/
theorem law_calls {P : Program} {f : FuncId} {avs : List AV} {args : Array Value} {w : World} (h : CSF P f avs [] (.d (.v (.bool true)))) (hr : Rs w [] avs args) : Calls P f args w fun e w' => e = .returned (.bool true) ∧ Below w.heap.size w w' := by
  refine (h.2 [] w args ⟨rfl, by simp, by simp, by simp⟩ hr).mono ?_
  rintro e w' ⟨v, r, σ', j', X, rfl, h1, h2, h3, h4, h5, rfl, rfl, rfl⟩
  cases h2 with
  | d h2 =>
    cases h2
    exact ⟨rfl, ⟨h3.os, h3.tape, h3.output, h3.size, fun k hk => h3.keep k hk (by simp)⟩⟩

end Go.Abs
