/- Abstract values: reading memory, a function's contract out of its body. -/
import Derived.Test.YtplpklikapkloaaAb
namespace Go.Abs
set_option linter.unusedVariables false
set_option linter.unusedSimpArgs false

/-- a type: is it a struct or an array; how many cells -/
def tyA (P : Program) (t : TypeId) : Option (Bool × Nat) :=
  match P.underlying t, P.info? t with
  | some (.struct _), some i => some (true, i.size)
  | some (.array _ _), some i => some (true, i.size)
  | some _, some i => some (false, i.size)
  | _, _ => none

theorem tyA_isAgg {P : Program} {t : TypeId} {b : Bool} {m : Nat} (h : tyA P t = some (b, m)) (w : World) : (isAgg t).run P w = .ok b w := by
  unfold tyA at h
  simp only [isAgg, underlying]
  split at h <;> simp_all

theorem tyA_sizeOf {P : Program} {t : TypeId} {b : Bool} {m : Nat} (h : tyA P t = some (b, m)) (w : World) : (sizeOf t).run P w = .ok m w := by
  unfold tyA at h
  simp only [Go.sizeOf, typeInfo]
  split at h <;> simp_all

/-- the m cells behind an address, with what must hold for them to be there -/
def readAt (σ : List Blk) (m : Nat) : AV → Option (Prop × List AV)
  | .ptr b off => match σ[b]? with
    | some (.var cs) => if Nat.ble (off + m) cs.length then some (True, (cs.drop off).take m) else none
    | _ => none
  | .pe b sz i k => match σ[b]? with
    | some (.arr sz' n row) => if Nat.beq sz sz' && Nat.ble (k + m) sz then some (i < n, (((row i).drop k).take m).map .d) else none
    | _ => none
  | .el cs => if Nat.ble m cs.length then some (True, (cs.take m).map .d) else none
  | _ => none

theorem add_off (a : Addr) (ha : a.spot = none) (n : Nat) : a.add n = ⟨a.block, a.off + n, none⟩ := by
  cases a with
  | mk b o s => simp only at ha; subst ha; unfold Addr.add; split <;> simp_all

theorem cell_of {w : World} {cb : Nat} {C : Array Value} {e : TypeId} {f : Nat × Nat} (h : w.heap[cb]? = some (.cells C e f)) (o : Nat) : w.cell? ⟨cb, o, none⟩ = C[o]? := by
  simp [World.cell?, h]

theorem readAt_sound {w : World} {j : Js} {σ : List Blk} (hs : RelS w j σ) {m : Nat} {av : AV} {v : Value} (hr : R w j av v) {side : Prop} {l : List AV} (hl : readAt σ m av = some (side, l)) (hside : side) :
    l.length = m ∧ ∃ a : Addr, v = .pointer (some a) ∧ a.spot = none ∧ ∃ f : Nat → Value, ∀ k, k < m → w.cell? (a.add k) = some (f k) ∧ R w j (l.getD k .undef) (f k) := by
  cases hr with
  | @ptr b off cb h =>
    simp only [readAt] at hl
    split at hl
    · rename_i cs hb
      split at hl <;> simp at hl
      rename_i hm
      obtain ⟨hl1, hl2⟩ := hl
      subst hl2
      simp only [Nat.ble_eq] at hm
      obtain ⟨o, ho, hB⟩ := hs.blk b _ hb
      rw [h] at ho
      cases ho
      obtain ⟨C, e, hC, hsz, hrel⟩ := hB
      refine ⟨by simp; omega, _, rfl, rfl, fun k => C.getD (off + k) Go.undef, fun k hk => ⟨?_, ?_⟩⟩
      · rw [add_off _ rfl, cell_of hC]
        simp [Array.getD_eq_getD_getElem?, show off + k < C.size by omega]
      · have := hrel (off + k) (by omega)
        have e1 : ((cs.drop off).take m).getD k AV.undef = cs.getD (off + k) AV.undef := by
          simp [List.getD_eq_getElem?_getD, List.getElem?_take, hk]
        rw [e1]; exact this
    · simp at hl
  | @pe b sz i k cb h =>
    simp only [readAt] at hl
    split at hl
    · rename_i sz' n row hb
      split at hl <;> simp only [Option.some.injEq, Prod.mk.injEq, reduceCtorEq] at hl
      rename_i hm
      obtain ⟨rfl, rfl⟩ := hl
      simp only [Bool.and_eq_true, Nat.ble_eq] at hm
      have hsz' := Nat.eq_of_beq_eq_true hm.1
      subst hsz'
      obtain ⟨o, ho, hB⟩ := hs.blk b _ hb
      rw [h] at ho
      cases ho
      obtain ⟨C, e, hC, hcs, hrel⟩ := hB
      have hri := hrel i hside
      have hbound : i * sz + sz ≤ n * sz := by
        have : (i + 1) * sz ≤ n * sz := Nat.mul_le_mul_right _ hside
        rwa [Nat.succ_mul] at this
      refine ⟨by have := hri.1; simp; omega, _, rfl, rfl, fun q => C.getD (i * sz + (k + q)) Go.undef, fun q hq => ⟨?_, ?_⟩⟩
      · rw [add_off _ rfl, cell_of hC]
        simp [Array.getD_eq_getD_getElem?, show i * sz + (k + q) < C.size by omega, Nat.add_assoc]
      · have := hri.2 (k + q) (by omega)
        have hlen := hri.1
        have e1 : ((((row i).drop k).take m).map AV.d).getD q AV.undef = AV.d ((row i).getD (k + q) default) := by
          simp [List.getD_eq_getElem?_getD, List.getElem?_take, hq, show k + q < (row i).length by omega]
        rw [e1]; exact .d this
    · simp at hl
  | @el cs a val ha hlt hb hcell hrel =>
    simp only [readAt] at hl
    split at hl <;> simp only [Option.some.injEq, Prod.mk.injEq, reduceCtorEq] at hl
    rename_i hm
    obtain ⟨rfl, rfl⟩ := hl
    simp only [Nat.ble_eq] at hm
    refine ⟨by simp; omega, _, rfl, ha, val, fun k hk => ⟨?_, ?_⟩⟩
    · rw [add_off _ ha]; exact hcell k (by omega)
    · have := hrel k (by omega)
      have e1 : ((cs.take m).map AV.d).getD k AV.undef = AV.d (cs.getD k default) := by
        simp [List.getD_eq_getElem?_getD, List.getElem?_take, hk, show k < cs.length by omega]
      rw [e1]; exact .d this
  | _ => simp [readAt] at hl

/-- what a load of so many cells gives -/
def loaded (agg : Bool) (l : List AV) : AV := if agg then .agg l else l.headD .undef

theorem loadVar_sound {P : Program} {w : World} {j : Js} {σ : List Blk} (hs : RelS w j σ) {t : TypeId} {agg : Bool} {m : Nat} (ht : tyA P t = some (agg, m)) (hm : agg = false → m = 1) {av : AV} {v : Value} (hr : R w j av v) {side : Prop} {l : List AV} (hl : readAt σ m av = some (side, l)) (hside : side) :
    ∃ a : Addr, v = .pointer (some a) ∧ ∃ u, (loadVar t a).run P w = .ok u w ∧ R w j (loaded agg l) u := by
  obtain ⟨hlen, a, rfl, ha, f, hf⟩ := readAt_sound hs hr hl hside
  refine ⟨a, rfl, ?_⟩
  cases agg with
  | true =>
    refine ⟨.agg (Array.ofFn fun k : Fin m => f k), ?_, ?_⟩
    · have h1 := run_loadCells (P := P) (w := w) a m f (fun j hj => (hf j hj).1)
      have h2 : (List.map f (List.range m)).toArray = Array.ofFn fun k : Fin m => f k := by
        apply Array.ext <;> simp
      simp [loadVar, tyA_isAgg ht, tyA_sizeOf ht, h1, h2]
    · refine .agg _ (by simp [hlen]) fun k hk => ?_
      have := (hf k (by omega)).2
      rw [hlen] at hk
      simpa [Array.getD_eq_getD_getElem?, hk] using this
  | false =>
    have h1 := hm rfl
    subst h1
    have h0 := hf 0 (by omega)
    refine ⟨f 0, ?_, ?_⟩
    · have : a.add 0 = a := rfl
      rw [this] at h0
      simp [loadVar, tyA_isAgg ht, h0.1]
    · have : loaded false l = l.getD 0 .undef := by cases l <;> simp [loaded]
      rw [this]; exact h0.2

/-! results -/
def resA (P : Program) (s : St) : ResultVar → Option (Prop × AV)
  | .tmp t => (get s.t t).map fun x => (True, x)
  | .cell a t => match get s.t a, tyA P t with
    | some p, some (agg, m) => if !agg && !Nat.beq m 1 then none else (readAt s.σ m p).map fun (side, l) => (side, loaded agg l)
    | _, _ => none

def resAs (P : Program) (s : St) : List ResultVar → (List AV → Prop) → Prop
  | [], K => K []
  | r :: rs, K => match resA P s r with
    | some (side, x) => side ∧ resAs P s rs fun xs => K (x :: xs)
    | none => False

def tupA : List AV → AV
  | [x] => x
  | xs => .tup xs

def resSem (tm : Array Value) : ResultVar → Sem Value
  | .tmp t => pure (tm.getD t Go.undef)
  | .cell p t => do loadVar t (← asAddr (tm.getD p Go.undef))

theorem results_eq (fn : Func) (tm : Array Value) : results fn tm = (do let vs ← fn.results.mapM (resSem tm); pure (if h : vs.size = 1 then vs[0] else .tuple vs)) := by
  have : (fun x : ResultVar => match x with | .tmp t => (pure (tm.getD t Go.undef) : Sem Value) | .cell a t => do loadVar t (← asAddr (tm.getD a Go.undef))) = resSem tm := by
    funext x; cases x <;> rfl
  unfold results
  rw [← this]
  rfl

theorem resA_sound {P : Program} {j0 : J0} {j : Js} {s : St} {a : Act} {w : World} (h : Rel j0 s j a w) {r : ResultVar} {side : Prop} {x : AV} (hx : resA P s r = some (side, x)) (hside : side) :
    ∃ v, (resSem a.tmps r).run P w = .ok v w ∧ R w j x v := by
  cases r with
  | tmp t =>
    simp only [resA, Option.map_eq_some_iff] at hx
    obtain ⟨y, hy, he⟩ := hx
    cases he
    exact ⟨_, rfl, (h.tmp t _ hy).2⟩
  | cell p t =>
    simp only [resA] at hx
    split at hx
    · rename_i q agg m hq ht
      split at hx
      · simp at hx
      · rename_i hne
        simp only [Option.map_eq_some_iff] at hx
        obtain ⟨⟨sd, l⟩, hl, he⟩ := hx
        simp only [Prod.mk.injEq] at he
        obtain ⟨rfl, rfl⟩ := he
        have hrel := (h.tmp p _ hq).2
        obtain ⟨ad, hv, u, hu, hru⟩ := loadVar_sound (P := P) h.sto ht (fun ha => by
          subst ha; simpa using hne) hrel hl hside
        refine ⟨u, ?_, hru⟩
        show (do loadVar t (← asAddr (a.tmps.getD p Go.undef)) : Sem Value).run P w = _
        rw [hv]
        simp [asAddr, hu]
    · simp at hx

theorem resAs_sound {P : Program} {j0 : J0} {j : Js} {s : St} {a : Act} {w : World} (h : Rel j0 s j a w) : ∀ {rs : List ResultVar} {K : List AV → Prop}, resAs P s rs K →
    ∃ xs vs, K xs ∧ xs.length = rs.length ∧ vs.length = xs.length ∧ (rs.mapM (resSem a.tmps)).run P w = .ok vs w ∧ ∀ k, k < xs.length → R w j (xs.getD k .undef) (vs.getD k Go.undef)
  | [], K, hk => ⟨[], [], hk, rfl, rfl, by simp, by simp⟩
  | r :: rs, K, hk => by
    simp only [resAs] at hk
    split at hk
    · rename_i side x hx
      obtain ⟨v, hv, hrv⟩ := resA_sound h hx hk.1
      obtain ⟨xs, vs, hK, h1, h2, h3, h4⟩ := resAs_sound h hk.2
      refine ⟨x :: xs, v :: vs, hK, by simp [h1], by simp [h2], ?_, ?_⟩
      · rw [List.mapM_cons]
        simp only [Sem.run_bind, hv, Result.andThen_ok, h3, Sem.run_pure]
      · intro k hk'
        cases k with
        | zero => simpa using hrv
        | succ k => simpa using h4 k (by simpa using hk')
    · exact hk.elim

theorem results_sound {P : Program} {fn : Func} {j0 : J0} {j : Js} {s : St} {a : Act} {w : World} (h : Rel j0 s j a w) {K : AV → Prop} (hk : resAs P s fn.results.toList fun xs => K (tupA xs)) :
    ∃ v x, (results fn a.tmps).run P w = .ok v w ∧ R w j x v ∧ K x := by
  obtain ⟨xs, vs, hK, h1, h2, h3, h4⟩ := resAs_sound h hk
  have hm : (fn.results.mapM (resSem a.tmps)).run P w = .ok vs.toArray w := by
    rw [← Array.toArray_toList (xs := fn.results), List.mapM_toArray]
    rw [Sem.run_map, h3]; rfl
  refine ⟨if h : vs.toArray.size = 1 then vs.toArray[0] else .tuple vs.toArray, tupA xs, ?_, ?_, hK⟩
  · rw [results_eq, Sem.run_bind, hm]
    rfl
  · match xs, vs, h2, h4 with
    | [], [], _, _ => exact .tup #[] rfl (by simp)
    | [x], [v], _, h4 => simpa [tupA] using h4 0 (by simp)
    | x :: y :: xs, v :: u :: vs, h2, h4 =>
      refine R.tup _ (by simp at h2 ⊢; omega) fun k hk => ?_
      have := h4 k hk
      simpa [Array.getD_eq_getD_getElem?, List.getD_eq_getElem?_getD] using this

/-- what must hold where a body ends -/
def retPost (P : Program) (fn : Func) (Q : AV → List Blk → List Nat → Prop) : Exit → St → Prop
  | .normal, s => resAs P s fn.results.toList fun xs => Q (tupA xs) s.σ s.mv
  | .ret, s => resAs P s fn.results.toList fun xs => Q (tupA xs) s.σ s.mv
  | _, _ => False

theorem Rs.rel {P : Program} {w : World} {j : Js} {σ : List Blk} {args : List AV} {vs : Array Value} (hs : RelS w j σ) (h : Rs w j args vs) (N : Nat) (hN : args.length ≤ N) :
    Rel ⟨j, w.heap.size, none⟩ (St.init N args σ) j { tmps := vs ++ Array.replicate (N - vs.size) Go.undef, defers := [] } w where
  defers := .nil (Nat.le_refl _) _
  rdok := fun l h => by cases h
  size := by simp [St.init]; have := h.1; omega
  tmp k av hk := by
    simp only [St.init, get_initT] at hk
    split at hk <;> simp at hk
    subst hk
    rename_i hk
    simp only [Nat.zero_add] at hk
    refine ⟨by simp [St.init]; omega, ?_⟩
    have h1 := h.1
    have := h.2 k hk.2
    simpa [Array.getD_eq_getD_getElem?, List.getD_eq_getElem?_getD, Array.getElem?_append, show k < vs.size by omega] using this
  sto := hs
  len0 := Nat.le_refl _
  ag := .refl _ _

/-! the marks are taken where a function returns -/
theorem RD.congr {w w' : World} {j : Js} (hc : ∀ a, w'.cell? a = w.cell? a) (hs : w.heap.size ≤ w'.heap.size) {d : D} {v : Value} (h : RD w j d v) : RD w' j d v := by
  induction h with
  | v x => exact .v x
  | sl a c val hcap hle ha hlt hb hlen hcell hrel ih => exact .sl a c val hcap hle ha (Nat.lt_of_lt_of_le hlt hs) hb hlen (fun i hi k hk => (hc _).trans (hcell i hi k hk)) ih
  | zero p c hcap hp => exact .zero p c hcap hp

theorem R.congr {w w' : World} {j : Js} (hc : ∀ a, w'.cell? a = w.cell? a) (hs : w.heap.size ≤ w'.heap.size) (hsh : ∀ b, w'.shape? b = w.shape? b) {av : AV} {v : Value} (h : R w j av v) : R w' j av v := by
  induction h with
  | undef v => exact .undef v
  | iff h h0 ih => exact .iff ih h0
  | d h => exact .d (h.congr hc hs)
  | agg vs hsz h ih => exact .agg vs hsz ih
  | tup vs hsz h ih => exact .tup vs hsz ih
  | ptr h => exact .ptr h
  | pe h => exact .pe h
  | el a val h1 hlt hb hcell hrel => exact .el a val h1 (Nat.lt_of_lt_of_le hlt hs) hb (fun k hk => (hc _).trans (hcell k hk)) (fun k hk => (hrel k hk).congr hc hs)
  | ms c e m h h1 h2 h3 => exact .ms c e m h (by rw [hsh]; exact h1) h2 h3
  | ms0 p h => exact .ms0 p h
  | mp h => exact .mp h
  | clo ff cc h1 h2 h3 h4 ih3 ih4 => exact .clo ff cc h1 h2 ih3 ih4
  | yld h => exact .yld h

theorem RB.congr {w w' : World} {j : Js} (hc : ∀ a, w'.cell? a = w.cell? a) (hs : w.heap.size ≤ w'.heap.size) (hsh : ∀ b, w'.shape? b = w.shape? b) {x : Blk} {o : Option Nat} (ho : ∀ cb, o = some cb → w'.heap[cb]? = w.heap[cb]?) (h : RB w j x o) : RB w' j x o := by
  cases x with
  | dead => trivial
  | var cs =>
    cases o with
    | none => exact h
    | some cb =>
      obtain ⟨C, e, h1, h2, h3⟩ := h
      exact ⟨C, e, by rw [ho cb rfl, h1], h2, fun k hk => (h3 k hk).congr hc hs hsh⟩
  | arr sz n row =>
    cases o with
    | none => exact h
    | some cb =>
      obtain ⟨C, e, h1, h2, h3⟩ := h
      exact ⟨C, e, by rw [ho cb rfl, h1], h2, fun i hi => ⟨(h3 i hi).1, fun k hk => ((h3 i hi).2 k hk).congr hc hs⟩⟩
  | lp L st pd =>
    cases o with
    | none => exact h
    | some cb =>
      obtain ⟨r, h1, h2, h3, h4⟩ := h
      exact ⟨r, by rw [ho cb rfl, h1], h2, h3, fun k av hk => ⟨(h4 k av hk).1, (h4 k av hk).2.congr hc hs hsh⟩⟩

/-- the marks are taken, one after the other -/
def Taken : List Deferred → World → World → Prop
  | [], w, w' => w' = w
  | d :: ds, w, w' => ∃ r, d.target = .collected r ∧ w.heap[r]? = some (.deferred (some [])) ∧ Taken ds (w.putObj r (.deferred none)) w'

theorem taken_leaves {F : Fence} {n : Nat} {P : Program} {fn : Func} {tmps : Array Value} {R : Ending → World → Prop} {w' : World} (h : ∃ v, (results fn tmps).run P w' = .ok v w' ∧ R (.returned v) w') : ∀ {ds : List Deferred} {w : World}, Taken ds w w' → LeavesInM F n P fn tmps R ds .returning w
  | [], w, ht => by
    simp only [Taken] at ht
    subst ht
    exact h
  | d :: ds, w, ht => by
    obtain ⟨r, h1, h2, h3⟩ := ht
    exact ⟨by simp, .inl ⟨r, _, h1, run_takeDeferred h2, taken_leaves h h3⟩⟩

theorem cell_take {w : World} {r : Nat} (h : w.heap[r]? = some (.deferred (some []))) (a : Addr) : (w.putObj r (.deferred none)).cell? a = w.cell? a := by
  by_cases hb : a.block = r
  · have h1 : (w.putObj r (.deferred none)).heap[a.block]? = some (.deferred none) := by rw [hb]; exact World.putObj_heap_same (Array.getElem?_eq_some_iff.1 h).1
    have h2 : w.heap[a.block]? = some (.deferred (some [])) := by rw [hb]; exact h
    simp [World.cell?, h1, h2]
  · simp [World.cell?, World.putObj_heap_other hb]

theorem shape_take {w : World} {r : Nat} (h : w.heap[r]? = some (.deferred (some []))) (b : Nat) : (w.putObj r (.deferred none)).shape? b = w.shape? b := by
  by_cases hb : b = r
  · subst hb
    simp [World.shape?, World.putObj_heap_same (Array.getElem?_eq_some_iff.1 h).1, h]
  · simp [World.shape?, World.putObj_heap_other hb]

theorem frozen_take {w : World} {r : Nat} (h : w.heap[r]? = some (.deferred (some []))) (a : Addr) : (w.putObj r (.deferred none)).frozen? a = w.frozen? a := by
  by_cases hb : a.block = r
  · have h1 : (w.putObj r (.deferred none)).heap[a.block]? = some (.deferred none) := by rw [hb]; exact World.putObj_heap_same (Array.getElem?_eq_some_iff.1 h).1
    have h2 : w.heap[a.block]? = some (.deferred (some [])) := by rw [hb]; exact h
    simp [World.frozen?, h1, h2]
  · simp [World.frozen?, World.putObj_heap_other hb]

theorem Marks.take {n0 : Nat} {σ : List Blk} : ∀ {ds : List Deferred} {w : World} {j : Js}, Marks n0 w j ds → RelS w j σ → ∃ w', Taken ds w w' ∧ RelS w' j σ ∧ (∀ {av v}, R w j av v → R w' j av v) ∧ ∀ {j1 w1}, w1.heap.size = n0 → Ev j1 w1 j w → Ev j1 w1 j w'
  | [], w, j, _, hs => ⟨w, rfl, hs, fun h => h, fun _ h => h⟩
  | d :: ds, w, j, hm, hs => by
    obtain ⟨⟨hn0, hp⟩, hd⟩ := hm
    obtain ⟨r, h1, h2, h3, h4⟩ := hd d (by simp)
    have hp' := List.pairwise_cons.1 hp
    have hother : ∀ b, b ≠ r → (w.putObj r (.deferred none)).heap[b]? = w.heap[b]? := fun b hb => World.putObj_heap_other hb
    have hm' : Marks n0 (w.putObj r (.deferred none)) j ds := ⟨⟨by simpa using hn0, hp'.2⟩, fun d' hd' => by
      obtain ⟨r', g1, g2, g3, g4⟩ := hd d' (by simp [hd'])
      have hne : r' ≠ r := fun he => hp'.1 d' hd' (by rw [h1, g1, he])
      exact ⟨r', g1, g2, g3, by rw [hother r' hne]; exact g4⟩⟩
    have hs' : RelS (w.putObj r (.deferred none)) j σ := ⟨hs.len, fun b cb hb => by have := hs.lt b cb hb; simpa using this, hs.inj, fun b x hx => by
      obtain ⟨o, ho, hB⟩ := hs.blk b x hx
      refine ⟨o, ho, hB.congr (cell_take h4) (by simp) (shape_take h4) fun cb hcb => hother cb ?_⟩
      intro he
      subst hcb
      exact h3 (by rw [← he]; exact List.mem_of_getElem? ho)⟩
    obtain ⟨w', ht, hs2, hr2, he2⟩ := Marks.take hm' hs'
    refine ⟨w', ⟨r, by rw [h1], h4, ht⟩, hs2, fun h => hr2 (h.congr (cell_take h4) (by simp) (shape_take h4)), fun {j1 w1} hn he => he2 hn ⟨?_, ?_, he.sub, ?_, ?_, he.os, he.tape, he.output, ?_⟩⟩
    · simpa using he.size
    · intro b hb hnj
      rw [hother b (by omega)]; exact he.keep b hb hnj
    · intro b hb
      rw [shape_take h4]; exact he.shp b hb
    · intro a ha
      rw [frozen_take h4]; exact he.frz a ha
    · intro b r' hb
      have hlt : b < w1.heap.size := (Array.getElem?_eq_some_iff.1 hb).1
      rw [hother b (by omega)]; exact he.lps b r' hb

/-- a function's contract from what holds where its body ends -/
theorem calls_of {P : Program} {f : FuncId} {fn : Func} {c : Code} {args : List AV} {σ : List Blk} {Q : Exit → St → Prop} {R' : Ending → World → Prop} (hf : P.funcs[f]? = some fn) (hb : fn.body = some c) (hN : args.length ≤ fn.ntmps)
    (h : AWP P c Q (St.init fn.ntmps args σ)) {j : Js} {w : World} {vs : Array Value} (hs : RelS w j σ) (hr : Rs w j args vs)
    (hQ : ∀ e s', Q e s' → (e = .normal ∨ e = .ret) ∧ ∀ j' a w', Rel ⟨j, w.heap.size, none⟩ s' j' a w' → Ev j w j' w' → ∃ v, (results fn a.tmps).run P w' = .ok v w' ∧ R' (.returned v) w') : Calls P f vs w R' := by
  refine (callsIn_wide (n := 0)).1 (callsIn_of_wp_marks (F := Fence.wide) hf hb trivial (wpIn_mono (h ⟨j, w.heap.size, none⟩ j _ w (Rs.rel (P := P) hs hr fn.ntmps hN)) ?_))
  rintro e a w' ⟨s', j', hrel, hev, hq⟩
  obtain ⟨he, hq⟩ := hQ e s' hq
  obtain ⟨w2, ht, hs2, hr2, he2⟩ := hrel.defers.take hrel.sto
  have hev2 := he2 rfl hev
  have hrel2 : Rel ⟨j, w.heap.size, none⟩ s' j' { a with defers := [] } w2 := ⟨.nil hev2.size _, (fun l h => by cases h), hrel.size, fun k av hk => ⟨(hrel.tmp k av hk).1, hr2 (hrel.tmp k av hk).2⟩, hs2, hrel.len0, hrel.ag⟩
  have := taken_leaves (F := Fence.wide) (n := 0) (hq j' _ w2 hrel2 hev2) ht
  rcases he with rfl | rfl
  · exact this
  · exact this

theorem CS.of_body {P : Program} {f : FuncId} {fn : Func} {c : Code} {args : List AV} {σ : List Blk} {Q : AV → List Blk → List Nat → Prop} (hen : entersB P f = true) (hf : P.funcs[f]? = some fn) (hb : fn.body = some c) (hN : args.length ≤ fn.ntmps)
    (h : AWP P c (retPost P fn Q) (St.init fn.ntmps args σ)) : CS P f args σ Q := by
  refine ⟨hen, fun j w vs hs hr => calls_of hf hb hN h hs hr fun e s' hq => ?_⟩
  have fin : (resAs P s' fn.results.toList fun xs => Q (tupA xs) s'.σ s'.mv) → ∀ j' a w', Rel ⟨j, w.heap.size, none⟩ s' j' a w' → Ev j w j' w' → ∃ v, (results fn a.tmps).run P w' = .ok v w' ∧ ∃ v' r σ' j' X, Ending.returned v = .returned v' ∧ RelS w' j' σ' ∧ R w' j' r v' ∧ Ev j w j' w' ∧ j.length ≤ j'.length ∧ Ag j j' X ∧ Q r σ' X := by
    intro hq j' a w' hrel hev
    obtain ⟨v, x, h1, h2, h3⟩ := results_sound hrel (K := fun x => Q x s'.σ s'.mv) hq
    exact ⟨v, h1, v, x, s'.σ, j', s'.mv, rfl, hrel.sto, h2, hev, hrel.len0, hrel.ag, h3⟩
  cases e with
  | normal => exact ⟨.inl rfl, fin hq⟩
  | ret => exact ⟨.inr rfl, fin hq⟩
  | exit id => exact hq.elim
  | goto l => exact hq.elim
  | panic c => exact hq.elim
  | outgrown => exact hq.elim

end Go.Abs
