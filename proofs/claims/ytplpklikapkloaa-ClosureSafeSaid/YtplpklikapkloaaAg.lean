/- Abstract values: structs and arrays built of parts. -/
import Derived.Test.YtplpklikapkloaaAf
namespace Go.Abs
set_option linter.unusedVariables false
set_option linter.unusedSimpArgs false

/-- the value of one cell -/
def oneOk : AV → Bool
  | .d (.v x) => x.oneCell'
  | .d (.sl _ _ _ _) => true
  | .ptr _ _ => true
  | .pe _ _ _ _ => true
  | .el _ => true
  | .ms _ _ _ _ => true
  | .mp _ => true
  | .clo _ _ _ => true
  | .yld _ => true
  | _ => false

theorem oneOk_cell {w : World} {j : Js} {av : AV} {v : Value} (h : R w j av v) (ho : oneOk av = true) : v.oneCell' = true := by
  cases h with
  | d h => cases h <;> simp_all [oneOk, Value.oneCell']
  | _ => simp_all [oneOk, Value.oneCell']

def allOne : List AV → Bool
  | [] => true
  | x :: xs => oneOk x && allOne xs

theorem allOne_getD : ∀ {cs : List AV} {k : Nat}, allOne cs = true → k < cs.length → oneOk (cs.getD k .undef) = true
  | [], _, _, hk => by simp at hk
  | x :: xs, 0, h, _ => by simp [allOne] at h; simpa using h.1
  | x :: xs, k + 1, h, hk => by
    simp [allOne] at h
    have := allOne_getD (k := k) h.2 (by simpa using hk)
    simpa using this

theorem cellsOf_rel {w : World} {j : Js} {av : AV} {v : Value} (h : R w j av v) (ho : allOne (cellsOf av) = true) :
    v.cells.size = (cellsOf av).length ∧ ∀ k, k < (cellsOf av).length → R w j ((cellsOf av).getD k .undef) (v.cells.getD k Go.undef) ∧ (v.cells.getD k Go.undef).oneCell' = true := by
  have fin : ∀ k, k < (cellsOf av).length → R w j ((cellsOf av).getD k .undef) (v.cells.getD k Go.undef) → (v.cells.getD k Go.undef).oneCell' = true := fun k hk hr => oneOk_cell hr (allOne_getD ho hk)
  cases h with
  | agg vs hs h => exact ⟨hs, fun k hk => ⟨h k hk, fin k hk (h k hk)⟩⟩
  | d h =>
    have hv : v.oneCell' = true := oneOk_cell (.d h) (by simpa [cellsOf, allOne] using ho)
    have hc : v.cells = #[v] := by cases v <;> simp_all [Value.oneCell', Value.cells]
    refine ⟨by rw [hc]; rfl, fun k hk => ?_⟩
    simp only [cellsOf, List.length_singleton, Nat.lt_one_iff] at hk
    subst hk
    rw [hc]
    exact ⟨.d h, hv⟩
  | undef | iff | tup => simp [cellsOf, allOne, oneOk] at ho
  | ptr h => exact ⟨rfl, fun k hk => by simp only [cellsOf, List.length_singleton, Nat.lt_one_iff] at hk; subst hk; exact ⟨.ptr h, rfl⟩⟩
  | pe h => exact ⟨rfl, fun k hk => by simp only [cellsOf, List.length_singleton, Nat.lt_one_iff] at hk; subst hk; exact ⟨.pe h, rfl⟩⟩
  | el a val h1 h2 h3 h4 h5 => exact ⟨rfl, fun k hk => by simp only [cellsOf, List.length_singleton, Nat.lt_one_iff] at hk; subst hk; exact ⟨.el a val h1 h2 h3 h4 h5, rfl⟩⟩
  | ms c e m h1 h2 h3 h4 => exact ⟨rfl, fun k hk => by simp only [cellsOf, List.length_singleton, Nat.lt_one_iff] at hk; subst hk; exact ⟨.ms c e m h1 h2 h3 h4, rfl⟩⟩
  | ms0 p h => exact ⟨rfl, fun k hk => by simp only [cellsOf, List.length_singleton, Nat.lt_one_iff] at hk; subst hk; exact ⟨.ms0 p h, rfl⟩⟩
  | mp h => exact ⟨rfl, fun k hk => by simp only [cellsOf, List.length_singleton, Nat.lt_one_iff] at hk; subst hk; exact ⟨.mp h, rfl⟩⟩
  | yld h => exact ⟨rfl, fun k hk => by simp only [cellsOf, List.length_singleton, Nat.lt_one_iff] at hk; subst hk; exact ⟨.yld h, rfl⟩⟩
  | clo ff cc h1 h2 h3 h4 => exact ⟨rfl, fun k hk => by simp only [cellsOf, List.length_singleton, Nat.lt_one_iff] at hk; subst hk; exact ⟨.clo ff cc h1 h2 h3 h4, rfl⟩⟩

/-- cells with others laid over them -/
def setRange {α : Type} (cs : List α) (off : Nat) (vs : List α) : List α := cs.take off ++ (vs ++ cs.drop (off + vs.length))

theorem setRange_length {α : Type} {cs vs : List α} {off : Nat} (h : off + vs.length ≤ cs.length) : (setRange cs off vs).length = cs.length := by
  simp [setRange]; omega

theorem setRange_getD {α : Type} {cs vs : List α} {off k : Nat} {d : α} (h : off + vs.length ≤ cs.length) : (setRange cs off vs).getD k d = if off ≤ k ∧ k < off + vs.length then vs.getD (k - off) d else cs.getD k d := by
  simp only [setRange, List.getD_eq_getElem?_getD, List.getElem?_append, List.length_take, List.getElem?_take, List.getElem?_drop]
  by_cases h1 : k < off
  · rw [if_pos (by omega), if_pos h1, if_neg (by omega)]
  · rw [if_neg (by omega)]
    have hm : min off cs.length = off := by omega
    rw [hm]
    by_cases h2 : k - off < vs.length
    · rw [if_pos h2, if_pos (by omega)]
    · rw [if_neg h2, if_neg (by omega)]
      congr 2; omega

theorem foldl_set (vs : Array Value) (off : Nat) (C : Array Value) (h : off + vs.size ≤ C.size) :
    (vs.zipIdx.foldl (fun cs (c, j) => cs.setIfInBounds (off + j) c) C).size = C.size ∧ ∀ k, (vs.zipIdx.foldl (fun cs (c, j) => cs.setIfInBounds (off + j) c) C).getD k Go.undef = if off ≤ k ∧ k < off + vs.size then vs.getD (k - off) Go.undef else C.getD k Go.undef := by
  have gen : ∀ (l : List Value) (i : Nat) (C : Array Value), off + i + l.length ≤ C.size →
      ((l.zipIdx i).foldl (fun (cs : Array Value) (p : Value × Nat) => cs.setIfInBounds (off + p.2) p.1) C).size = C.size ∧ ∀ k, ((l.zipIdx i).foldl (fun (cs : Array Value) (p : Value × Nat) => cs.setIfInBounds (off + p.2) p.1) C).getD k Go.undef = if off + i ≤ k ∧ k < off + i + l.length then l.getD (k - (off + i)) Go.undef else C.getD k Go.undef := by
    intro l
    induction l with
    | nil => intro i C _; exact ⟨rfl, fun k => by rw [if_neg (by simp only [List.length_nil]; omega)]; rfl⟩
    | cons x l ih =>
      intro i C hC
      simp only [List.zipIdx_cons, List.foldl_cons, List.length_cons] at hC ⊢
      obtain ⟨h1, h2⟩ := ih (i + 1) (C.setIfInBounds (off + i) x) (by simp; omega)
      refine ⟨by rw [h1]; simp, fun k => ?_⟩
      rw [h2, R_setIfInBounds (w := default) (j := []) (by omega)]
      by_cases hk : off + i = k
      · subst hk
        rw [if_neg (by omega), if_pos rfl, if_pos (by omega)]; simp
      · rw [if_neg hk]
        by_cases hk2 : off + (i + 1) ≤ k ∧ k < off + (i + 1) + l.length
        · rw [if_pos hk2, if_pos (by omega), show k - (off + i) = (k - (off + (i + 1))) + 1 by omega]; simp
        · rw [if_neg hk2, if_neg (by omega)]
  have := gen vs.toList 0 C (by simpa using h)
  rw [← Array.foldl_toList]
  simp only [Array.toList_zipIdx, Nat.add_zero, Array.length_toList] at this ⊢
  refine ⟨this.1, fun k => ?_⟩
  rw [this.2 k]
  simp [Array.getD_eq_getD_getElem?, List.getD_eq_getElem?_getD]

def fillA (places : List (Nat × Nat)) (cells : List AV) : List (Nat × AV) → Option (List AV)
  | [] => some cells
  | (i, v) :: rest => match places[i]? with
    | some (off, size) => if allOne (cellsOf v) && Nat.beq (cellsOf v).length size && Nat.ble (off + size) cells.length then fillA places (setRange cells off (cellsOf v)) rest else none
    | none => none

theorem fill_sound {w : World} {j : Js} {places : List (Nat × Nat)} {pl : Nat → Option (Nat × Nat)} (hp : ∀ i x, places[i]? = some x → pl i = some x) : ∀ {parts : List (Nat × AV)} {vals : List (Nat × Value)} {cells r : List AV} {C : Array Value},
    C.size = cells.length → (∀ k, k < cells.length → R w j (cells.getD k .undef) (C.getD k Go.undef)) → parts.length = vals.length → (∀ k, k < parts.length → (parts.getD k (0, .undef)).1 = (vals.getD k (0, Go.undef)).1 ∧ R w j (parts.getD k (0, .undef)).2 (vals.getD k (0, Go.undef)).2) →
    fillA places cells parts = some r → ∃ C', Instr.fill pl C vals = some C' ∧ C'.size = r.length ∧ r.length = cells.length ∧ ∀ k, k < r.length → R w j (r.getD k .undef) (C'.getD k Go.undef)
  | [], [], cells, r, C, h1, h2, _, _, h5 => by
    simp only [fillA, Option.some.injEq] at h5
    subst h5
    exact ⟨C, rfl, h1, rfl, h2⟩
  | [], _ :: _, _, _, _, _, _, h3, _, _ => by simp at h3
  | _ :: _, [], _, _, _, _, _, h3, _, _ => by simp at h3
  | (i, v) :: parts, (i', u) :: vals, cells, r, C, h1, h2, h3, h4, h5 => by
    have h0 := h4 0 (by simp)
    simp at h0
    obtain ⟨rfl, hvu⟩ := h0
    simp only [fillA] at h5
    split at h5
    · rename_i off size hpl
      split at h5
      · rename_i hc
        simp only [Bool.and_eq_true, Nat.ble_eq] at hc
        obtain ⟨⟨hone, hsz⟩, hle⟩ := hc
        have hsz := Nat.eq_of_beq_eq_true hsz
        subst hsz
        obtain ⟨hus, hur⟩ := cellsOf_rel hvu hone
        have hf := foldl_set u.cells off C (by omega)
        have hlen := setRange_length (cs := cells) (vs := cellsOf v) (off := off) hle
        obtain ⟨C', g1, g2, g3, g4⟩ := fill_sound (w := w) (j := j) hp (parts := parts) (vals := vals) (cells := setRange cells off (cellsOf v)) (r := r) (C := u.cells.zipIdx.foldl (fun cs (c, j) => cs.setIfInBounds (off + j) c) C)
          (by rw [hf.1, hlen, h1]) (fun k hk => by
            rw [hf.2, setRange_getD hle, hus]
            rw [hlen] at hk
            split
            · exact (hur _ (by omega)).1
            · exact h2 k hk) (by simpa using h3) (fun k hk => by have := h4 (k + 1) (by simpa using hk); simpa using this) h5
        refine ⟨C', ?_, g2, by rw [g3, hlen], g4⟩
        simp only [Instr.fill, hp _ _ hpl]
        rw [if_neg (by simp; omega)]
        exact g1
      · simp at h5
    · simp at h5

/-- a struct type's or an array type's places, and its zero -/
def placesA (P : Program) (t : TypeId) : Option (List (Nat × Nat) × List Value) :=
  match P.info? t with
  | some i => match i.zero with
    | some z => match P.underlying t with
      | some (.struct fs) => match fs.toList.mapM (fun f => (P.info? f.type).map fun i => (f.offset, i.size)) with
        | some ps => some (ps, z.cells.toList)
        | none => none
      | some (.array n e) => match P.info? e with
        | some ie => some ((List.range n).map fun k => (k * ie.size, ie.size), z.cells.toList)
        | none => none
      | _ => none
    | none => none
  | none => none

theorem mapM_places {P : Program} {w : World} : ∀ {fs : List Field} {ps : List (Nat × Nat)}, fs.mapM (fun f => (P.info? f.type).map fun i => (f.offset, i.size)) = some ps → (fs.mapM (fun f => do pure (f.offset, ← Go.sizeOf f.type) : Field → Sem (Nat × Nat))).run P w = .ok ps w
  | [], ps, h => by simp at h; subst h; simp
  | f :: fs, ps, h => by
    rw [List.mapM_cons] at h
    cases hi : P.info? f.type with
    | none => simp [hi] at h
    | some i =>
      cases hq : fs.mapM (fun f => (P.info? f.type).map fun i => (f.offset, i.size)) with
      | none => simp [hi, hq] at h
      | some qs =>
      simp [hi, hq] at h
      subst h
      have hsz : (do pure (f.offset, ← Go.sizeOf f.type) : Sem (Nat × Nat)).run P w = .ok (f.offset, i.size) w := by simp [Go.sizeOf, typeInfo, hi]
      rw [List.mapM_cons, Sem.run_bind, hsz]
      simp only [Result.andThen_ok, Sem.run_bind, mapM_places hq, Sem.run_pure]

def buildA (P : Program) (t : TypeId) (parts : List (Nat × AV)) (K : AV → Prop) : Prop :=
  match placesA P t with
  | some (ps, z) => (match fillA ps (z.map fun v => .d (.v v)) parts with
    | some r => K (.agg r)
    | none => False)
  | none => False

theorem build_run {P : Program} {t : TypeId} {w : World} {j : Js} {parts : List (Nat × AV)} {vals : List (Nat × Value)} (h3 : parts.length = vals.length) (h4 : ∀ k, k < parts.length → (parts.getD k (0, .undef)).1 = (vals.getD k (0, Go.undef)).1 ∧ R w j (parts.getD k (0, .undef)).2 (vals.getD k (0, Go.undef)).2)
    {ps : List (Nat × Nat)} {z : List Value} (hp : placesA P t = some (ps, z)) {r : List AV} (hr : fillA ps (z.map fun v => .d (.v v)) parts = some r) :
    ∃ v, (Instr.build t vals.toArray).run P w = .ok v w ∧ R w j (.agg r) v := by
  unfold placesA at hp
  split at hp
  · rename_i i hi
    split at hp
    · rename_i zz hz
      have hzc : ∀ (C : Array Value), C.toList = z → C.size = (z.map fun v => AV.d (.v v)).length ∧ ∀ k, k < (z.map fun v => AV.d (.v v)).length → R w j ((z.map fun v => AV.d (.v v)).getD k .undef) (C.getD k Go.undef) := by
        intro C hC
        subst hC
        refine ⟨by simp, fun k hk => ?_⟩
        simp only [List.length_map, Array.length_toList] at hk
        have h1 : (C.toList.map fun c => AV.d (.v c)).getD k .undef = AV.d (.v (C.getD k Go.undef)) := by
          simp [List.getD_eq_getElem?_getD, hk, Array.getD_eq_getD_getElem?]
        rw [h1]; exact .d (.v _)
      split at hp
      · rename_i fs hu
        split at hp
        · rename_i qs hq
          simp only [Option.some.injEq, Prod.mk.injEq] at hp
          obtain ⟨rfl, hz2⟩ := hp
          obtain ⟨g1, g2⟩ := hzc zz.cells hz2
          obtain ⟨C', f1, f2, f3, f4⟩ := fill_sound (w := w) (j := j) (places := qs) (pl := (qs.toArray[·]?)) (fun i x hx => by simpa using hx) g1 g2 h3 h4 hr
          refine ⟨.agg C', ?_, .agg C' f2 f4⟩
          have hm : (fs.mapM (fun f => do pure (f.offset, ← Go.sizeOf f.type) : Field → Sem (Nat × Nat))).run P w = .ok qs.toArray w := by
            rw [← Array.toArray_toList (xs := fs), List.mapM_toArray, Sem.run_map, mapM_places hq]; rfl
          unfold Instr.build
          simp only [Sem.run_bind, zeroValue, typeInfo, run_program, Result.andThen_ok, hi, hz, Sem.run_pure, underlying, hu, hm, List.toList_toArray, f1]
        · simp at hp
      · rename_i n e hu
        split at hp
        · rename_i ie hie
          simp only [Option.some.injEq, Prod.mk.injEq] at hp
          obtain ⟨rfl, hz2⟩ := hp
          obtain ⟨g1, g2⟩ := hzc zz.cells hz2
          obtain ⟨C', f1, f2, f3, f4⟩ := fill_sound (w := w) (j := j) (pl := fun i => some (i * ie.size, ie.size)) (fun i x hx => by
            simp only [List.getElem?_map, Option.map_eq_some_iff] at hx
            obtain ⟨q, hq, rfl⟩ := hx
            have := List.getElem?_eq_some_iff.1 hq
            obtain ⟨hlt, he⟩ := this
            simp at he
            rw [he]) g1 g2 h3 h4 hr
          refine ⟨.agg C', ?_, .agg C' f2 f4⟩
          unfold Instr.build
          simp only [Sem.run_bind, zeroValue, typeInfo, run_program, Result.andThen_ok, hi, hz, Sem.run_pure, underlying, hu, Go.sizeOf, hie, List.toList_toArray, f1]
        · simp at hp
      · simp at hp
    · simp at hp
  · simp at hp

def partsA (g : Bool) (s : St) : List (Nat × Operand) → (List (Nat × AV) → Prop) → Prop
  | [], K => K []
  | (i, x) :: xs, K => arg g s x fun a => partsA g s xs fun as => K ((i, a) :: as)

theorem partsA_sound {g : Bool} {s : St} : ∀ {xs : List (Nat × Operand)} {K : List (Nat × AV) → Prop}, partsA g s xs K → ∃ ps, K ps ∧ ps.length = xs.length ∧ ∀ k, k < xs.length → (ps.getD k (0, .undef)).1 = (xs.getD k (0, .const Go.undef)).1 ∧ Arg g s (xs.getD k (0, .const Go.undef)).2 (ps.getD k (0, .undef)).2
  | [], K, h => ⟨[], h, rfl, by simp⟩
  | (i, x) :: xs, K, h => by
    obtain ⟨av, h1, h2⟩ := arg_sound h
    obtain ⟨avs, h3, h4, h5⟩ := partsA_sound h1
    refine ⟨(i, av) :: avs, h3, by simp [h4], fun k hk => ?_⟩
    cases k with
    | zero => exact ⟨by simp, by simpa using h2⟩
    | succ k => simpa using h5 k (by simpa using hk)

theorem build_sound {P : Program} {g : Bool} {s : St} {t : TypeId} {ps : Array (Nat × Operand)} {K : AV → Prop} (h : partsA g s ps.toList fun parts => buildA P t parts K) : ∃ av, K av ∧ Yld P g s (.build t ps) av := by
  obtain ⟨parts, h, hl, hp⟩ := partsA_sound h
  unfold buildA at h
  split at h
  · rename_i pl z hpl
    split at h
    · rename_i r hr
      refine ⟨_, h, fun hg j0 j a w o ho hrel => ?_⟩
      obtain ⟨v, h1, h2⟩ := build_run (P := P) (w := w) (j := j) (t := t) (parts := parts) (vals := ps.toList.map fun p => (p.1, a.eval p.2)) (by simpa using hl) (fun k hk => by
        have hk' : k < ps.toList.length := by rw [← hl]; exact hk
        have := hp k hk'
        have e : (ps.toList.map fun p => (p.1, a.eval p.2)).getD k (0, Go.undef) = ((ps.toList.getD k (0, .const Go.undef)).1, a.eval (ps.toList.getD k (0, .const Go.undef)).2) := by
          have hk2 : k < ps.size := by simpa using hk'
          simp [List.getD_eq_getElem?_getD, hk2]
        rw [e]
        exact ⟨this.1, this.2 hg j0 j a w hrel⟩) hpl hr
      refine ⟨v, ?_, h2⟩
      have e : (ps.toList.map fun p => (p.1, a.eval p.2)).toArray = ps.map fun (i, x) => (i, a.eval x) := by
        apply Array.ext'; simp
      rw [e] at h1
      simp only [execOp, ho]
      exact run_v h1
    · exact h.elim
  · exact h.elim

end Go.Abs
