/- Abstract values: make, slice literals. -/
import Derived.Test.YtplpklikapkloaaAl
namespace Go.Abs
set_option linter.unusedVariables false
set_option linter.unusedSimpArgs false

theorem made_getD {z : Array Value} {m q : Nat} (hq : q < m) (hz : 0 < z.size) : (madeCells z m).getD q Go.undef = z.getD (q % z.size) Go.undef := by
  have h : q % z.size < z.size := Nat.mod_lt _ hz
  simp [madeCells, Array.getD_eq_getD_getElem?, hq, h]

def makeA (P : Program) (σ : List Blk) (t : TypeId) (l c : Int) (K : AV → List Blk → Prop) : Prop :=
  match slB P t with
  | some (e, sz, bytes, z) => (0 ≤ l ∧ l ≤ c ∧ (bytes : Int) * c ≤ 281474976710656 ∧ c ≤ 9223372036854775807) ∧ K (.ms σ.length sz 0 l.toNat) (σ ++ [.arr sz l.toNat fun _ => z.map .v])
  | none => False

theorem make_sound {P : Program} {w : World} {j : Js} {σ : List Blk} (hS : RelS w j σ) {t : TypeId} {kl kc : IntKind} {l c : Int} {K : AV → List Blk → Prop} (h : makeA P σ t l c K) :
    ∃ v w' j' r σ', (Instr.makeSlice t (.int kl l) (.int kc c)).run P w = .ok v w' ∧ RelS w' j' σ' ∧ R w' j' r v ∧ Ev j w j' w' ∧ j.length ≤ j'.length ∧ Ag j j' [] ∧ K r σ' := by
  unfold makeA at h
  split at h
  · rename_i e sz bytes z hsl
    obtain ⟨hu, i, zz, hi, hz, hsz, hby, hzz, hzs⟩ := slB_spec hsl
    obtain ⟨⟨h0, h1, h2, h3⟩, hK⟩ := h
    subst hsz hby hzz
    have hrun := run_make (P := P) w t e i zz hu hi hz kl kc l c h0 h1 h2 h3
    have hmul : l.toNat * i.size ≤ c.toNat * i.size := Nat.mul_le_mul_right _ (by omega)
    obtain ⟨g1, g2⟩ := hS.alloc (madeCells zz.cells (c.toNat * i.size)) e (.arr i.size l.toNat fun _ => zz.cells.toList.map .v) ⟨_, e, heap_alloc_new _ _, by rw [size_madeCells]; exact hmul, fun q hq => ⟨by simp [hzs], fun r hr => by
      have hlt : q * i.size + r < c.toNat * i.size := by
        have : (q + 1) * i.size ≤ l.toNat * i.size := Nat.mul_le_mul_right _ hq
        rw [Nat.succ_mul] at this; omega
      rw [made_getD hlt (by omega), hzs]
      have e1 : (q * i.size + r) % i.size = r := by rw [Nat.mul_comm, Nat.mul_add_mod, Nat.mod_eq_of_lt hr]
      rw [e1]
      have e2 : (zz.cells.toList.map D.v).getD r default = .v (zz.cells.getD r Go.undef) := by
        simp [List.getD_eq_getElem?_getD, Array.getD_eq_getD_getElem?, show r < zz.cells.size by omega]
      rw [e2]; exact .v _⟩⟩
    refine ⟨_, _, _, _, _, hrun, g1, ?_, g2, by simp, ag_append _ _, hK⟩
    have hms : R (w.alloc (.cells (madeCells zz.cells (c.toNat * i.size)) e)) (j ++ [some w.heap.size]) (.ms σ.length i.size 0 l.toNat) (.slice (some ⟨w.heap.size, 0 * i.size, none⟩) l.toNat c.toNat) := by
      refine .ms _ e (c.toNat * i.size) ?_ ?_ (by omega) (by simp)
      · rw [List.getElem?_append_right (by rw [hS.len]; omega)]; simp [hS.len]
      · rw [shape_of (heap_alloc_new _ _), size_madeCells]
    rwa [Nat.zero_mul] at hms
  · exact h.elim

def rep (z : List Value) : Nat → List Value
  | 0 => []
  | n + 1 => z ++ rep z n

theorem rep_length (z : List Value) : ∀ n, (rep z n).length = n * z.length
  | 0 => by simp [rep]
  | n + 1 => by simp [rep, rep_length z n, Nat.succ_mul]; omega

theorem rep_getD (z : List Value) : ∀ n q, q < n * z.length → (rep z n).getD q Go.undef = z.getD (q % z.length) Go.undef
  | 0, q, h => by simp at h
  | n + 1, q, h => by
    simp only [rep, List.getD_eq_getElem?_getD, List.getElem?_append]
    split
    · rename_i hq; rw [Nat.mod_eq_of_lt hq]
    · rename_i hq
      have hz : 0 < z.length := by
        rcases Nat.eq_zero_or_pos z.length with hh | hh
        · rw [hh] at h; simp at h
        · exact hh
      rw [← List.getD_eq_getElem?_getD, rep_getD z n (q - z.length) (by rw [Nat.succ_mul] at h; omega), ← List.getD_eq_getElem?_getD, ← Nat.mod_eq_sub_mod (by omega)]

def rowsOf (sz : Nat) (ds : List D) (i : Nat) : List D := (ds.drop (i * sz)).take sz

def buildSliceA (P : Program) (t : TypeId) (len : Nat) (parts : List (Nat × AV)) (K : AV → Prop) : Prop :=
  match slB P t with
  | some (e, sz, bytes, z) => Nat.ble (len * sz) 16777216 = true ∧ (match fillA ((List.range len).map fun i => (i * sz, sz)) ((rep z len).map fun v => .d (.v v)) parts with
    | some r => (match asDs r with
      | some ds => K (.d (.sl (some len) sz len (rowsOf sz ds)))
      | none => False)
    | none => False)
  | none => False

theorem buildSlice_sound {P : Program} {w : World} {j : Js} {σ : List Blk} (hS : RelS w j σ) {t : TypeId} {len : Nat} {parts : List (Nat × AV)} {vals : List (Nat × Value)} {K : AV → Prop} (h : buildSliceA P t len parts K)
    (h3 : parts.length = vals.length) (h4 : ∀ k, k < parts.length → (parts.getD k (0, .undef)).1 = (vals.getD k (0, Go.undef)).1 ∧ R w j (parts.getD k (0, .undef)).2 (vals.getD k (0, Go.undef)).2) :
    ∃ v w' r, (Instr.buildSlice t len vals.toArray).run P w = .ok v w' ∧ RelS w' j σ ∧ R w' j r v ∧ Ev j w j w' ∧ K r := by
  unfold buildSliceA at h
  split at h
  · rename_i e sz bytes z hsl
    obtain ⟨hu, i, zz, hi, hz, hsz, hby, hzz, hzs⟩ := slB_spec hsl
    obtain ⟨hle, h⟩ := h
    split at h
    · rename_i r hr
      split at h
      · rename_i ds hds
        have hds := asDs_spec hds
        subst hsz hby hzz
        simp only [Nat.ble_eq] at hle
        have hrl : (rep zz.cells.toList len).length = len * i.size := by rw [rep_length]; simp [hzs]
        have hini : ∀ k, k < ((rep zz.cells.toList len).map fun v => AV.d (.v v)).length → R w j (((rep zz.cells.toList len).map fun v => AV.d (.v v)).getD k .undef) ((madeCells zz.cells (len * i.size)).getD k Go.undef) := by
          intro k hk
          simp only [List.length_map, hrl] at hk
          have hsz : 0 < i.size := by
            rcases Nat.eq_zero_or_pos i.size with hh | hh
            · rw [hh] at hk; simp at hk
            · exact hh
          have e1 : ((rep zz.cells.toList len).map fun v => AV.d (.v v)).getD k .undef = AV.d (.v ((rep zz.cells.toList len).getD k Go.undef)) := by
            simp [List.getD_eq_getElem?_getD, show k < (rep zz.cells.toList len).length by omega]
          rw [e1, rep_getD _ _ _ (by simpa [hzs] using hk), made_getD hk (by omega)]
          have e2 : zz.cells.toList.getD (k % zz.cells.toList.length) Go.undef = zz.cells.getD (k % zz.cells.size) Go.undef := by
            simp [List.getD_eq_getElem?_getD, Array.getD_eq_getD_getElem?]
          rw [e2]; exact .d (.v _)
        obtain ⟨C', f1, f2, f3, f4⟩ := fill_sound (w := w) (j := j) (pl := fun q => some (q * i.size, i.size)) (C := madeCells zz.cells (len * i.size)) (fun q x hx => by
            simp only [List.getElem?_map, Option.map_eq_some_iff] at hx
            obtain ⟨q', hq', rfl⟩ := hx
            obtain ⟨hlt, he⟩ := List.getElem?_eq_some_iff.1 hq'
            simp at he
            rw [he]) (by rw [size_madeCells]; simp [hrl]) hini h3 h4 hr
        have hdl : ds.length = len * i.size := by
          have : r.length = len * i.size := by rw [f3]; simp [hrl]
          rw [hds] at this; simpa using this
        have hrun : (Instr.buildSlice t len vals.toArray).run P w = .ok (.slice (some ⟨w.heap.size, 0, none⟩) len len) (w.alloc (.cells C' e)) := by
          have hgt : ¬ (16777216 < len * i.size) := by omega
          by_cases h0 : len * i.size = 0
          · have hm : (Array.range 0).map (fun q => (#[] : Array Value)[q % (#[] : Array Value).size]!) = madeCells zz.cells (len * i.size) := by rw [h0]; simp [madeCells]
            simp only [Instr.buildSlice, Sem.run_bind, run_underlying hu, Result.andThen_ok, Go.sizeOf, typeInfo, run_program, hi, Sem.run_pure, h0, Sem.run_ite, if_true]
            rw [if_neg (by decide)]
            simp only [Result.andThen_ok, Sem.run_pure, hm, f1, newRow, Sem.run_bind, run_newObj]
            rfl
          · simp only [Instr.buildSlice, Sem.run_bind, run_underlying hu, Result.andThen_ok, Go.sizeOf, typeInfo, run_program, hi, Sem.run_pure, h0, Sem.run_ite, if_false]
            rw [if_neg (by omega)]
            have hm : (Array.range (len * i.size)).map (fun q => zz.cells[q % zz.cells.size]!) = madeCells zz.cells (len * i.size) := rfl
            simp only [Result.andThen_ok, Sem.run_pure, zeroValue, typeInfo, Sem.run_bind, run_program, hi, hz, hm, f1, newRow, run_newObj]
            rfl
        have he : Ev j w j (w.alloc (.cells C' e)) := ev_alloc _ _ _ _ _ (fun _ _ h => h)
        have hcell : ∀ q, q < len * i.size → (w.alloc (.cells C' e)).cell? ⟨w.heap.size, q, none⟩ = some (C'.getD q Go.undef) := by
          intro q hq
          rw [cell_of (heap_alloc_new w _)]
          have : q < C'.size := by rw [f2, f3]; simp [hrl]; exact hq
          simp [Array.getD_eq_getD_getElem?, this]
        refine ⟨_, _, _, hrun, ⟨hS.len, fun b cb hb => by have := hS.lt b cb hb; simp; omega, hS.inj, fun b x hx => ?_⟩, ?_, he, h⟩
        · obtain ⟨o, ho, hB⟩ := hS.blk b x hx
          refine ⟨o, ho, hB.mono he hS.lt (.refl _ _) fun cb hcb => ?_⟩
          subst hcb
          exact heap_push_old w _ (hS.lt b cb ho)
        · rcases Nat.eq_zero_or_pos len with hl0 | hl0
          · subst hl0; exact .d (.zero _ _ (.inr rfl) (by simp))
          refine .d (.sl _ _ (fun q k => C'.getD (q * i.size + k) Go.undef) (.inr rfl) (Nat.le_refl _) rfl (by simp) (fun hm => ?_) (fun q hq => ?_) (fun q hq k hk => ?_) (fun q hq k hk => ?_))
          · obtain ⟨b, hb⟩ := List.getElem?_of_mem hm
            have := hS.lt b _ hb; simp at this
          · have : (q + 1) * i.size ≤ len * i.size := Nat.mul_le_mul_right _ hq
            rw [Nat.succ_mul] at this
            simp [rowsOf, hdl]; omega
          · have : (q + 1) * i.size ≤ len * i.size := Nat.mul_le_mul_right _ hq
            rw [Nat.succ_mul] at this
            have := hcell (q * i.size + k) (by omega)
            simpa using this
          · have hle2 : (q + 1) * i.size ≤ len * i.size := Nat.mul_le_mul_right _ hq
            rw [Nat.succ_mul] at hle2
            have hlt : q * i.size + k < r.length := by rw [f3]; simp [hrl]; omega
            have := (f4 _ hlt).mono0 he hS.lt (.refl _ _)
            rw [hds] at this
            have e1 : (ds.map AV.d).getD (q * i.size + k) AV.undef = AV.d (ds.getD (q * i.size + k) default) := by
              simp [List.getD_eq_getElem?_getD, show q * i.size + k < ds.length by omega]
            rw [e1] at this
            have e2 : (rowsOf i.size ds q).getD k default = ds.getD (q * i.size + k) default := by
              simp [rowsOf, List.getD_eq_getElem?_getD, List.getElem?_take, hk]
            rw [e2]
            cases this with | d h => exact h
      · exact h.elim
    · exact h.elim
  · exact h.elim

end Go.Abs
