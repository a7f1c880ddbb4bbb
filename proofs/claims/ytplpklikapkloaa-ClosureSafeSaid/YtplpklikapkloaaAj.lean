/- Abstract values: append, make, slice literals. -/
import Derived.Test.YtplpklikapkloaaAh
namespace Go.Abs
set_option linter.unusedVariables false
set_option linter.unusedSimpArgs false

/-- a slice type: its elements' type, cells, bytes, zero -/
def slB (P : Program) (t : TypeId) : Option (TypeId × Nat × Nat × List Value) :=
  match P.underlying t with
  | some (.slice e) => match P.info? e with
    | some i => match i.zero with
      | some z => if Nat.beq z.cells.size i.size then some (e, i.size, i.bytes, z.cells.toList) else none
      | none => none
    | none => none
  | _ => none

theorem slB_spec {P : Program} {t e : TypeId} {sz bytes : Nat} {z : List Value} (h : slB P t = some (e, sz, bytes, z)) :
    P.underlying t = some (.slice e) ∧ ∃ i zz, P.info? e = some i ∧ i.zero = some zz ∧ i.size = sz ∧ i.bytes = bytes ∧ zz.cells.toList = z ∧ zz.cells.size = sz := by
  unfold slB at h
  split at h
  · rename_i e' hu
    split at h
    · rename_i i hi
      split at h
      · rename_i zz hz
        split at h
        · rename_i hb
          simp only [Option.some.injEq, Prod.mk.injEq] at h
          obtain ⟨rfl, rfl, rfl, rfl⟩ := h
          exact ⟨hu, i, zz, hi, hz, rfl, rfl, rfl, Nat.eq_of_beq_eq_true hb⟩
        · simp at h
      · simp at h
    · simp at h
  · simp at h

def oneD : D → Bool
  | .v x => x.oneCell'
  | .sl _ _ _ _ => true

def allOneD : List D → Bool
  | [] => true
  | x :: xs => oneD x && allOneD xs

theorem oneD_cell {w : World} {j : Js} {x : D} {v : Value} (h : RD w j x v) (ho : oneD x = true) : v.oneCell' = true := by
  cases h <;> simp_all [oneD, Value.oneCell']

theorem allOneD_getD : ∀ {cs : List D} {k : Nat}, allOneD cs = true → k < cs.length → oneD (cs.getD k default) = true
  | [], _, _, hk => by simp at hk
  | x :: xs, 0, h, _ => by simp [allOneD] at h; simpa using h.1
  | x :: xs, k + 1, h, hk => by
    simp [allOneD] at h
    have := allOneD_getD (k := k) h.2 (by simpa using hk)
    simpa using this

/-- the rows of what is appended or copied -/
def srcA (σ : List Blk) (sz : Nat) (y : AV) (K : Nat → (Nat → List D) → Prop) : Prop :=
  match y with
  | .d (.sl _ sz' k row) => Nat.beq sz sz' = true ∧ (∀ i, i < k → allOneD (row i) = true) ∧ K k row
  | .d (.v (.slice none 0 0)) => K 0 fun _ => []
  | .ms b sz' lo k => match σ[b]? with
    | some (.arr sz'' n row) => (Nat.beq sz sz' && Nat.beq sz sz'') = true ∧ lo + k ≤ n ∧ (∀ i, i < k → allOneD (row (lo + i)) = true) ∧ K k fun i => row (lo + i)
    | _ => False
  | .d (.v (.string b)) => Nat.beq sz 1 = true ∧ K b.size fun i => [.v (.int .u8 ((b[i]?).getD 0).toNat)]
  | _ => False

structure Src (P : Program) (w : World) (j : Js) (sz k : Nat) (rows : Nat → List D) (v : Value) (news : List Value) : Prop where
  len : (Builtin.lenOf v).run P w = .ok k w
  first : ∀ w', (∀ b, b < w.heap.size → w'.heap[b]? = w.heap[b]?) → (Builtin.firstCells sz k v).run P w' = .ok news.toArray w'
  size : news.length = k * sz
  rlen : ∀ i, i < k → (rows i).length = sz
  rel : ∀ i, i < k → ∀ q, q < sz → RD w j ((rows i).getD q default) (news.getD (i * sz + q) Go.undef)
  one : ∀ u ∈ news, u.oneCell' = true

theorem rows_one {k sz : Nat} {news : List Value} {rows : Nat → List D} {w : World} {j : Js} (size : news.length = k * sz) (rlen : ∀ i, i < k → (rows i).length = sz)
    (rel : ∀ i, i < k → ∀ q, q < sz → RD w j ((rows i).getD q default) (news.getD (i * sz + q) Go.undef)) (hone : ∀ i, i < k → allOneD (rows i) = true) : ∀ u ∈ news, u.oneCell' = true := by
  intro u hu
  obtain ⟨q, hq, rfl⟩ := List.getElem_of_mem hu
  have hsz : 0 < sz := by
    rcases Nat.eq_zero_or_pos sz with h | h
    · subst h; simp at size; subst size; simp at hq
    · exact h
  have h1 : q / sz < k := by
    rw [size] at hq
    exact Nat.div_lt_of_lt_mul (by rwa [Nat.mul_comm] at hq)
  have h2 : q % sz < sz := Nat.mod_lt _ hsz
  have h3 := rel (q / sz) h1 (q % sz) h2
  have h4 : q / sz * sz + q % sz = q := by rw [Nat.mul_comm]; exact Nat.div_add_mod q sz
  rw [h4] at h3
  have h5 := oneD_cell h3 (allOneD_getD (hone _ h1) (by rw [rlen _ h1]; exact h2))
  simpa [List.getD_eq_getElem?_getD, hq] using h5

theorem firstCells_of {P : Program} {w : World} {sz k len cap : Nat} {a : Addr} {news : List Value} (hl : news.length = k * sz) (h : ∀ q, q < news.length → w.cell? (a.add q) = some (news.getD q Go.undef)) : (Builtin.firstCells sz k (.slice (some a) len cap)).run P w = .ok news.toArray w :=
  run_firstCells_some w sz k a len cap news hl (fun q v hq => by
    obtain ⟨h1, h2⟩ := List.getElem?_eq_some_iff.1 hq
    rw [h q h1]
    simp [List.getD_eq_getElem?_getD, hq])

theorem cell_same {w w' : World} (h : ∀ b, b < w.heap.size → w'.heap[b]? = w.heap[b]?) {a : Addr} {v : Value} (hc : w.cell? a = some v) : w'.cell? a = some v := by
  rw [cell_eq (h a.block (block_lt_of_cell hc))]; exact hc

theorem src_sound {P : Program} {w : World} {j : Js} {σ : List Blk} (hS : RelS w j σ) {sz : Nat} {y : AV} {v : Value} {K : Nat → (Nat → List D) → Prop} (h : srcA σ sz y K) (hr : R w j y v) : ∃ k rows news, K k rows ∧ Src P w j sz k rows v news := by
  unfold srcA at h
  split at h
  · rename_i cap sz' k row
    obtain ⟨hb, hone, hK⟩ := h
    have := Nat.eq_of_beq_eq_true hb
    subst this
    cases hr with | d hr =>
    cases hr with
    | sl a c val hcap hle ha hlt hbj hlen hcell hrel =>
      let news : List Value := (List.range (k * sz)).map fun q => val (q / sz) (q % sz)
      have hsize : news.length = k * sz := by simp [news]
      have hget : ∀ q, q < k * sz → news.getD q Go.undef = val (q / sz) (q % sz) := by
        intro q hq; simp [news, List.getD_eq_getElem?_getD, hq]
      have hcl : ∀ q, q < news.length → w.cell? (a.add q) = some (news.getD q Go.undef) := by
        intro q hq
        rw [hsize] at hq
        have hsz : 0 < sz := by
          rcases Nat.eq_zero_or_pos sz with h | h
          · subst h; simp at hq
          · exact h
        have h1 : q / sz < k := Nat.div_lt_of_lt_mul (by rwa [Nat.mul_comm] at hq)
        have h2 : q % sz < sz := Nat.mod_lt _ hsz
        have h4 : q / sz * sz + q % sz = q := by rw [Nat.mul_comm]; exact Nat.div_add_mod q sz
        rw [add_off _ ha, hget q hq, ← hcell _ h1 _ h2, Nat.add_assoc, h4]
      have hrel' : ∀ i, i < k → ∀ q, q < sz → RD w j ((row i).getD q default) (news.getD (i * sz + q) Go.undef) := by
        intro i hi q hq
        have hb : i * sz + q < k * sz := by
          have : (i + 1) * sz ≤ k * sz := Nat.mul_le_mul_right _ hi
          rw [Nat.succ_mul] at this; omega
        rw [hget _ hb]
        have e1 : (i * sz + q) / sz = i := by
          rw [Nat.mul_comm, Nat.mul_add_div (by omega), Nat.div_eq_of_lt hq]; rfl
        have e2 : (i * sz + q) % sz = q := by
          rw [Nat.mul_comm, Nat.mul_add_mod, Nat.mod_eq_of_lt hq]
        rw [e1, e2]; exact hrel i hi q hq
      refine ⟨k, row, news, hK, by simp [Builtin.lenOf], fun w' hw' => ?_, hsize, hlen, hrel', rows_one hsize hlen hrel' hone⟩
      exact firstCells_of hsize fun q hq => cell_same hw' (hcl q hq)
    | zero p c hcap hp =>
      refine ⟨0, row, [], hK, by simp [Builtin.lenOf], fun w' hw' => ?_, by simp, by simp, by simp, by simp⟩
      cases p with
      | none => simp [Builtin.firstCells]
      | some a => exact firstCells_of (news := []) (by simp) (by simp)
  · have := R_v hr
    subst this
    exact ⟨0, _, [], h, by simp [Builtin.lenOf], fun w' _ => by simp [Builtin.firstCells], by simp, by simp, by simp, by simp⟩
  · rename_i b sz' lo k
    split at h
    · rename_i sz'' n row hb
      obtain ⟨hbb, hle, hone, hK⟩ := h
      simp only [Bool.and_eq_true] at hbb
      have e1 := Nat.eq_of_beq_eq_true hbb.1
      have e2 := Nat.eq_of_beq_eq_true hbb.2
      subst e1 e2
      obtain ⟨o, ho, hB⟩ := hS.blk b _ hb
      cases hr with
      | @ms _ _ _ _ cb c e m hj hsh hn hm =>
        rw [hj] at ho
        cases ho
        obtain ⟨C, e', hC, hCs, hCr⟩ := hB
        have hmul : (lo + k) * sz ≤ n * sz := Nat.mul_le_mul_right _ hle
        rw [Nat.add_mul] at hmul
        let news : List Value := (List.range (k * sz)).map fun q => C.getD (lo * sz + q) Go.undef
        have hsize : news.length = k * sz := by simp [news]
        have hget : ∀ q, q < k * sz → news.getD q Go.undef = C.getD (lo * sz + q) Go.undef := by
          intro q hq; simp [news, List.getD_eq_getElem?_getD, hq]
        have hrel' : ∀ i, i < k → ∀ q, q < sz → RD w j ((row (lo + i)).getD q default) (news.getD (i * sz + q) Go.undef) := by
          intro i hi q hq
          have hb : i * sz + q < k * sz := by
            have : (i + 1) * sz ≤ k * sz := Nat.mul_le_mul_right _ hi
            rw [Nat.succ_mul] at this; omega
          rw [hget _ hb, ← Nat.add_assoc, ← Nat.add_mul]
          exact (hCr (lo + i) (by omega)).2 q hq
        refine ⟨k, fun i => row (lo + i), news, hK, by simp [Builtin.lenOf], fun w' hw' => ?_, hsize, fun i hi => (hCr (lo + i) (by omega)).1, hrel', rows_one hsize (fun i hi => (hCr (lo + i) (by omega)).1) hrel' hone⟩
        refine firstCells_of hsize fun q hq => cell_same hw' ?_
        rw [hsize] at hq
        rw [add_off _ rfl, cell_of hC, hget q hq]
        simp [Array.getD_eq_getD_getElem?, show lo * sz + q < C.size by omega]
      | ms0 p hj =>
        refine ⟨0, fun i => row (0 + i), [], hK, by simp [Builtin.lenOf], fun w' hw' => ?_, by simp, by simp, by simp, by simp⟩
        cases p with
        | none => simp [Builtin.firstCells]
        | some a => exact firstCells_of (news := []) (by simp) (by simp)
    · exact h.elim
  · rename_i b
    obtain ⟨hb, hK⟩ := h
    have := Nat.eq_of_beq_eq_true hb
    subst this
    have := R_v hr
    subst this
    let news : List Value := b.data.toList.map fun x => .int .u8 x.toNat
    have hl : news.length = b.size := by simp [news]
    refine ⟨b.size, _, news, hK, by simp [Builtin.lenOf], fun w' _ => ?_, by omega, by simp, fun i hi q hq => ?_, ?_⟩
    · have e1 : (b.extract 0 b.size).data = b.data := by
        have : b.extract 0 b.size = b := ByteArray.extract_zero_size
        rw [this]
      simp only [Builtin.firstCells, e1, news, Sem.run_pure]
      congr 1
      apply Array.ext'; simp
    · have : q = 0 := by omega
      subst this
      have hi' : i < b.data.size := hi
      have e2 : b[i]? = some b.data[i] := by
        rw [getElem?_pos b i hi]; rfl
      have e1 : news.getD (i * 1 + 0) Go.undef = .int .u8 (b.data[i]).toNat := by
        simp only [news, Nat.mul_one, Nat.add_zero, List.getD_eq_getElem?_getD, List.getElem?_map]
        rw [Array.getElem?_toList, Array.getElem?_eq_getElem hi']; rfl
      rw [e1]
      simp only [e2, Option.getD_some]
      exact .v _
    · intro u hu
      simp only [news, List.mem_map] at hu
      obtain ⟨x, _, rfl⟩ := hu
      rfl
  · exact h.elim

end Go.Abs
