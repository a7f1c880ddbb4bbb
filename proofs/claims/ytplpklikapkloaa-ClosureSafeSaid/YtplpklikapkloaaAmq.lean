/- Abstract values: clear, copy. -/
import Derived.Test.YtplpklikapkloaaAm
namespace Go.Abs
set_option linter.unusedVariables false
set_option linter.unusedSimpArgs false

def setRows (lo k : Nat) (rows row : Nat → List D) : Nat → List D := fun i => if lo ≤ i ∧ i < lo + k then rows (i - lo) else row i

theorem rows_store {P : Program} {w : World} {j : Js} {σ : List Blk} (hS : RelS w j σ) {b cb sz lo k n' : Nat} {row rows : Nat → List D} (hj : j[b]? = some (some cb)) (hb : σ[b]? = some (.arr sz n' row)) (hle : lo + k ≤ n') {vs : List Value} (hl : vs.length = k * sz)
    (hlen : ∀ i, i < k → (rows i).length = sz) (hrel : ∀ i, i < k → ∀ q, q < sz → RD w j ((rows i).getD q default) (vs.getD (i * sz + q) Go.undef)) (hone : ∀ u ∈ vs, u.oneCell' = true) :
    ∃ w', (storeCells ⟨cb, lo * sz, none⟩ vs 0).run P w = .ok () w' ∧ RelS w' j (σ.set b (.arr sz n' (setRows lo k rows row))) ∧ Ev j w j w' := by
  obtain ⟨o, ho, hB⟩ := hS.blk b _ hb
  rw [hj] at ho
  cases ho
  obtain ⟨C, e, hC, hCs, hCr⟩ := hB
  have hfit : lo * sz + vs.length ≤ C.size := by
    have h1 : (lo + k) * sz ≤ n' * sz := Nat.mul_le_mul_right sz hle
    rw [Nat.add_mul] at h1
    omega
  have h1 := run_storeCells_at (P := P) cb (lo * sz) e vs 0 C w hC (by simpa using hfit) hone
  simp only [Nat.add_zero] at h1
  have hsz : (C.toList.take (lo * sz) ++ vs ++ C.toList.drop (lo * sz + vs.length)).toArray.size = C.size := by simp; omega
  have he := ev_setRow (j := j) hC hsz (List.mem_of_getElem? hj)
  refine ⟨_, h1, ?_, he⟩
  refine (hS.setRow (x := .arr sz n' (setRows lo k rows row)) hj hC hsz ⟨_, e, setRow_heap w cb C _ e (0, 0) hC, by rw [hsz]; exact hCs, fun i hi => ?_⟩).1
  by_cases hin : lo ≤ i ∧ i < lo + k
  · have hi' : i - lo < k := by omega
    have e0 : setRows lo k rows row i = rows (i - lo) := by simp [setRows, hin]
    rw [e0]
    refine ⟨hlen _ hi', fun q hq => ?_⟩
    have hmul : i * sz = lo * sz + (i - lo) * sz := by rw [← Nat.add_mul]; congr 1; omega
    have hlt : (i - lo) * sz + q < vs.length := by
      rw [hl]
      have h2 : (i - lo + 1) * sz ≤ k * sz := Nat.mul_le_mul_right sz hi'
      rw [Nat.add_mul, Nat.one_mul] at h2; omega
    rw [setRow_getD hfit, if_pos (by omega), show i * sz + q - lo * sz = (i - lo) * sz + q by omega]
    exact (hrel _ hi' q hq).mono he
  · have e0 : setRows lo k rows row i = row i := by simp only [setRows, hin, if_false]
    rw [e0]
    refine ⟨(hCr i hi).1, fun q hq => ?_⟩
    have hout : ¬ (lo * sz ≤ i * sz + q ∧ i * sz + q < lo * sz + vs.length) := by
      rw [hl, ← Nat.add_mul]
      rcases Nat.lt_or_ge i lo with h | h
      · have h2 : (i + 1) * sz ≤ lo * sz := Nat.mul_le_mul_right sz h
        rw [Nat.add_mul, Nat.one_mul] at h2; omega
      · have h2 : (lo + k) * sz ≤ i * sz := Nat.mul_le_mul_right sz (by omega)
        omega
    rw [setRow_getD hfit, if_neg hout]
    exact ((hCr i hi).2 q hq).mono he

theorem zeroCells_getD {z : Array Value} {n q : Nat} (hq : q < n * z.size) : (Builtin.zeroCells z n).toList.getD q Go.undef = z.toList.getD (q % z.size) Go.undef := by
  have hz : 0 < z.size := by
    rcases Nat.eq_zero_or_pos z.size with h | h
    · rw [h] at hq; omega
    · exact h
  have h1 : q % z.size < z.size := Nat.mod_lt _ hz
  have h2 : q < (Builtin.zeroCells z n).size := by rw [size_zeroCells]; exact hq
  simp [Builtin.zeroCells, List.getD_eq_getElem?_getD, hq, h1, getElem!_pos]

def clearA (P : Program) (t : TypeId) (σ : List Blk) (x : AV) (K : List Blk → Prop) : Prop :=
  match x, slB P t with
  | .ms b sz lo n, some (e, sz', bytes, z) => (match σ[b]? with
    | some (.arr sz'' n' row) => (Nat.beq sz sz' && Nat.beq sz sz'') = true ∧ lo + n ≤ n' ∧ allOneD (z.map .v) = true ∧ K (σ.set b (.arr sz n' (setRows lo n (fun _ => z.map .v) row)))
    | _ => False)
  | _, _ => False

theorem set_self {α : Type} {l : List α} {i : Nat} {x : α} (h : l[i]? = some x) : l.set i x = l := by
  apply List.ext_getElem?
  intro k
  rw [List.getElem?_set]
  split
  · rename_i hk; subst hk
    rw [h]; simp [(List.getElem?_eq_some_iff.1 h).1]
  · rfl

theorem setRows_zero {lo : Nat} {rows row : Nat → List D} : setRows lo 0 rows row = row := by
  funext i; simp only [setRows]; rw [if_neg (by omega)]

theorem clear_sound {P : Program} {w : World} {j : Js} {σ : List Blk} (hS : RelS w j σ) {t ty : TypeId} {x : AV} {vx : Value} {K : List Blk → Prop} (h : clearA P t σ x K) (hx : R w j x vx) :
    ∃ w' σ', (Builtin.clear_ #[t] ty #[vx]).run P w = .ok (.tuple #[]) w' ∧ RelS w' j σ' ∧ Ev j w j w' ∧ K σ' := by
  unfold clearA at h
  split at h
  · rename_i b sz lo n e sz' bytes z hsl
    split at h
    · rename_i sz'' n' row hb
      obtain ⟨h1, h2, h3, hK⟩ := h
      simp only [Bool.and_eq_true, Nat.beq_eq] at h1
      obtain ⟨rfl, rfl⟩ := h1
      obtain ⟨hu, i, zz, hi, hzz, hsz, _, rfl, hzs⟩ := slB_spec hsl
      cases hx with
      | @ms _ _ _ _ cb c e' m hj hs hn hm =>
        rcases Nat.eq_zero_or_pos n with rfl | hpos
        · refine ⟨w, _, ?_, ?_, .refl _ _, hK⟩
          · simp [Builtin.clear_, underlying, hu]
          · rw [setRows_zero, set_self hb]; exact hS
        · obtain ⟨w', g1, g2, g3⟩ := rows_store (P := P) hS (lo := lo) (k := n) (rows := fun _ => zz.cells.toList.map .v) hj hb h2 (vs := (Builtin.zeroCells zz.cells n).toList) (by simp [size_zeroCells, hzs]) (fun _ _ => by simp [hzs]) (fun q hq r hr => by
            have hlt : q * sz + r < n * zz.cells.size := by
              rw [hzs]
              have h4 : (q + 1) * sz ≤ n * sz := Nat.mul_le_mul_right sz hq
              rw [Nat.add_mul, Nat.one_mul] at h4; omega
            rw [zeroCells_getD hlt, hzs, show (q * sz + r) % sz = r by rw [Nat.mul_comm, Nat.mul_add_mod, Nat.mod_eq_of_lt hr]]
            have hr' : r < zz.cells.size := by omega
            have e1 : (zz.cells.toList.map D.v).getD r default = .v (zz.cells.toList.getD r Go.undef) := by
              simp [List.getD_eq_getElem?_getD, hr']
            rw [e1]; exact .v _) (fun u hu => by
            obtain ⟨q, hq, rfl⟩ := List.getElem_of_mem hu
            simp only [Array.length_toList, size_zeroCells] at hq
            have e1 : (Builtin.zeroCells zz.cells n).toList[q]'(by simpa [size_zeroCells] using hq) = (Builtin.zeroCells zz.cells n).toList.getD q Go.undef := by
              simp [List.getD_eq_getElem?_getD, size_zeroCells, hq]
            rw [e1, zeroCells_getD hq]
            have hz : 0 < zz.cells.size := by
              rcases Nat.eq_zero_or_pos zz.cells.size with h | h
              · rw [h] at hq; omega
              · exact h
            have hm : q % zz.cells.size < zz.cells.size := Nat.mod_lt _ hz
            have := allOneD_getD (k := q % zz.cells.size) h3 (by simpa using hm)
            have e2 : (zz.cells.toList.map D.v).getD (q % zz.cells.size) default = .v (zz.cells.toList.getD (q % zz.cells.size) Go.undef) := by
              simp [List.getD_eq_getElem?_getD, hm]
            rw [e2] at this; exact this)
          refine ⟨w', _, ?_, g2, g3, hK⟩
          obtain ⟨n, rfl⟩ : ∃ k, n = k + 1 := ⟨n - 1, by omega⟩
          simp [Builtin.clear_, underlying, hu, zeroValue, typeInfo, hi, hzz, g1]
      | @ms0 _ _ p hj =>
        refine ⟨w, _, ?_, ?_, .refl _ _, hK⟩
        · cases p <;> simp [Builtin.clear_, underlying, hu]
        · rw [setRows_zero, set_self hb]; exact hS
    · exact h.elim
  · exact h.elim

end Go.Abs
