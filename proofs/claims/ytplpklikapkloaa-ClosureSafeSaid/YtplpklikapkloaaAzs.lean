/- Abstract values: slices.SortFunc over a slice that may be written. -/
import Derived.Test.YtplpklikapkloaaAz
import Derived.Shelf.SlSortCmp.WholeK
namespace Go.Abs
set_option linter.unusedVariables false
set_option linter.unusedSimpArgs false
open Go.Sort Go.Proofs

theorem onCells_eq {w : World} {blk : Nat} {C : Array Value} {e : TypeId} {f : Nat × Nat} (h : w.heap[blk]? = some (.cells C e f)) (g : Array Value → Array Value) (b : Nat) : (mapBlock w blk g).heap[b]? = if b = blk then some (.cells (g C) e f) else w.heap[b]? := by
  unfold mapBlock
  simp only [Array.getElem?_modify]
  by_cases hb : b = blk
  · subst hb; simp [h, onCells]
  · simp [hb, Ne.symm hb]

section
variable {α : Type} [Inhabited α] {enc : α → List Value} {k : Nat}

theorem holds_of {w : World} {j : Js} {σ : List Blk} (hS : RelS w j σ) {b cb n : Nat} {row : Nat → List D} {x : Nat → α} (hj : j[b]? = some (some cb)) (hb : σ[b]? = some (.arr k n row)) (hrow : ∀ i, i < n → row i = (enc (x i)).map .v) (hk : ∀ y, (enc y).length = k) : HoldsK enc k w cb 0 (lst n x).toArray := by
  obtain ⟨o, ho, hB⟩ := hS.blk b _ hb
  rw [hj] at ho; cases ho
  obtain ⟨C, e, hC, hcs, hrel⟩ := hB
  intro t ht
  simp only [size_flatK, List.size_toArray, lst_length] at ht
  have k0 : 0 < k := by rcases Nat.eq_zero_or_pos k with h | h; (subst h; simp at ht); exact h
  have hi : t / k < n := Nat.div_lt_of_lt_mul (by rwa [Nat.mul_comm] at ht)
  have hm : t % k < k := Nat.mod_lt _ k0
  have hr := (hrel (t / k) hi).2 (t % k) hm
  rw [hrow _ hi] at hr
  have hdm : t / k * k + t % k = t := Nat.div_add_mod' t k
  rw [hdm] at hr
  have hlt : t < C.size := by omega
  have e0 : ((enc (x (t / k))).map D.v).getD (t % k) default = D.v ((enc (x (t / k)))[t % k]!) := by
    have : t % k < (enc (x (t / k))).length := by rw [hk]; exact hm
    simp [List.getD_eq_getElem?_getD, this]
  rw [e0] at hr
  have hv : C.getD t Go.undef = (enc (x (t / k)))[t % k]! := by
    generalize C.getD t Go.undef = u at hr
    cases hr; rfl
  refine ⟨?_, ?_⟩
  · rw [cell_of hC, Nat.zero_add, get_flatK _ _ _ _ (by simpa [lst_length] using ht)]
    have e1 : (lst n x).toArray[t / k]! = x (t / k) := by
      simp [lst, hi]
    rw [e1, id, ← hv]
    simp [Array.getD_eq_getD_getElem?, hlt]
  · simp [World.frozen?, hC]

theorem sorted_rel {w : World} {j : Js} {σ : List Blk} (hS : RelS w j σ) {b cb n m : Nat} {row : Nat → List D} {d : Array α} {os : Array Obj} (hj : j[b]? = some (some cb)) (hb : σ[b]? = some (.arr k n row)) {row' : Nat → List D} (hrow : ∀ i, i < n → row' i = (enc (d[i]!)).map .v) (hk : ∀ y, (enc y).length = k) (hd : d.size = n) :
    RelS (sortWorldK enc k w cb 0 m d os) j (σ.set b (.arr k n row')) ∧ Ev j w j (sortWorldK enc k w cb 0 m d os) := by
  obtain ⟨o, ho, hB⟩ := hS.blk b _ hb
  rw [hj] at ho; cases ho
  obtain ⟨C, e, hC, hcs, hrel⟩ := hB
  have hcb : cb < w.heap.size := hS.lt b cb hj
  have hheap : ∀ c, c < w.heap.size → (sortWorldK enc k w cb 0 m d os).heap[c]? = if c = cb then some (.cells (putCells id 0 (flatK enc k d) C) e (0, 0)) else w.heap[c]? := by
    intro c hc
    unfold sortWorldK grow putRowK putRow
    simp only
    rw [Array.getElem?_append_left (by show c < (mapBlock _ _ _).heap.size; simpa [mapBlock, Go.Sort.ahead] using hc)]
    exact onCells_eq (w := Go.Sort.ahead w m) (blk := cb) (C := C) (e := e) (f := (0, 0)) hC (putCells id 0 (flatK enc k d)) c
  have hsz : (putCells id 0 (flatK enc k d) C).size = C.size := by simp [putCells]
  have hsize : w.heap.size ≤ (sortWorldK enc k w cb 0 m d os).heap.size := by
    unfold sortWorldK grow putRowK putRow mapBlock Go.Sort.ahead; simp
  have he : Ev j w j (sortWorldK enc k w cb 0 m d os) := by
    refine ⟨hsize, fun c hc hn => ?_, fun _ _ h => h, fun c hc => ?_, fun a ha => ?_, rfl, rfl, rfl, fun c r hr => ?_⟩
    · rw [hheap c hc, if_neg (fun h : c = cb => hn (by rw [h]; exact List.mem_of_getElem? hj))]
    · unfold World.shape?
      rw [hheap c hc]
      by_cases h : c = cb
      · subst h; simp [hC, hsz]
      · simp [h]
    · unfold World.frozen?
      rw [hheap a.block ha]
      by_cases h : a.block = cb
      · simp [h, hC]
      · simp [h]
    · have hc : c < w.heap.size := (Array.getElem?_eq_some_iff.1 hr).1
      refine ⟨r, ?_⟩
      rw [hheap c hc, if_neg (fun h : c = cb => by subst h; rw [hC] at hr; cases hr)]; exact hr
  refine ⟨⟨by simp [hS.len], fun c q hc => Nat.lt_of_lt_of_le (hS.lt c q hc) hsize, hS.inj, fun c y hy => ?_⟩, he⟩
  rw [List.getElem?_set] at hy
  split at hy
  · rename_i hbc
    subst hbc
    split at hy
    · simp only [Option.some.injEq] at hy
      subst hy
      refine ⟨some cb, hj, putCells id 0 (flatK enc k d) C, e, by rw [hheap cb hcb]; simp, by rw [hsz]; exact hcs, fun i hi => ⟨by rw [hrow i hi]; simp [hk], fun q hq => ?_⟩⟩
      rw [hrow i hi]
      have hlt : i * k + q < n * k := by
        have : (i + 1) * k ≤ n * k := Nat.mul_le_mul_right k hi
        rw [Nat.add_mul, Nat.one_mul] at this; omega
      have e1 : (i * k + q) / k = i := (blk_iff k i _ (by omega)).1 ⟨by omega, by omega⟩
      have e2 : (i * k + q) % k = q := by rw [Nat.mod_eq_sub_div_mul, e1]; omega
      have e3 : (putCells id 0 (flatK enc k d) C).getD (i * k + q) Go.undef = (enc d[i]!)[q]! := by
        have h1 : i * k + q < C.size := by omega
        have h2 := get_flatK enc k d (i * k + q) (by rw [hd]; exact hlt)
        rw [e1, e2, getElem!_pos _ _ (by simp [hd, hlt])] at h2
        rw [← h2]
        simp [putCells, Array.getD_eq_getD_getElem?, h1, hd, hlt]
      have e4 : ((enc d[i]!).map D.v).getD q default = D.v ((enc d[i]!)[q]!) := by
        have : q < (enc d[i]!).length := by rw [hk]; exact hq
        simp [List.getD_eq_getElem?_getD, this]
      rw [e3, e4]; exact .v _
    · simp at hy
  · rename_i hbc
    obtain ⟨o, ho, hB⟩ := hS.blk c y hy
    refine ⟨o, ho, hB.mono he hS.lt (.refl _ _) fun cb' hcb' => ?_⟩
    subst hcb'
    have hne : cb' ≠ cb := fun h => hbc (hS.inj _ _ _ hj (h ▸ ho))
    rw [hheap cb' (hS.lt c cb' ho), if_neg hne]

end
end Go.Abs
