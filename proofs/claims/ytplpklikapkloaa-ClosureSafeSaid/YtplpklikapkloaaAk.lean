/- Abstract values: append. -/
import Derived.Test.YtplpklikapkloaaAj
namespace Go.Abs
set_option linter.unusedVariables false
set_option linter.unusedSimpArgs false

section
variable {P : Program} {w : World}

theorem append_grow_run {t t' ty e : TypeId} {d' : TypeDesc} {i : TypeInfo} {zz : Value} (hu : P.underlying t = some (.slice e)) (hu' : P.underlying t' = some d') (hd' : d' = .string ∨ ∃ e', d' = .slice e') (hi : P.info? e = some i) (hz : i.zero = some zz)
    {p : Option Addr} {n c k : Nat} {v : Value} {olds news : List Value} (ho : (Builtin.firstCells i.size n (.slice p n c)).run P w.drew = .ok olds.toArray w.drew) (hl : (Builtin.lenOf v).run P w = .ok k w) (hf : (Builtin.firstCells i.size k v).run P w.drew = .ok news.toArray w.drew)
    (hg : c < n + k) (h63 : n + k ≤ 9223372036854775807) (hb : (n + k) * i.bytes ≤ 140737488355328) :
    (Builtin.append_ #[t, t'] ty #[.slice p n c, v]).run P w = .ok (.slice (some ⟨w.heap.size, 0, none⟩) (n + k) (grownCap w (n + k) c e))
      (w.drew.alloc (.cells (olds.toArray ++ news.toArray ++ Builtin.zeroCells zz.cells (grownCap w (n + k) c e - (n + k))) e)) := by
  have h1 : ¬ (n + k ≤ c) := by omega
  have h2 : ¬ (9223372036854775807 < (n : Int) + (k : Int)) := by omega
  have h3 : ¬ (281474976710656 < Builtin.nextslicecap (n + k) c * i.bytes) := by have := growslice_fits hg hb; omega
  rcases hd' with rfl | ⟨e', rfl⟩
  all_goals
    simp [Builtin.append_, run_underlying hu, run_underlying hu', Go.sizeOf, typeInfo, zeroValue, hi, hz, hl, h1, h2, h3, Question.forced, hf, ho, newRow, grownCap]
    congr 2
    apply Array.ext'
    simp [List.append_assoc]

theorem append_room_run {t t' ty e : TypeId} {d' : TypeDesc} {i : TypeInfo} (hu : P.underlying t = some (.slice e)) (hu' : P.underlying t' = some d') (hd' : d' = .string ∨ ∃ e', d' = .slice e') (hi : P.info? e = some i)
    {g n c k : Nat} {v : Value} {news : List Value} {C : Array Value} {ec : TypeId} (hC : w.heap[g]? = some (.cells C ec (0, 0))) (hl : (Builtin.lenOf v).run P w = .ok k w) (hf : (Builtin.firstCells i.size k v).run P w = .ok news.toArray w)
    (hlen : news.length = k * i.size) (hone : ∀ u ∈ news, u.oneCell' = true) (hg : n + k ≤ c) (hfit : (n + k) * i.size ≤ C.size) :
    (Builtin.append_ #[t, t'] ty #[.slice (some ⟨g, 0, none⟩) n c, v]).run P w = .ok (.slice (some ⟨g, 0, none⟩) (n + k) c) (w.setRow g (C.toList.take (n * i.size) ++ news ++ C.toList.drop (n * i.size + news.length)).toArray) := by
  rw [Nat.add_mul] at hfit
  have hst := run_storeCells_at (P := P) g (n * i.size) ec news 0 C w hC (by omega) hone
  simp only [Nat.add_zero] at hst
  have hadd : (⟨g, 0, none⟩ : Addr).add (n * i.size) = ⟨g, n * i.size, none⟩ := by rw [add_off _ rfl]; simp
  rcases hd' with rfl | ⟨e', rfl⟩
  all_goals simp [Builtin.append_, run_underlying hu, run_underlying hu', Go.sizeOf, typeInfo, hi, hl, hg, hf, hadd, hst]

theorem append_none_run {t t' ty e : TypeId} {d' : TypeDesc} {i : TypeInfo} (hu : P.underlying t = some (.slice e)) (hu' : P.underlying t' = some d') (hd' : d' = .string ∨ ∃ e', d' = .slice e') (hi : P.info? e = some i)
    {p : Option Addr} {n c : Nat} {v : Value} (hl : (Builtin.lenOf v).run P w = .ok 0 w) (hf : (Builtin.firstCells i.size 0 v).run P w = .ok #[] w) (hg : n ≤ c) :
    (Builtin.append_ #[t, t'] ty #[.slice p n c, v]).run P w = .ok (.slice p n c) w := by
  rcases hd' with rfl | ⟨e', rfl⟩
  all_goals cases p <;> simp [Builtin.append_, run_underlying hu, run_underlying hu', Go.sizeOf, typeInfo, hi, hl, hg, hf, storeCells]

end

/-- cells that speak of X are forgotten -/
def scrubV (X : List Nat) : Blk → Blk
  | .var cs => .var (cs.map fun c => if c.avoids X then c else .undef)
  | .lp L st pd => .lp { L with t := scrub' X L.t } st pd
  | x => x

theorem RB.scrub {j : Js} {w : World} (X : List Nat) {x : Blk} {o : Option Nat} (h : RB w j x o) : RB w j (scrubV X x) o := by
  cases x with
  | dead => exact h
  | arr sz n row => exact h
  | lp L st pd =>
    cases o with
    | none => exact h
    | some cb =>
      obtain ⟨r, h1, h2, h3, h4⟩ := h
      exact ⟨r, h1, h2, h3, fun k av hk => h4 k av (scrub'_mem hk).1⟩
  | var cs =>
    cases o with
    | none => exact h
    | some cb =>
      obtain ⟨C, e, h1, h2, h3⟩ := h
      refine ⟨C, e, h1, by simpa using h2, fun k hk => ?_⟩
      simp only [List.length_map] at hk
      have e1 : (cs.map fun c => if c.avoids X then c else AV.undef).getD k .undef = if (cs.getD k .undef).avoids X then cs.getD k .undef else .undef := by
        simp [List.getD_eq_getElem?_getD, hk]
      rw [e1]
      split
      · exact h3 k hk
      · exact .undef _

theorem RB.monoX {j j' : Js} {w w' : World} {X : List Nat} (he : Ev j w j' w') (hl : ∀ b cb : Nat, j[b]? = some (some cb) → cb < w.heap.size) (hag : Ag j j' X) {x : Blk} {o : Option Nat} (h : RB w j x o) (ho : ∀ cb, o = some cb → w'.heap[cb]? = w.heap[cb]?) : RB w' j' (scrubV X x) o := by
  cases x with
  | dead => trivial
  | var cs =>
    cases o with
    | none => exact h
    | some cb =>
      obtain ⟨C, e, h1, h2, h3⟩ := h
      refine ⟨C, e, by rw [ho cb rfl, h1], by simpa using h2, fun k hk => ?_⟩
      simp only [List.length_map] at hk
      have e1 : (cs.map fun c => if c.avoids X then c else AV.undef).getD k .undef = if (cs.getD k .undef).avoids X then cs.getD k .undef else .undef := by
        simp [List.getD_eq_getElem?_getD, hk]
      rw [e1]
      split
      · rename_i hav; exact (h3 k hk).mono he hl hag hav
      · exact .undef _
  | arr sz n row =>
    cases o with
    | none => exact h
    | some cb =>
      obtain ⟨C, e, h1, h2, h3⟩ := h
      exact ⟨C, e, by rw [ho cb rfl, h1], h2, fun i hi => ⟨(h3 i hi).1, fun k hk => ((h3 i hi).2 k hk).mono he⟩⟩
  | lp L st pd =>
    cases o with
    | none => exact h
    | some cb =>
      obtain ⟨r, h1, h2, h3, h4⟩ := h
      exact ⟨r, by rw [ho cb rfl, h1], h2, h3, fun k av hk => by
        have hk' := scrub'_mem hk
        exact ⟨(h4 k av hk'.1).1, (h4 k av hk'.1).2.mono he hl hag hk'.2⟩⟩

theorem ev_drew (j : Js) (w : World) : Ev j w j w.drew := ⟨Nat.le_refl _, fun _ _ _ => rfl, fun _ _ h => h, fun _ _ => rfl, fun _ _ => rfl, rfl, rfl, rfl, fun _ r h => ⟨r, h⟩⟩

/-- the rows of a slice and of another behind it -/
def catRows (n : Nat) (row rows : Nat → List D) : Nat → List D := fun i => if i < n then row i else rows (i - n)

theorem cat_getD {olds news : List Value} {z : Array Value} {q : Nat} : (olds.toArray ++ news.toArray ++ z).getD q Go.undef = if q < olds.length then olds.getD q Go.undef else if q < olds.length + news.length then news.getD (q - olds.length) Go.undef else z.getD (q - (olds.length + news.length)) Go.undef := by
  simp only [Array.getD_eq_getD_getElem?, List.getD_eq_getElem?_getD, Array.getElem?_append, List.getElem?_toArray, Array.size_append, List.size_toArray]
  by_cases h1 : q < olds.length
  · rw [if_pos (by omega), if_pos h1, if_pos h1]
  · by_cases h2 : q < olds.length + news.length
    · rw [if_pos h2, if_neg h1, if_neg h1, if_pos h2]
    · rw [if_neg h2, if_neg h1, if_neg h2]

/-- rows laid in a new block -/
theorem cat_rel {w : World} {j : Js} {n k sz : Nat} {row rows : Nat → List D} {olds news : List Value} {z : Array Value} (ho : olds.length = n * sz) (hn : news.length = k * sz) (hl1 : ∀ i, i < n → (row i).length = sz) (hl2 : ∀ i, i < k → (rows i).length = sz)
    (h1 : ∀ i, i < n → ∀ q, q < sz → RD w j ((row i).getD q default) (olds.getD (i * sz + q) Go.undef)) (h2 : ∀ i, i < k → ∀ q, q < sz → RD w j ((rows i).getD q default) (news.getD (i * sz + q) Go.undef)) :
    ∀ i, i < n + k → (catRows n row rows i).length = sz ∧ ∀ q, q < sz → RD w j ((catRows n row rows i).getD q default) ((olds.toArray ++ news.toArray ++ z).getD (i * sz + q) Go.undef) := by
  intro i hi
  unfold catRows
  by_cases hin : i < n
  · simp only [hin, if_true]
    refine ⟨hl1 i hin, fun q hq => ?_⟩
    have : (i + 1) * sz ≤ n * sz := Nat.mul_le_mul_right _ hin
    rw [Nat.succ_mul] at this
    rw [cat_getD, if_pos (by omega)]; exact h1 i hin q hq
  · simp only [hin, if_false]
    refine ⟨hl2 (i - n) (by omega), fun q hq => ?_⟩
    have h3 : n * sz ≤ i * sz := Nat.mul_le_mul_right _ (by omega)
    have h4 : (i + 1) * sz ≤ (n + k) * sz := Nat.mul_le_mul_right _ hi
    rw [Nat.succ_mul, Nat.add_mul] at h4
    rw [cat_getD, if_neg (by omega), if_pos (by omega), ho]
    have h5 : i * sz + q - n * sz = (i - n) * sz + q := by rw [Nat.sub_mul]; omega
    rw [h5]; exact h2 (i - n) (by omega) q hq

def appendA (P : Program) (σ : List Blk) (t t' : TypeId) (x y : AV) (K : AV → List Blk → List Nat → Prop) : Prop :=
  match slB P t with
  | some (e, sz, bytes, z) => (Nat.beq (lenT P t') 1 || Nat.beq (lenT P t') 2) = true ∧ srcA σ sz y fun k rows =>
    match x with
    | .d (.v (.slice none 0 0)) => k ≤ 9223372036854775807 ∧ k * bytes ≤ 140737488355328 ∧ K (.ms σ.length sz 0 k) (σ ++ [.arr sz k rows]) []
    | .d (.sl (some c) sz' n row) => Nat.beq sz sz' = true ∧ c = n ∧ (n = 0 ∨ 0 < k) ∧ n + k ≤ 9223372036854775807 ∧ (n + k) * bytes ≤ 140737488355328 ∧ K (.ms σ.length sz 0 (n + k)) (σ ++ [.arr sz (n + k) (catRows n row rows)]) []
    | .ms b sz' lo n => (match σ[b]? with
      | some (.arr sz'' n' row) => (Nat.beq sz sz' && Nat.beq sz sz'') = true ∧ lo = 0 ∧ n' = n ∧ n + k ≤ 9223372036854775807 ∧ (n + k) * bytes ≤ 140737488355328 ∧ K (.ms b sz 0 (n + k)) ((σ.map (scrubV [b])).set b (.arr sz (n + k) (catRows n row rows))) [b]
      | _ => False)
    | _ => False
  | none => False

theorem lenT_d {P : Program} {t : TypeId} (h : (Nat.beq (lenT P t) 1 || Nat.beq (lenT P t) 2) = true) : ∃ d, P.underlying t = some d ∧ (d = .string ∨ ∃ e', d = .slice e') := by
  simp only [Bool.or_eq_true] at h
  rcases h with h | h
  · obtain ⟨e, he⟩ := lenT_1 h; exact ⟨_, he, .inr ⟨_, rfl⟩⟩
  · exact ⟨_, lenT_2 h, .inl rfl⟩

theorem shape_of {w : World} {b : Nat} {C : Array Value} {e : TypeId} {f : Nat × Nat} (h : w.heap[b]? = some (.cells C e f)) : w.shape? b = some (e, C.size) := by simp [World.shape?, h]

/-- a new block for a new slice -/
theorem RelS.grown {w : World} {j : Js} {σ : List Blk} (h : RelS w j σ) {sz n k cap : Nat} {row rows : Nat → List D} {olds news : List Value} {z : Array Value} {e : TypeId} (ho : olds.length = n * sz) (hn : news.length = k * sz) (hl1 : ∀ i, i < n → (row i).length = sz) (hl2 : ∀ i, i < k → (rows i).length = sz)
    (h1 : ∀ i, i < n → ∀ q, q < sz → RD w j ((row i).getD q default) (olds.getD (i * sz + q) Go.undef)) (h2 : ∀ i, i < k → ∀ q, q < sz → RD w j ((rows i).getD q default) (news.getD (i * sz + q) Go.undef)) (hz : z.size = (cap - (n + k)) * sz) (hcap : n + k ≤ cap) :
    let w' := w.drew.alloc (.cells (olds.toArray ++ news.toArray ++ z) e)
    let j' := j ++ [some w.heap.size]
    RelS w' j' (σ ++ [.arr sz (n + k) (catRows n row rows)]) ∧ R w' j' (.ms σ.length sz 0 (n + k)) (.slice (some ⟨w.heap.size, 0, none⟩) (n + k) cap) ∧ Ev j w j' w' := by
  intro w' j'
  have hd : RelS w.drew j σ := ⟨h.len, h.lt, h.inj, fun b x hx => let ⟨o, h1, h2⟩ := h.blk b x hx; ⟨o, h1, h2.mono (ev_drew j w) h.lt (.refl _ _) fun _ _ => rfl⟩⟩
  have he : Ev j w.drew j' w' := ev_alloc _ _ _ _ _ (fun b hb hm => by
    simp only [j', List.mem_append, List.mem_singleton, Option.some.injEq] at hm
    rcases hm with hm | hm
    · exact hm
    · subst hm; exact absurd hb (by simp))
  have hcs : (olds.toArray ++ news.toArray ++ z).size = cap * sz := by
    simp only [Array.size_append, List.size_toArray, ho, hn, hz, ← Nat.add_mul]
    congr 1; omega
  have hrow := cat_rel (w := w) (j := j) (z := z) ho hn hl1 hl2 h1 h2
  have hle : (n + k) * sz ≤ cap * sz := Nat.mul_le_mul_right _ hcap
  obtain ⟨g1, g2⟩ := hd.alloc (olds.toArray ++ news.toArray ++ z) e (.arr sz (n + k) (catRows n row rows)) ⟨_, e, heap_alloc_new _ _, by rw [hcs]; exact hle, fun i hi => ⟨(hrow i hi).1, fun q hq => (((hrow i hi).2 q hq).mono (ev_drew j w)).mono he⟩⟩
  refine ⟨g1, ?_, (ev_drew j w).trans g2⟩
  have hms : R w' j' (.ms σ.length sz 0 (n + k)) (.slice (some ⟨w.heap.size, 0 * sz, none⟩) (n + k) cap) := by
    refine .ms cap e (cap * sz) ?_ ?_ hcap (by simp)
    · simp only [j']; rw [List.getElem?_append_right (by rw [h.len]; omega)]; simp [h.len]
    · rw [← hcs]; exact shape_of (heap_alloc_new _ _)
  rwa [Nat.zero_mul] at hms

/-- a slice that may grow into no block -/
theorem RelS.unmade {w : World} {j : Js} {σ : List Blk} (h : RelS w j σ) {sz : Nat} {rows : Nat → List D} {p : Option Addr} :
    let j' := j ++ [none]
    RelS w j' (σ ++ [.arr sz 0 rows]) ∧ R w j' (.ms σ.length sz 0 0) (.slice p 0 0) ∧ Ev j w j' w := by
  intro j'
  have he : Ev j w j' w := ⟨Nat.le_refl _, fun _ _ _ => rfl, fun b _ hm => by simpa [j'] using hm, fun _ _ => rfl, fun _ _ => rfl, rfl, rfl, rfl, fun _ r h => ⟨r, h⟩⟩
  refine ⟨⟨by simp [j', h.len], fun b cb hb => ?_, fun b b' cb hb hb' => ?_, fun b y hy => ?_⟩, .ms0 p ?_, he⟩
  · simp only [j'] at hb
    rw [List.getElem?_append] at hb
    split at hb
    · exact h.lt b cb hb
    · rw [List.getElem?_singleton] at hb; split at hb <;> simp at hb
  · have key : ∀ q : Nat, j'[q]? = some (some cb) → j[q]? = some (some cb) := by
      intro q hq
      simp only [j'] at hq
      rw [List.getElem?_append] at hq
      split at hq
      · exact hq
      · rw [List.getElem?_singleton] at hq; split at hq <;> simp at hq
    exact h.inj b b' cb (key b hb) (key b' hb')
  · rw [List.getElem?_append] at hy
    split at hy
    · obtain ⟨o, ho, hB⟩ := h.blk b y hy
      have hbl : b < j.length := by rw [h.len]; assumption
      exact ⟨o, by simp only [j']; rw [List.getElem?_append_left hbl]; exact ho, hB.mono he h.lt (ag_append _ _) fun cb hcb => rfl⟩
    · rw [List.getElem?_singleton] at hy
      split at hy <;> simp at hy
      subst hy
      refine ⟨none, ?_, rfl⟩
      simp only [j']
      rw [List.getElem?_append_right (by rw [h.len]; omega), List.getElem?_singleton, if_pos (by rw [h.len]; omega)]
  · simp only [j']; rw [List.getElem?_append_right (by rw [h.len]; omega)]; simp [h.len]

end Go.Abs
