/- Abstract values: what becomes of the store: new blocks, stores. -/
import Derived.Test.YtplpklikapkloaaAg
namespace Go.Abs
set_option linter.unusedVariables false
set_option linter.unusedSimpArgs false

theorem avoids_nil (av : AV) : av.avoids [] = true := by
  induction av using AV.rec (motive_2 := fun l => avoidsL [] l = true) <;> simp_all [AV.avoids, avoidsL]

theorem R.mono0 {j j' : Js} {w w' : World} (he : Ev j w j' w') (hl : ∀ b cb : Nat, j[b]? = some (some cb) → cb < w.heap.size) (hag : Ag j j' []) {av : AV} {v : Value} (h : R w j av v) : R w' j' av v :=
  h.mono he hl hag (avoids_nil av)

theorem RB.mono {j j' : Js} {w w' : World} (he : Ev j w j' w') (hl : ∀ b cb : Nat, j[b]? = some (some cb) → cb < w.heap.size) (hag : Ag j j' []) {x : Blk} {o : Option Nat} (h : RB w j x o) (ho : ∀ cb, o = some cb → w'.heap[cb]? = w.heap[cb]?) : RB w' j' x o := by
  cases x with
  | dead => trivial
  | var cs =>
    cases o with
    | none => exact h
    | some cb =>
      obtain ⟨C, e, h1, h2, h3⟩ := h
      exact ⟨C, e, by rw [ho cb rfl, h1], h2, fun k hk => (h3 k hk).mono0 he hl hag⟩
  | arr sz n row =>
    cases o with
    | none => exact h
    | some cb =>
      obtain ⟨C, e, h1, h2, h3⟩ := h
      exact ⟨C, e, by rw [ho cb rfl, h1], h2, fun i hi => ⟨(h3 i hi).1, fun k hk => ((h3 i hi).2 k hk).mono he⟩⟩
  | lp L st pd =>
    cases o with
    | none => exact h
    | some cb =>
      obtain ⟨r, h1, h2, h3, h4⟩ := h
      exact ⟨r, by rw [ho cb rfl, h1], h2, h3, fun k av hk => ⟨(h4 k av hk).1, (h4 k av hk).2.mono0 he hl hag⟩⟩

theorem heap_push_old (w : World) (o : Obj) {i : Nat} (h : i < w.heap.size) : (w.alloc o).heap[i]? = w.heap[i]? := by
  show (w.heap.push o)[i]? = _
  rw [Array.getElem?_push, if_neg (by omega)]

theorem ev_alloc (j j' : Js) (w : World) (C : Array Value) (t : TypeId) (hj : ∀ b, b < w.heap.size → some b ∈ j' → some b ∈ j) : Ev j w j' (w.alloc (.cells C t)) where
  size := by simp
  keep b hb _ := heap_push_old w _ hb
  sub := hj
  shp b hb := by simp [World.shape?, heap_push_old w _ hb]
  frz a _ := by
    by_cases h : a.block = w.heap.size
    · have h1 : (w.alloc (.cells C t)).heap[a.block]? = some (.cells C t) := by rw [h]; exact heap_alloc_new w _
      have h2 : w.heap[a.block]? = none := by rw [h]; simp
      simp [World.frozen?, h1, h2]
    · have h1 : (w.alloc (.cells C t)).heap[a.block]? = w.heap[a.block]? := by
        show (w.heap.push _)[a.block]? = _
        rw [Array.getElem?_push, if_neg h]
      simp [World.frozen?, h1]
  os := rfl
  tape := rfl
  output := rfl
  lps b r hb := ⟨r, by rw [heap_push_old w _ (Array.getElem?_eq_some_iff.1 hb).1]; exact hb⟩

theorem ag_append (j : Js) (o : Option Nat) : Ag j (j ++ [o]) [] := by
  intro b hb _
  rw [List.getElem?_append_left hb]

theorem RelS.alloc {w : World} {j : Js} {σ : List Blk} (h : RelS w j σ) (C : Array Value) (t : TypeId) (x : Blk)
    (hx : RB (w.alloc (.cells C t)) (j ++ [some w.heap.size]) x (some w.heap.size)) :
    RelS (w.alloc (.cells C t)) (j ++ [some w.heap.size]) (σ ++ [x]) ∧ Ev j w (j ++ [some w.heap.size]) (w.alloc (.cells C t)) := by
  have he : Ev j w (j ++ [some w.heap.size]) (w.alloc (.cells C t)) := ev_alloc _ _ _ _ _ (fun b hb hm => by
    simp at hm
    rcases hm with hm | hm
    · exact hm
    · omega)
  refine ⟨⟨by simp [h.len], fun b cb hb => ?_, fun b b' cb hb hb' => ?_, fun b y hy => ?_⟩, he⟩
  · rw [List.getElem?_append] at hb
    split at hb
    · have := h.lt b cb hb; simp; omega
    · rw [List.getElem?_singleton] at hb
      split at hb <;> simp at hb
      simp; omega
  · have key : ∀ q : Nat, (j ++ [some w.heap.size])[q]? = some (some cb) → (j[q]? = some (some cb) ∧ cb < w.heap.size) ∨ (q = j.length ∧ cb = w.heap.size) := by
      intro q hq
      rw [List.getElem?_append] at hq
      split at hq
      · exact .inl ⟨hq, h.lt q cb hq⟩
      · rw [List.getElem?_singleton] at hq
        split at hq <;> simp at hq
        exact .inr ⟨by omega, hq.symm⟩
    rcases key b hb with h1 | h1 <;> rcases key b' hb' with h2 | h2
    · exact h.inj b b' cb h1.1 h2.1
    · omega
    · omega
    · omega
  · rw [List.getElem?_append] at hy
    split at hy
    · obtain ⟨o, ho, hB⟩ := h.blk b y hy
      have hbl : b < j.length := by rw [h.len]; assumption
      refine ⟨o, by rw [List.getElem?_append_left hbl]; exact ho, hB.mono he h.lt (ag_append _ _) fun cb hcb => ?_⟩
      subst hcb
      exact heap_push_old w _ (h.lt b cb ho)
    · rw [List.getElem?_singleton] at hy
      split at hy <;> simp at hy
      subst hy
      refine ⟨some w.heap.size, ?_, hx⟩
      rw [List.getElem?_append_right (by rw [h.len]; omega), List.getElem?_singleton, if_pos (by rw [h.len]; omega)]

/-- a new variable -/
def St.newVar (s : St) (cs : List AV) : St := { s with σ := s.σ ++ [.var cs] }

theorem Rel.newVar {j0 : J0} {j : Js} {s : St} {a : Act} {w : World} (h : Rel j0 s j a w) (C : Array Value) (t : TypeId) {cs : List AV} (hs : C.size = cs.length) (hc : ∀ k, k < cs.length → R w j (cs.getD k .undef) (C.getD k Go.undef)) :
    Rel j0 (s.newVar cs) (j ++ [some w.heap.size]) a (w.alloc (.cells C t)) ∧ Ev j w (j ++ [some w.heap.size]) (w.alloc (.cells C t)) ∧ R (w.alloc (.cells C t)) (j ++ [some w.heap.size]) (.ptr s.σ.length 0) (.pointer (some ⟨w.heap.size, 0, none⟩)) := by
  have he : Ev j w (j ++ [some w.heap.size]) (w.alloc (.cells C t)) := ev_alloc _ _ _ _ _ (fun b hb hm => by
    simp at hm
    rcases hm with hm | hm
    · exact hm
    · omega)
  obtain ⟨h1, h2⟩ := h.sto.alloc C t (.var cs) ⟨C, t, heap_alloc_new w _, hs, fun k hk => (hc k hk).mono0 he h.sto.lt (ag_append _ _)⟩
  refine ⟨?_, h2, .ptr ?_⟩
  · have := h.after h2 h1 (by simp) (ag_append _ _)
    exact this
  · rw [List.getElem?_append_right (by rw [h.sto.len]; omega)]
    simp [h.sto.len]

/-! stores -/
def asDs : List AV → Option (List D)
  | [] => some []
  | .d x :: xs => (asDs xs).map (x :: ·)
  | _ => none

theorem asDs_spec : ∀ {vs : List AV} {ds : List D}, asDs vs = some ds → vs = ds.map .d
  | [], ds, h => by simp [asDs] at h; subst h; rfl
  | .d x :: xs, ds, h => by
    simp only [asDs, Option.map_eq_some_iff] at h
    obtain ⟨ys, h1, h2⟩ := h
    subst h2
    rw [asDs_spec h1]; rfl
  | .undef :: _, _, h | .iff _ _ :: _, _, h | .agg _ :: _, _, h | .tup _ :: _, _, h | .ptr _ _ :: _, _, h | .pe _ _ _ _ :: _, _, h | .el _ :: _, _, h | .ms _ _ _ _ :: _, _, h | .mp _ :: _, _, h | .clo _ _ _ :: _, _, h | .yld _ :: _, _, h => by simp [asDs] at h

def storeBlk (σ : List Blk) (p : AV) (vs : List AV) : Option (Prop × List Blk) :=
  match p with
  | .ptr b off => match σ[b]? with
    | some (.var cs) => if Nat.ble (off + vs.length) cs.length then some (True, σ.set b (.var (setRange cs off vs))) else none
    | _ => none
  | .pe b sz i k => match σ[b]? with
    | some (.arr sz' n row) => if Nat.beq sz sz' && Nat.ble (k + vs.length) sz then (match asDs vs with
      | some ds => some (i < n, σ.set b (.arr sz n fun q => if q = i then setRange (row i) k ds else row q))
      | none => none) else none
    | _ => none
  | _ => none

theorem shape_setRow {w : World} {g : Nat} {C C' : Array Value} {e : TypeId} {f : Nat × Nat} (hg : w.heap[g]? = some (.cells C e f)) (hs : C'.size = C.size) (b : Nat) : (w.setRow g C').shape? b = w.shape? b := by
  by_cases h : b = g
  · subst h
    simp [World.shape?, setRow_heap w b C C' e f hg, hg, hs]
  · simp [World.shape?, setRow_other w g b C' h]

theorem frozen_setRow {w : World} {g : Nat} {C C' : Array Value} {e : TypeId} {f : Nat × Nat} (hg : w.heap[g]? = some (.cells C e f)) (a : Addr) : (w.setRow g C').frozen? a = w.frozen? a := by
  by_cases h : a.block = g
  · subst h
    simp [World.frozen?, setRow_heap w _ C C' e f hg, hg]
  · simp [World.frozen?, setRow_other w g a.block C' h]

theorem ev_setRow {j : Js} {w : World} {g : Nat} {C C' : Array Value} {e : TypeId} {f : Nat × Nat} (hg : w.heap[g]? = some (.cells C e f)) (hs : C'.size = C.size) (hj : some g ∈ j) : Ev j w j (w.setRow g C') where
  size := by simp
  keep b _ hn := setRow_other w g b C' (fun he => hn (he ▸ hj))
  sub _ _ h := h
  shp b _ := shape_setRow hg hs b
  frz a _ := frozen_setRow hg a
  os := rfl
  tape := rfl
  output := rfl
  lps b r hb := ⟨r, by rw [setRow_other w g b C' (fun he => by subst he; rw [hg] at hb; cases hb)]; exact hb⟩

theorem RelS.setRow {w : World} {j : Js} {σ : List Blk} (h : RelS w j σ) {b g : Nat} (hb : j[b]? = some (some g)) {C C' : Array Value} {e : TypeId} (hg : w.heap[g]? = some (.cells C e (0, 0))) (hs : C'.size = C.size) {x : Blk}
    (hx : RB (w.setRow g C') j x (some g)) : RelS (w.setRow g C') j (σ.set b x) ∧ Ev j w j (w.setRow g C') := by
  have he : Ev j w j (w.setRow g C') := ev_setRow hg hs (List.mem_of_getElem? hb)
  refine ⟨⟨by simp [h.len], fun b cb hb => by have := h.lt b cb hb; simpa using this, h.inj, fun b' y hy => ?_⟩, he⟩
  rw [List.getElem?_set] at hy
  split at hy
  · rename_i hbb
    split at hy <;> simp at hy
    subst hbb hy
    exact ⟨_, hb, hx⟩
  · rename_i hbb
    obtain ⟨o, ho, hB⟩ := h.blk b' y hy
    refine ⟨o, ho, hB.mono he h.lt (.refl _ _) fun cb hcb => ?_⟩
    subst hcb
    exact setRow_other w g cb C' (fun hc => hbb (h.inj b b' g hb (hc ▸ ho)))

theorem setRow_getD {C : Array Value} {vs : List Value} {off k : Nat} (h : off + vs.length ≤ C.size) : ((C.toList.take off ++ vs ++ C.toList.drop (off + vs.length)).toArray).getD k Go.undef = if off ≤ k ∧ k < off + vs.length then vs.getD (k - off) Go.undef else C.getD k Go.undef := by
  have := setRange_getD (cs := C.toList) (vs := vs) (off := off) (k := k) (d := Go.undef) (by simpa using h)
  simp only [setRange] at this
  rw [← List.append_assoc] at this
  rw [Array.getD_eq_getD_getElem?, List.getElem?_toArray, ← List.getD_eq_getElem?_getD, this]
  simp [List.getD_eq_getElem?_getD, Array.getD_eq_getD_getElem?]

theorem store_sound {P : Program} {w : World} {j : Js} {σ : List Blk} (hS : RelS w j σ) {t : TypeId} {agg : Bool} {m : Nat} (ht : tyA P t = some (agg, m)) {p v : AV} {pv vv : Value} (hp : R w j p pv) (hv : R w j v vv) (hone : allOne (cellsOf v) = true) (hlen : (cellsOf v).length = m)
    {side : Prop} {σ' : List Blk} (hst : storeBlk σ p (cellsOf v) = some (side, σ')) (hside : side) :
    ∃ w', (Instr.storeAt t pv vv).run P w = .ok () w' ∧ RelS w' j σ' ∧ Ev j w j w' := by
  obtain ⟨hcs, hcr⟩ := cellsOf_rel hv hone
  have hone' : ∀ u ∈ vv.cells.toList, u.oneCell' = true := by
    intro u hu
    obtain ⟨k, hk, rfl⟩ := List.getElem_of_mem hu
    simp only [Array.length_toList] at hk
    have := (hcr k (by omega)).2
    simpa [Array.getD_eq_getD_getElem?, hk] using this
  have hrun : ∀ (g o : Nat) (C : Array Value) (e : TypeId), w.heap[g]? = some (.cells C e (0, 0)) → o + m ≤ C.size → pv = .pointer (some ⟨g, o, none⟩) →
      (Instr.storeAt t pv vv).run P w = .ok () (w.setRow g (C.toList.take o ++ vv.cells.toList ++ C.toList.drop (o + vv.cells.toList.length)).toArray) := by
    intro g o C e hg ho hpv
    have h1 := run_storeCells_at (P := P) g o e vv.cells.toList 0 C w hg (by simp; omega) hone'
    simp only [Nat.add_zero] at h1
    rw [hpv]
    have h2 : ¬ (vv.cells.size ≠ m) := by omega
    unfold Instr.storeAt
    simp only [Instr.sureAddr, Sem.run_bind, Sem.run_pure, Result.andThen_ok]
    unfold storeVar
    simp only [Sem.run_bind, tyA_sizeOf ht, Result.andThen_ok, h2, if_false, h1, Sem.run_pure]
  have hsz : ∀ (o : Nat) (C : Array Value), o + m ≤ C.size → (C.toList.take o ++ vv.cells.toList ++ C.toList.drop (o + vv.cells.toList.length)).toArray.size = C.size := by
    intro o C ho
    simp; omega
  have hval : ∀ (o : Nat) (C : Array Value) (k : Nat), o + m ≤ C.size → ((C.toList.take o ++ vv.cells.toList ++ C.toList.drop (o + vv.cells.toList.length)).toArray).getD k Go.undef = if o ≤ k ∧ k < o + m then vv.cells.getD (k - o) Go.undef else C.getD k Go.undef := by
    intro o C k ho
    rw [setRow_getD (by simp; omega)]
    simp only [Array.length_toList, hcs, hlen]
    split
    · simp [Array.getD_eq_getD_getElem?, List.getD_eq_getElem?_getD]
    · rfl
  unfold storeBlk at hst
  split at hst
  · rename_i b off
    split at hst
    · rename_i cs hb
      split at hst
      · rename_i hle
        simp only [Option.some.injEq, Prod.mk.injEq] at hst
        obtain ⟨rfl, rfl⟩ := hst
        simp only [Nat.ble_eq] at hle
        cases hp with
        | @ptr _ _ g hj =>
        obtain ⟨o, ho, hB⟩ := hS.blk b _ hb
        rw [hj] at ho
        cases ho
        obtain ⟨C, e, hC, hCs, hCr⟩ := hB
        refine ⟨_, hrun g off C e hC (by omega) rfl, ?_⟩
        have he := ev_setRow (j := j) hC (hsz off C (by omega)) (List.mem_of_getElem? hj)
        refine hS.setRow hj hC (hsz off C (by omega)) ⟨_, e, setRow_heap w g C _ e (0, 0) hC, ?_, fun k hk => ?_⟩
        · rw [hsz off C (by omega), setRange_length (by omega), hCs]
        · rw [setRange_length (by omega)] at hk
          rw [hval off C k (by omega), setRange_getD (by omega), hlen]
          split
          · exact ((hcr _ (by omega)).1).mono0 he hS.lt (.refl _ _)
          · exact (hCr k hk).mono0 he hS.lt (.refl _ _)
      · simp at hst
    · simp at hst
  · rename_i b sz i k
    split at hst
    · rename_i sz' n row hb
      split at hst
      · rename_i hle
        split at hst
        case h_2 => simp at hst
        rename_i ds hds
        have hds := asDs_spec hds
        have hdl : ds.length = m := by rw [← hlen, hds]; simp
        have hcr' : ∀ k, k < m → RD w j (ds.getD k default) (vv.cells.getD k Go.undef) := by
          intro k hk
          have := (hcr k (by omega)).1
          rw [hds] at this
          have e1 : (ds.map AV.d).getD k AV.undef = AV.d (ds.getD k default) := by
            simp [List.getD_eq_getElem?_getD, show k < ds.length by omega]
          rw [e1] at this
          cases this with | d h => exact h
        simp only [Option.some.injEq, Prod.mk.injEq] at hst
        obtain ⟨rfl, rfl⟩ := hst
        simp only [Bool.and_eq_true, Nat.ble_eq] at hle
        have hsz' := Nat.eq_of_beq_eq_true hle.1
        subst hsz'
        cases hp with
        | @pe _ _ _ _ g hj =>
        obtain ⟨o, ho, hB⟩ := hS.blk b _ hb
        rw [hj] at ho
        cases ho
        obtain ⟨C, e, hC, hCs, hCr⟩ := hB
        have hbound : i * sz + sz ≤ n * sz := by
          have : (i + 1) * sz ≤ n * sz := Nat.mul_le_mul_right _ hside
          rwa [Nat.succ_mul] at this
        have hfit : i * sz + k + m ≤ C.size := by omega
        refine ⟨_, hrun g (i * sz + k) C e hC hfit rfl, ?_⟩
        have he := ev_setRow (j := j) hC (hsz (i * sz + k) C hfit) (List.mem_of_getElem? hj)
        refine hS.setRow hj hC (hsz _ C hfit) ⟨_, e, setRow_heap w g C _ e (0, 0) hC, ?_, fun q hq => ?_⟩
        · rw [hsz _ C hfit]; exact hCs
        · have hrow := hCr q hq
          by_cases hqi : q = i
          · subst hqi
            simp only [if_true]
            refine ⟨by rw [setRange_length (by omega)]; exact hrow.1, fun c hc => ?_⟩
            rw [hval _ C _ hfit, setRange_getD (by omega), hdl]
            by_cases hin : k ≤ c ∧ c < k + m
            · rw [if_pos hin, if_pos (by omega), show q * sz + c - (q * sz + k) = c - k by omega]
              exact (hcr' _ (by omega)).mono he
            · rw [if_neg hin, if_neg (by omega)]
              exact (hrow.2 c hc).mono he
          · simp only [hqi, if_false]
            refine ⟨hrow.1, fun c hc => ?_⟩
            have hout : ¬ (i * sz + k ≤ q * sz + c ∧ q * sz + c < i * sz + k + m) := by
              rcases Nat.lt_or_gt_of_ne hqi with hlt | hlt
              · have : (q + 1) * sz ≤ i * sz := Nat.mul_le_mul_right _ hlt
                rw [Nat.succ_mul] at this
                omega
              · have : (i + 1) * sz ≤ q * sz := Nat.mul_le_mul_right _ hlt
                rw [Nat.succ_mul] at this
                omega
            rw [hval _ C _ hfit, if_neg hout]
            exact (hrow.2 c hc).mono he
      · simp at hst
    · simp at hst
  · simp at hst

end Go.Abs
