/- Abstract values: append, whole; make; slice literals. -/
import Derived.Test.YtplpklikapkloaaAk
namespace Go.Abs
set_option linter.unusedVariables false
set_option linter.unusedSimpArgs false

theorem RelS.drew {w : World} {j : Js} {σ : List Blk} (h : RelS w j σ) : RelS w.drew j σ :=
  ⟨h.len, h.lt, h.inj, fun b x hx => let ⟨o, h1, h2⟩ := h.blk b x hx; ⟨o, h1, h2.mono (ev_drew j w) h.lt (.refl _ _) fun _ _ => rfl⟩⟩

theorem RelS.scrub {w : World} {j : Js} {σ : List Blk} (h : RelS w j σ) (X : List Nat) : RelS w j (σ.map (scrubV X)) :=
  ⟨by simp [h.len], h.lt, h.inj, fun b x hx => by
    simp only [List.getElem?_map, Option.map_eq_some_iff] at hx
    obtain ⟨y, hy, rfl⟩ := hx
    obtain ⟨o, h1, h2⟩ := h.blk b y hy
    exact ⟨o, h1, h2.scrub X⟩⟩

/-- a block that moves -/
theorem RelS.moved {w : World} {j : Js} {σ : List Blk} (h : RelS w j σ) {b : Nat} (hb : b < j.length) {C : Array Value} {e : TypeId} {x : Blk}
    (hx : RB (w.alloc (.cells C e)) (j.set b (some w.heap.size)) x (some w.heap.size)) :
    RelS (w.alloc (.cells C e)) (j.set b (some w.heap.size)) ((σ.map (scrubV [b])).set b x) ∧ Ev j w (j.set b (some w.heap.size)) (w.alloc (.cells C e)) ∧ Ag j (j.set b (some w.heap.size)) [b] := by
  have he : Ev j w (j.set b (some w.heap.size)) (w.alloc (.cells C e)) := ev_alloc _ _ _ _ _ (fun q hq hm => by
    rcases List.mem_or_eq_of_mem_set hm with hm | hm
    · exact hm
    · simp at hm; omega)
  have hag : Ag j (j.set b (some w.heap.size)) [b] := by
    intro q hq hn
    simp at hn
    rw [List.getElem?_set_ne (by omega)]
  have key : ∀ q cb : Nat, (j.set b (some w.heap.size))[q]? = some (some cb) → (q ≠ b ∧ j[q]? = some (some cb) ∧ cb < w.heap.size) ∨ (q = b ∧ cb = w.heap.size) := by
    intro q cb hq
    rw [List.getElem?_set] at hq
    split at hq
    · rename_i hbq
      simp [hb] at hq
      exact .inr ⟨hbq.symm, hq.symm⟩
    · rename_i hbq
      exact .inl ⟨fun h => hbq h.symm, hq, h.lt q cb hq⟩
  refine ⟨⟨by simp [h.len], fun q cb hq => ?_, fun q q' cb hq hq' => ?_, fun q y hy => ?_⟩, he, hag⟩
  · rcases key q cb hq with h1 | h1 <;> simp <;> omega
  · rcases key q cb hq with h1 | h1 <;> rcases key q' cb hq' with h2 | h2
    · exact h.inj q q' cb h1.2.1 h2.2.1
    · omega
    · omega
    · omega
  · rw [List.getElem?_set] at hy
    split at hy
    · rename_i hbq
      split at hy <;> simp at hy
      subst hbq hy
      exact ⟨some w.heap.size, by rw [List.getElem?_set]; simp [hb], hx⟩
    · rename_i hbq
      simp only [List.getElem?_map, Option.map_eq_some_iff] at hy
      obtain ⟨y', hy', rfl⟩ := hy
      obtain ⟨o, ho, hB⟩ := h.blk q y' hy'
      refine ⟨o, by rw [List.getElem?_set_ne hbq]; exact ho, hB.monoX he h.lt hag fun cb hcb => ?_⟩
      subst hcb
      exact heap_push_old w _ (h.lt q cb ho)

theorem append_sound {P : Program} {w : World} {j : Js} {σ : List Blk} (hS : RelS w j σ) {t t' ty : TypeId} {x y : AV} {vx vy : Value} {K : AV → List Blk → List Nat → Prop} (h : appendA P σ t t' x y K) (hx : R w j x vx) (hy : R w j y vy) :
    ∃ v w' j' r σ' X, (Builtin.append_ #[t, t'] ty #[vx, vy]).run P w = .ok v w' ∧ RelS w' j' σ' ∧ R w' j' r v ∧ Ev j w j' w' ∧ j.length ≤ j'.length ∧ Ag j j' X ∧ K r σ' X := by
  unfold appendA at h
  split at h
  · rename_i e sz bytes z hsl
    obtain ⟨hu, i, zz, hi, hz, hsz, hby, hzz, hzs⟩ := slB_spec hsl
    obtain ⟨ht', h⟩ := h
    obtain ⟨d', hu', hd'⟩ := lenT_d ht'
    obtain ⟨k, rows, news, h, src⟩ := src_sound (P := P) hS h hy
    subst hsz hby
    have hf0 := src.first w (fun _ _ => rfl)
    have hf1 := src.first w.drew (fun _ _ => rfl)
    have hzc : ∀ m, (Builtin.zeroCells zz.cells m).size = m * i.size := by intro m; rw [size_zeroCells, hzs]
    split at h
    · -- nil
      obtain ⟨h63, hroom, hK⟩ := h
      have hvx := R_v hx
      subst hvx
      rcases Nat.eq_zero_or_pos k with hk | hk
      · subst hk
        have hn : news = [] := by have := src.size; simpa using this
        subst hn
        obtain ⟨g1, g2, g3⟩ := hS.unmade (sz := i.size) (rows := rows) (p := none)
        exact ⟨_, _, _, _, _, _, append_none_run hu hu' hd' hi src.len hf0 (Nat.le_refl 0), g1, g2, g3, by simp, ag_append _ _, hK⟩
      · have hrun := append_grow_run (P := P) (w := w) (ty := ty) hu hu' hd' hi hz (p := none) (n := 0) (c := 0) (olds := []) (by simp [Builtin.firstCells]) src.len hf1 (by omega) (by omega) (by simpa using hroom)
        have hcap := grownCap_ge w (0 + k) 0 e
        obtain ⟨g1, g2, g3⟩ := hS.grown (sz := i.size) (n := 0) (k := k) (cap := grownCap w (0 + k) 0 e) (row := rows) (rows := rows) (olds := []) (news := news) (z := Builtin.zeroCells zz.cells (grownCap w (0 + k) 0 e - (0 + k))) (e := e) (by simp) src.size (by simp) src.rlen (by simp) src.rel (hzc _) hcap
        have ecat : catRows 0 rows rows = rows := by funext q; simp [catRows]
        rw [ecat] at g1
        simp only [Nat.zero_add] at hrun g1 g2 g3
        exact ⟨_, _, _, _, _, _, hrun, g1, g2, g3, by simp, ag_append _ _, hK⟩
    · rename_i c sz' n0 row _
      obtain ⟨hb, hcn, hnk, h63, hroom, hK⟩ := h
      have := Nat.eq_of_beq_eq_true hb
      subst this hcn
      rcases Nat.eq_zero_or_pos k with hk | hk
      · subst hk
        have hn : news = [] := by have := src.size; simpa using this
        subst hn
        have hc0 : c = 0 := by omega
        subst hc0
        have hval : ∃ p, vx = .slice p 0 0 := by
          cases hx with | d hx =>
          cases hx with
          | sl a c' val hcap _ _ _ _ _ _ _ => rcases hcap with h | h <;> simp at h; subst h; exact ⟨_, rfl⟩
          | zero p c' hcap _ => rcases hcap with h | h <;> simp at h; subst h; exact ⟨_, rfl⟩
        obtain ⟨p, rfl⟩ := hval
        obtain ⟨g1, g2, g3⟩ := hS.unmade (sz := i.size) (rows := catRows 0 row rows) (p := p)
        exact ⟨_, _, _, _, _, _, append_none_run hu hu' hd' hi src.len hf0 (Nat.le_refl 0), g1, g2, g3, by simp, ag_append _ _, hK⟩
      · have hval : ∃ (p : Option Addr) (olds : List Value), vx = .slice p c c ∧ olds.length = c * i.size ∧ (∀ w', (∀ b, b < w.heap.size → w'.heap[b]? = w.heap[b]?) → (Builtin.firstCells i.size c vx).run P w' = .ok olds.toArray w') ∧ (∀ q, q < c → (row q).length = i.size) ∧ ∀ q, q < c → ∀ r, r < i.size → RD w j ((row q).getD r default) (olds.getD (q * i.size + r) Go.undef) := by
          cases hx with | d hx =>
          cases hx with
          | sl a c' val hcap hle ha hlt hbj hlen hcell hrel =>
            rcases hcap with h | h <;> simp at h
            subst h
            let olds : List Value := (List.range (c * i.size)).map fun q => val (q / i.size) (q % i.size)
            have hsize : olds.length = c * i.size := by simp [olds]
            have hget : ∀ q, q < c * i.size → olds.getD q Go.undef = val (q / i.size) (q % i.size) := by
              intro q hq; simp [olds, List.getD_eq_getElem?_getD, hq]
            refine ⟨_, olds, rfl, hsize, fun w' hw' => firstCells_of hsize fun q hq => cell_same hw' ?_, hlen, fun q hq r hr => ?_⟩
            · rw [hsize] at hq
              have hsz : 0 < i.size := by
                rcases Nat.eq_zero_or_pos i.size with h | h
                · rw [h] at hq; simp at hq
                · exact h
              have h1 : q / i.size < c := Nat.div_lt_of_lt_mul (by rwa [Nat.mul_comm] at hq)
              have h2 : q % i.size < i.size := Nat.mod_lt _ hsz
              have h4 : q / i.size * i.size + q % i.size = q := by rw [Nat.mul_comm]; exact Nat.div_add_mod q i.size
              rw [add_off _ ha, hget q hq, ← hcell _ h1 _ h2, Nat.add_assoc, h4]
            · have hb : q * i.size + r < c * i.size := by
                have : (q + 1) * i.size ≤ c * i.size := Nat.mul_le_mul_right _ hq
                rw [Nat.succ_mul] at this; omega
              rw [hget _ hb]
              have e1 : (q * i.size + r) / i.size = q := by
                rw [Nat.mul_comm, Nat.mul_add_div (by omega), Nat.div_eq_of_lt hr]; rfl
              have e2 : (q * i.size + r) % i.size = r := by
                rw [Nat.mul_comm, Nat.mul_add_mod, Nat.mod_eq_of_lt hr]
              rw [e1, e2]; exact hrel q hq r hr
          | zero p c' hcap hp =>
            rcases hcap with h | h <;> simp at h
            subst h
            refine ⟨p, [], rfl, by simp, fun w' hw' => ?_, by simp, by simp⟩
            cases p with
            | none => simp [Builtin.firstCells]
            | some a => exact firstCells_of (news := []) (by simp) (by simp)
        obtain ⟨p, olds, rfl, hol, hof, hrl, hrr⟩ := hval
        have hrun := append_grow_run (P := P) (w := w) (ty := ty) hu hu' hd' hi hz (hof w.drew fun _ _ => rfl) src.len hf1 (by omega) h63 hroom
        obtain ⟨g1, g2, g3⟩ := hS.grown (e := e) hol src.size hrl src.rlen hrr src.rel (hzc _) (grownCap_ge w (c + k) c e)
        exact ⟨_, _, _, _, _, _, hrun, g1, g2, g3, by simp, ag_append _ _, hK⟩
    · rename_i b sz' lo n _
      split at h
      · rename_i sz'' n' row hb
        obtain ⟨hbb, hlo, hn', h63, hroom, hK⟩ := h
        simp only [Bool.and_eq_true] at hbb
        have e1 := Nat.eq_of_beq_eq_true hbb.1
        have e2 := Nat.eq_of_beq_eq_true hbb.2
        subst e1 e2 hlo hn'
        obtain ⟨o, ho, hB⟩ := hS.blk b _ hb
        have hbl : b < j.length := by rw [hS.len]; exact (List.getElem?_eq_some_iff.1 hb).1
        have hbs : b < σ.length := (List.getElem?_eq_some_iff.1 hb).1
        cases hx with
        | @ms _ _ _ _ cb c e' m hj hsh hn hm =>
          rw [hj] at ho
          cases ho
          obtain ⟨C, e'', hC, hCs, hCr⟩ := hB
          have hm' : C.size = m := by rw [shape_of hC] at hsh; simp at hsh; exact hsh.2
          simp only [Nat.zero_add, Nat.zero_mul] at hm ⊢
          rcases Nat.lt_or_ge c (n' + k) with hlt | hge
          · -- a new block
            let olds : List Value := C.toList.take (n' * i.size)
            have hol : olds.length = n' * i.size := by simp [olds]; omega
            have hog : ∀ q, q < n' * i.size → olds.getD q Go.undef = C.getD q Go.undef := by
              intro q hq; simp [olds, List.getD_eq_getElem?_getD, List.getElem?_take, hq, Array.getD_eq_getD_getElem?]
            have hof : (Builtin.firstCells i.size n' (.slice (some ⟨cb, 0, none⟩) n' c)).run P w.drew = .ok olds.toArray w.drew := by
              refine firstCells_of hol fun q hq => ?_
              rw [hol] at hq
              rw [add_off _ rfl, Nat.zero_add]
              show w.cell? _ = _
              rw [cell_of hC, hog q hq]
              simp [Array.getD_eq_getD_getElem?, show q < C.size by omega]
            have hrr : ∀ q, q < n' → ∀ r, r < i.size → RD w j ((row q).getD r default) (olds.getD (q * i.size + r) Go.undef) := by
              intro q hq r hr
              have hb : q * i.size + r < n' * i.size := by
                have : (q + 1) * i.size ≤ n' * i.size := Nat.mul_le_mul_right _ hq
                rw [Nat.succ_mul] at this; omega
              rw [hog _ hb]; exact (hCr q hq).2 r hr
            have hrun := append_grow_run (P := P) (w := w) (ty := ty) hu hu' hd' hi hz hof src.len hf1 hlt h63 hroom
            have hcap := grownCap_ge w (n' + k) c e
            have hcat := cat_rel (w := w) (j := j) (z := Builtin.zeroCells zz.cells (grownCap w (n' + k) c e - (n' + k))) hol src.size (fun q hq => (hCr q hq).1) src.rlen hrr src.rel
            have hcs : (olds.toArray ++ news.toArray ++ Builtin.zeroCells zz.cells (grownCap w (n' + k) c e - (n' + k))).size = grownCap w (n' + k) c e * i.size := by
              simp only [Array.size_append, List.size_toArray, hol, src.size, hzc, ← Nat.add_mul]
              congr 1; omega
            have hle : (n' + k) * i.size ≤ grownCap w (n' + k) c e * i.size := Nat.mul_le_mul_right _ hcap
            have hev0 : Ev j w.drew (j.set b (some w.heap.size)) (w.drew.alloc (.cells (olds.toArray ++ news.toArray ++ Builtin.zeroCells zz.cells (grownCap w (n' + k) c e - (n' + k))) e)) := ev_alloc _ _ _ _ _ (fun q hq hm => by
              rcases List.mem_or_eq_of_mem_set hm with hm | hm
              · exact hm
              · simp only [Option.some.injEq] at hm; subst hm; exact absurd hq (by simp))
            obtain ⟨g1, g2, g3⟩ := hS.drew.moved (b := b) hbl (C := olds.toArray ++ news.toArray ++ Builtin.zeroCells zz.cells (grownCap w (n' + k) c e - (n' + k))) (e := e) (x := .arr i.size (n' + k) (catRows n' row rows))
              ⟨_, e, heap_alloc_new _ _, by rw [hcs]; exact hle, fun q hq => ⟨(hcat q hq).1, fun r hr => (((hcat q hq).2 r hr).mono (ev_drew j w)).mono hev0⟩⟩
            refine ⟨_, _, _, _, _, _, hrun, g1, ?_, (ev_drew j w).trans g2, by simp, g3, hK⟩
            have hms : R (w.drew.alloc (.cells (olds.toArray ++ news.toArray ++ Builtin.zeroCells zz.cells (grownCap w (n' + k) c e - (n' + k))) e)) (j.set b (some w.heap.size)) (.ms b i.size 0 (n' + k)) (.slice (some ⟨w.heap.size, 0 * i.size, none⟩) (n' + k) (grownCap w (n' + k) c e)) := by
              refine .ms _ e (grownCap w (n' + k) c e * i.size) ?_ ?_ hcap (by simp)
              · rw [List.getElem?_set]; simp [hbl]
              · rw [← hcs]; exact shape_of (heap_alloc_new _ _)
            rwa [Nat.zero_mul] at hms
          · -- there is room
            have hfit : (n' + k) * i.size ≤ C.size := by
              rw [hm']; exact Nat.le_trans (Nat.mul_le_mul_right _ hge) hm
            have hrun := append_room_run (P := P) (w := w) (ty := ty) hu hu' hd' hi hC src.len hf0 src.size src.one hge hfit
            have hss : (C.toList.take (n' * i.size) ++ news ++ C.toList.drop (n' * i.size + news.length)).toArray.size = C.size := by
              rw [Nat.add_mul] at hfit
              have := src.size
              simp; omega
            have hev := ev_setRow (j := j) hC hss (List.mem_of_getElem? hj)
            have hss2 := hS.scrub [b]
            have hRB : RB (w.setRow cb (C.toList.take (n' * i.size) ++ news ++ C.toList.drop (n' * i.size + news.length)).toArray) j (.arr i.size (n' + k) (catRows n' row rows)) (some cb) := by
              refine ⟨_, e'', setRow_heap w cb C _ e'' (0, 0) hC, by rw [hss]; exact hfit, fun q hq => ?_⟩
              rw [Nat.add_mul] at hfit
              have hsl := src.size
              have hgd : ∀ r, ((C.toList.take (n' * i.size) ++ news ++ C.toList.drop (n' * i.size + news.length)).toArray).getD r Go.undef = if n' * i.size ≤ r ∧ r < n' * i.size + news.length then news.getD (r - n' * i.size) Go.undef else C.getD r Go.undef := fun r => setRow_getD (by omega)
              unfold catRows
              by_cases hqn : q < n'
              · simp only [hqn, if_true]
                refine ⟨(hCr q hqn).1, fun r hr => ?_⟩
                have : (q + 1) * i.size ≤ n' * i.size := Nat.mul_le_mul_right _ hqn
                rw [Nat.succ_mul] at this
                rw [hgd, if_neg (by omega)]
                exact ((hCr q hqn).2 r hr).mono hev
              · simp only [hqn, if_false]
                refine ⟨src.rlen _ (by omega), fun r hr => ?_⟩
                have h3 : n' * i.size ≤ q * i.size := Nat.mul_le_mul_right _ (by omega)
                have h4 : (q + 1) * i.size ≤ (n' + k) * i.size := Nat.mul_le_mul_right _ hq
                rw [Nat.succ_mul, Nat.add_mul] at h4
                have h5 : q * i.size + r - n' * i.size = (q - n') * i.size + r := by rw [Nat.sub_mul]; omega
                rw [hgd, if_pos (by omega), h5]
                exact (src.rel (q - n') (by omega) r hr).mono hev
            obtain ⟨g1, g2⟩ := hss2.setRow (C' := (C.toList.take (n' * i.size) ++ news ++ C.toList.drop (n' * i.size + news.length)).toArray) hj hC hss (x := .arr i.size (n' + k) (catRows n' row rows)) hRB
            refine ⟨_, _, _, _, _, _, hrun, g1, ?_, g2, Nat.le_refl _, .refl _ _, hK⟩
            have hms : R (w.setRow cb (C.toList.take (n' * i.size) ++ news ++ C.toList.drop (n' * i.size + news.length)).toArray) j (.ms b i.size 0 (n' + k)) (.slice (some ⟨cb, 0 * i.size, none⟩) (n' + k) c) := by
              refine .ms c e' m hj ?_ hge (by simpa using hm)
              rw [shape_setRow hC hss]; exact hsh
            rwa [Nat.zero_mul] at hms
        | ms0 p hj =>
          rcases Nat.eq_zero_or_pos k with hk | hk
          · subst hk
            have hn : news = [] := by have := src.size; simpa using this
            subst hn
            have hrun := append_none_run (P := P) (w := w) (ty := ty) hu hu' hd' hi (p := p) src.len hf0 (Nat.le_refl 0)
            have hss2 := hS.scrub [b]
            refine ⟨_, _, j, _, _, _, hrun, ⟨by simp [hS.len], hS.lt, hS.inj, fun q y hy => ?_⟩, .ms0 p hj, .refl _ _, Nat.le_refl _, .refl _ _, hK⟩
            rw [List.getElem?_set] at hy
            split at hy
            · rename_i hbq
              split at hy <;> simp at hy
              subst hbq hy
              exact ⟨none, hj, rfl⟩
            · exact hss2.blk q y hy
          · have hrun := append_grow_run (P := P) (w := w) (ty := ty) hu hu' hd' hi hz (p := p) (n := 0) (c := 0) (olds := []) (by
              cases p with
              | none => simp [Builtin.firstCells]
              | some a => exact firstCells_of (news := []) (by simp) (by simp)) src.len hf1 (by omega) h63 hroom
            have hcap := grownCap_ge w (0 + k) 0 e
            generalize grownCap w (0 + k) 0 e = gc at hrun hcap
            have hcat := cat_rel (w := w) (j := j) (n := 0) (row := row) (olds := []) (z := Builtin.zeroCells zz.cells (gc - (0 + k))) (by simp) src.size (by simp) src.rlen (by simp) src.rel
            have hcs : (([] : List Value).toArray ++ news.toArray ++ Builtin.zeroCells zz.cells (gc - (0 + k))).size = gc * i.size := by
              simp only [Array.size_append, List.size_toArray, List.length_nil, src.size, hzc, Nat.zero_add, ← Nat.add_mul]
              congr 1; omega
            have hle : (0 + k) * i.size ≤ gc * i.size := Nat.mul_le_mul_right _ hcap
            have hev0 : Ev j w.drew (j.set b (some w.heap.size)) (w.drew.alloc (.cells (([] : List Value).toArray ++ news.toArray ++ Builtin.zeroCells zz.cells (gc - (0 + k))) e)) := ev_alloc _ _ _ _ _ (fun q hq hm => by
              rcases List.mem_or_eq_of_mem_set hm with hm | hm
              · exact hm
              · simp only [Option.some.injEq] at hm; subst hm; exact absurd hq (by simp))
            obtain ⟨g1, g2, g3⟩ := hS.drew.moved (b := b) hbl (C := ([] : List Value).toArray ++ news.toArray ++ Builtin.zeroCells zz.cells (gc - (0 + k))) (e := e) (x := .arr i.size (0 + k) (catRows 0 row rows))
              ⟨_, e, heap_alloc_new _ _, by rw [hcs]; exact hle, fun q hq => ⟨(hcat q hq).1, fun r hr => (((hcat q hq).2 r hr).mono (ev_drew j w)).mono hev0⟩⟩
            refine ⟨_, _, _, _, _, _, hrun, g1, ?_, (ev_drew j w).trans g2, by simp, g3, hK⟩
            have hms : R (w.drew.alloc (.cells (([] : List Value).toArray ++ news.toArray ++ Builtin.zeroCells zz.cells (gc - (0 + k))) e)) (j.set b (some w.heap.size)) (.ms b i.size 0 (0 + k)) (.slice (some ⟨w.heap.size, 0 * i.size, none⟩) (0 + k) (gc)) := by
              refine .ms _ e (gc * i.size) ?_ ?_ hcap (by simp)
              · rw [List.getElem?_set]; simp [hbl]
              · rw [← hcs]; exact shape_of (heap_alloc_new _ _)
            rwa [Nat.zero_mul] at hms
      · exact h.elim
    · exact h.elim
  · exact h.elim

end Go.Abs
