/- Abstract values: a range over a function. -/
import Derived.Test.YtplpklikapkloaaAv
namespace Go.Abs
set_option linter.unusedVariables false
set_option linter.unusedSimpArgs false

/-! the record turns -/
theorem cell_loop {w : World} {l : Nat} {r r' : Loop} (h : w.heap[l]? = some (.loop r)) (a : Addr) : (w.putObj l (.loop r')).cell? a = w.cell? a := by
  by_cases hb : a.block = l
  · have h1 : (w.putObj l (.loop r')).heap[a.block]? = some (.loop r') := by rw [hb]; exact World.putObj_heap_same (Array.getElem?_eq_some_iff.1 h).1
    have h2 : w.heap[a.block]? = some (.loop r) := by rw [hb]; exact h
    simp [World.cell?, h1, h2]
  · simp [World.cell?, World.putObj_heap_other hb]

theorem shape_loop {w : World} {l : Nat} {r r' : Loop} (h : w.heap[l]? = some (.loop r)) (b : Nat) : (w.putObj l (.loop r')).shape? b = w.shape? b := by
  by_cases hb : b = l
  · subst hb
    simp [World.shape?, World.putObj_heap_same (Array.getElem?_eq_some_iff.1 h).1, h]
  · simp [World.shape?, World.putObj_heap_other hb]

theorem frozen_loop {w : World} {l : Nat} {r r' : Loop} (h : w.heap[l]? = some (.loop r)) (a : Addr) : (w.putObj l (.loop r')).frozen? a = w.frozen? a := by
  by_cases hb : a.block = l
  · have h1 : (w.putObj l (.loop r')).heap[a.block]? = some (.loop r') := by rw [hb]; exact World.putObj_heap_same (Array.getElem?_eq_some_iff.1 h).1
    have h2 : w.heap[a.block]? = some (.loop r) := by rw [hb]; exact h
    simp [World.frozen?, h1, h2]
  · simp [World.frozen?, World.putObj_heap_other hb]

theorem ev_loop {j : Js} {w : World} {l : Nat} {r r' : Loop} (h : w.heap[l]? = some (.loop r)) (hj : some l ∈ j) : Ev j w j (w.putObj l (.loop r')) where
  size := by simp
  keep b _ hn := World.putObj_heap_other fun he => hn (he ▸ hj)
  sub _ _ h := h
  shp b _ := shape_loop h b
  frz a _ := frozen_loop h a
  os := rfl
  tape := rfl
  output := rfl
  lps b r'' hb := by
    by_cases he : b = l
    · subst he; exact ⟨r', World.putObj_heap_same (Array.getElem?_eq_some_iff.1 h).1⟩
    · exact ⟨r'', by rw [World.putObj_heap_other he]; exact hb⟩

theorem RelS.loop {w : World} {j : Js} {σ : List Blk} (hs : RelS w j σ) {b cb : Nat} (hb : j[b]? = some (some cb)) {L : LoopA} {st : LoopState} {pd : Option Code} (hx : σ[b]? = some (.lp L st pd)) (st' : LoopState) (pd' : Option Code) :
    ∃ r : Loop, w.heap[cb]? = some (.loop r) ∧ r.state = st ∧ r.pending = pd ∧ RelS (w.putObj cb (.loop { r with state := st', pending := pd' })) j (σ.set b (.lp L st' pd')) ∧ Ev j w j (w.putObj cb (.loop { r with state := st', pending := pd' })) := by
  obtain ⟨o, ho, hB⟩ := hs.blk b _ hx
  rw [hb] at ho
  cases ho
  obtain ⟨r, h1, h2, h3, h4⟩ := hB
  have hc := cell_loop (r' := { r with state := st', pending := pd' }) h1
  have hsh := shape_loop (r' := { r with state := st', pending := pd' }) h1
  have hmem : some cb ∈ j := List.mem_of_getElem? hb
  refine ⟨r, h1, h2.1, h2.2.1, ⟨by simp [hs.len], fun b cb hb => by have := hs.lt b cb hb; simpa using this, hs.inj, fun b' y hy => ?_⟩, ev_loop h1 hmem⟩
  rw [List.getElem?_set] at hy
  by_cases hbb : b = b'
  · subst hbb
    have hlt : b < σ.length := (List.getElem?_eq_some_iff.1 hx).1
    rw [if_pos rfl, if_pos hlt] at hy
    cases hy
    exact ⟨some cb, hb, _, World.putObj_heap_same (Array.getElem?_eq_some_iff.1 h1).1, ⟨rfl, rfl, h2.2.2.1, h2.2.2.2.1, h2.2.2.2.2⟩, h3, fun k av hk => ⟨(h4 k av hk).1, (h4 k av hk).2.congr hc (by simp) hsh⟩⟩
  · rw [if_neg hbb] at hy
    obtain ⟨o, ho, hB⟩ := hs.blk b' y hy
    refine ⟨o, ho, hB.congr hc (by simp) hsh fun cb' hcb => World.putObj_heap_other fun he => hbb ?_⟩
    subst he; subst hcb
    exact hs.inj _ _ _ hb ho

/-! a round -/
def St.putL (s : St) : List Tmp → List AV → St
  | p :: ps, x :: xs => (s.put (some p) x).putL ps xs
  | _, _ => s

theorem Rel.putL {j0 : J0} {j : Js} {w : World} {d : List Deferred} : ∀ {ps : List Tmp} {xs : List AV} {us : List Value} {s : St} {tmps : Array Value}, Rel j0 s j { tmps := tmps, defers := d } w → us.length = xs.length → (∀ k, k < xs.length → R w j (xs.getD k .undef) (us.getD k Go.undef)) →
    Rel j0 (s.putL ps xs) j { tmps := (ps.zip us).foldl (fun tm (p : Tmp × Value) => tm.setIfInBounds p.1 p.2) tmps, defers := d } w
  | [], xs, us, s, tmps, h, _, _ => by cases xs <;> exact h
  | p :: ps, [], us, s, tmps, h, hl, _ => by
    have : us = [] := List.length_eq_zero_iff.1 hl
    subst this
    simpa [St.putL] using h
  | p :: ps, x :: xs, [], s, tmps, h, hl, _ => by simp at hl
  | p :: ps, x :: xs, u :: us, s, tmps, h, hl, hx => by
    have h1 := h.put (some p) (av := x) (v := u) (by simpa using hx 0 (by simp))
    exact Rel.putL (ps := ps) h1 (by simpa using hl) fun k hk => by simpa using hx (k + 1) (by simpa using hk)

def mvNot (b : Nat) : List Nat → Prop
  | [] => True
  | x :: xs => x ≠ b ∧ mvNot b xs

theorem mvNot_mem {b : Nat} : ∀ {l : List Nat}, mvNot b l → b ∉ l
  | [], _ => by simp
  | x :: xs, h => by
    simp only [List.mem_cons, not_or]
    exact ⟨fun he => h.1 he.symm, mvNot_mem h.2⟩

/-- how a round ends -/
def jumpOf : Exit → Option (Option Code)
  | .normal => some none
  | .ret => some (some .ret)
  | .exit id => some (some (.exit id))
  | .goto t => some (some (.goto t))
  | _ => none

/-- what must hold where a round's body ends: the record has turned; blocks of its own are forgotten -/
def roundQ (b : Nat) (σ0 : List Blk) (X : List Nat) (Q : AV → List Blk → Prop) (e : Exit) (s : St) : Prop :=
  match jumpOf e with
  | some jump => match s.σ[b]? with
    | some (.lp L st pd) => ∃ σ' g, s.σ.set b (.lp L (if jump.isNone then .ready else .done) jump) = σ' ++ g ∧ Leaves σ0 σ' ∧ mvIn σ0.length X s.mv ∧ mvNot b s.mv ∧ Q (.d (.v (.bool jump.isNone))) σ'
    | _ => False
  | none => False

/-- what must hold where the loop's own variables have been set -/
def begunQ (P : Program) (b : Nat) (body : Code) (Q : Exit → St → Prop) : Exit → St → Prop
  | .normal, s => match s.σ[b]? with
    | some (.lp L .ready pd) => mvNot b s.mv ∧ AWP P body Q { s with σ := s.σ.set b (.lp L .busy pd) }
    | _ => False
  | _, _ => False

theorem YS.of_awp {P : Program} {b : Nat} {args : List AV} {σ : List Blk} {L : LoopA} {pd : Option Code} {X : List Nat} {Q : AV → List Blk → Prop} (hb : σ[b]? = some (.lp L .ready pd)) (hargs : args.length = L.ps.size)
    (h : WfS σ → AWP P L.assign (begunQ P b L.body (roundQ b σ X Q)) (St.putL ⟨L.N, L.t, σ, []⟩ L.ps.toList args)) : YS P b args σ fun r σ' X' => X' = X ∧ Q r σ' := by
  intro rd j w vs cb hs hr hcb
  obtain ⟨o, ho, hB⟩ := hs.blk b _ hb
  rw [hcb] at ho
  cases ho
  obtain ⟨r, h1, ⟨h2a, h2b, h2c, h2d, h2e⟩, h3, h4⟩ := hB
  refine ⟨r.fn, _, r.assign, r.body, run_yield h1 (by rw [hr.1, hargs, h2c]), ?_⟩
  refine roundIn_of_wpIn (F := FW rd) trivial ?_
  have hrel0 : Rel ⟨j, w.heap.size, some cb⟩ ⟨L.N, L.t, σ, []⟩ j { tmps := r.tmps, defers := [] } w :=
    ⟨.nil (Nat.le_refl _) _, fun l hl => by cases hl; exact ⟨r, h1⟩, h3, fun k av hk => h4 k av (get_mem hk), hs, Nat.le_refl _, .refl _ _⟩
  have hrel1 := Rel.putL (ps := L.ps.toList) (xs := args) (us := vs.toList) hrel0 (by simpa using hr.1) (fun k hk => by simpa [Array.getD_eq_getD_getElem?, List.getD_eq_getElem?_getD] using hr.2 k hk)
  have etm : (r.params.zip vs).foldl (fun tmps (t, a) => tmps.setIfInBounds t a) r.tmps = (L.ps.toList.zip vs.toList).foldl (fun tm (p : Tmp × Value) => tm.setIfInBounds p.1 p.2) r.tmps := by
    rw [← Array.foldl_toList, Array.toList_zip, h2c]
  rw [etm, h2d, h2e]
  refine wpIn_mono (h hs.wf ⟨j, w.heap.size, some cb⟩ j _ w hrel1) ?_
  rintro e a1 w1 ⟨s1, j1, hr1, he1, hq⟩
  cases e with
  | normal =>
    simp only [begunQ] at hq
    split at hq
    · rename_i L1 pd1 hx1
      obtain ⟨hmv1, hq⟩ := hq
      have hbj : b < j.length := (List.getElem?_eq_some_iff.1 hcb).1
      have hcb1 : j1[b]? = some (some cb) := by rw [hr1.ag b hbj (mvNot_mem hmv1)]; exact hcb
      obtain ⟨r1, g1, g2, g3, g4, g5⟩ := hr1.sto.loop hcb1 hx1 .busy pd1
      have erec : { r1 with state := LoopState.busy, pending := pd1 } = { r1 with state := LoopState.busy } := by rw [← g3]
      rw [erec] at g4 g5
      refine ⟨_, run_beginRound g1 g2, ?_⟩
      have hr2 : Rel ⟨j, w.heap.size, some cb⟩ { s1 with σ := s1.σ.set b (.lp L1 .busy pd1) } j1 a1 (w1.putObj cb (.loop { r1 with state := .busy })) := by
        have := hr1.after g5 g4 (Nat.le_refl _) (.refl _ [])
        exact this
      refine wpIn_mono (hq ⟨j, w.heap.size, some cb⟩ j1 a1 _ hr2) ?_
      rintro e a3 w3 ⟨s3, j3, hr3, he3, hq3⟩
      have hev : Ev j w j3 w3 := (he1.trans g5).trans he3
      have fin : ∀ jump, jumpOf e = some jump → ∃ v w', (Instr.endRound cb jump).run P w3 = .ok v w' ∧ ∃ v' r σ' j' X', Ending.returned v = .returned v' ∧ RelS w' j' σ' ∧ R w' j' r v' ∧ Ev j w j' w' ∧ j.length ≤ j'.length ∧ Ag j j' X' ∧ X' = X ∧ Q r σ' := by
        intro jump hj
        simp only [roundQ, hj] at hq3
        split at hq3
        · rename_i L3 st3 pd3 hx3
          obtain ⟨σ', gg, q1, q2, q3, q4, q5⟩ := hq3
          have hcb3 : j3[b]? = some (some cb) := by rw [hr3.ag b hbj (mvNot_mem q4)]; exact hcb
          obtain ⟨r3, k1, k2, k3, k4, k5⟩ := hr3.sto.loop hcb3 hx3 (if jump.isNone then .ready else .done) jump
          refine ⟨_, _, run_endRound jump k1, ?_⟩
          rw [q1] at k4
          have hlen0 : j.length ≤ j3.length := hr3.len0
          have hag : Ag j j3 X := Ag.mvIn hr3.ag (by show mvIn j.length X s3.mv; rw [hs.len]; exact q3)
          obtain ⟨m1, m2, m3⟩ := hs.drop k4 q2 hag hlen0
          have hlen : (j3.take j.length).length = j.length := by simp; omega
          have hev4 := hev.trans k5
          refine ⟨_, _, σ', j3.take j.length, X, rfl, m1, .d (.v _), ⟨hev4.size, hev4.keep, fun b hb hm => hev4.sub b hb (m2 _ hm), hev4.shp, hev4.frz, hev4.os, hev4.tape, hev4.output, hev4.lps⟩, by omega, fun b hb hn => ?_, rfl, q5⟩
          rw [← m3 b (by omega)]; exact hag b hb hn
        · exact hq3.elim
      cases e with
      | normal => exact fin none rfl
      | ret => exact fin (some .ret) rfl
      | exit id => exact fin (some (.exit id)) rfl
      | goto t => exact fin (some (.goto t)) rfl
      | panic c => exact hq3.elim
      | outgrown => exact hq3.elim
    · exact hq.elim
  | exit id => exact hq.elim
  | goto l => exact hq.elim
  | ret => exact hq.elim
  | panic c => exact hq.elim
  | outgrown => exact hq.elim

/-! the statement -/
theorem ev_allocO (j j' : Js) (w : World) (o : Obj) (ho : ∀ C e f, o ≠ .cells C e f) (hj : ∀ b, b < w.heap.size → some b ∈ j' → some b ∈ j) : Ev j w j' (w.alloc o) where
  size := by simp
  keep b hb _ := heap_push_old w _ hb
  sub := hj
  shp b hb := by simp [World.shape?, heap_push_old w _ hb]
  frz a _ := by
    by_cases h : a.block = w.heap.size
    · have h1 : (w.alloc o).heap[a.block]? = some o := by rw [h]; exact heap_alloc_new w _
      have h2 : w.heap[a.block]? = none := by rw [h]; simp
      cases o with
      | cells C e f => exact absurd rfl (ho C e f)
      | _ => simp [World.frozen?, h1, h2]
    · have h1 : (w.alloc o).heap[a.block]? = w.heap[a.block]? := by
        show (w.heap.push _)[a.block]? = _
        rw [Array.getElem?_push, if_neg h]
      simp [World.frozen?, h1]
  os := rfl
  tape := rfl
  output := rfl
  lps b r hb := ⟨r, by rw [heap_push_old w _ (Array.getElem?_eq_some_iff.1 hb).1]; exact hb⟩

theorem RelS.grow {w : World} {j : Js} {σ : List Blk} (h : RelS w j σ) {o : Obj} (ho : ∀ C e f, o ≠ .cells C e f) : RelS (w.alloc o) j σ ∧ Ev j w j (w.alloc o) := by
  have he : Ev j w j (w.alloc o) := ev_allocO _ _ _ _ ho fun _ _ h => h
  refine ⟨⟨h.len, fun b cb hb => by have := h.lt b cb hb; simp; omega, h.inj, fun b x hx => ?_⟩, he⟩
  obtain ⟨q, hq, hB⟩ := h.blk b x hx
  refine ⟨q, hq, hB.mono he h.lt (.refl _ _) fun cb hcb => heap_push_old w _ (h.lt b cb (by rw [hq, hcb]))⟩

theorem RelS.allocO {w : World} {j : Js} {σ : List Blk} (h : RelS w j σ) {o : Obj} (ho : ∀ C e f, o ≠ .cells C e f) (x : Blk) (hx : RB (w.alloc o) (j ++ [some w.heap.size]) x (some w.heap.size)) :
    RelS (w.alloc o) (j ++ [some w.heap.size]) (σ ++ [x]) ∧ Ev j w (j ++ [some w.heap.size]) (w.alloc o) := by
  have he : Ev j w (j ++ [some w.heap.size]) (w.alloc o) := ev_allocO _ _ _ _ ho fun b hb hm => by
    simp at hm
    rcases hm with hm | hm
    · exact hm
    · omega
  have hold : ∀ b, b < j.length → (j ++ [some w.heap.size])[b]? = j[b]? := fun b hb => List.getElem?_append_left hb
  have hnew : (j ++ [some w.heap.size])[j.length]? = some (some w.heap.size) := by simp
  have hcase : ∀ {b cb : Nat}, (j ++ [some w.heap.size])[b]? = some (some cb) → (b < j.length ∧ j[b]? = some (some cb)) ∨ (b = j.length ∧ cb = w.heap.size) := by
    intro b cb hb
    rcases Nat.lt_trichotomy b j.length with hlt | heq | hgt
    · exact .inl ⟨hlt, by rw [← hold b hlt]; exact hb⟩
    · subst heq; rw [hnew] at hb; cases hb; exact .inr ⟨rfl, rfl⟩
    · rw [List.getElem?_eq_none (by simp; omega)] at hb; cases hb
  refine ⟨⟨by simp [h.len], fun b cb hb => ?_, fun b b' cb hb hb' => ?_, fun b y hy => ?_⟩, he⟩
  · rcases hcase hb with ⟨h1, h2⟩ | ⟨h1, h2⟩
    · have := h.lt b cb h2; simp; omega
    · simp; omega
  · rcases hcase hb with ⟨h1, h2⟩ | ⟨h1, h2⟩ <;> rcases hcase hb' with ⟨g1, g2⟩ | ⟨g1, g2⟩
    · exact h.inj b b' cb h2 g2
    · have := h.lt b cb h2; omega
    · have := h.lt b' cb g2; omega
    · omega
  · rcases Nat.lt_trichotomy b σ.length with hlt | heq | hgt
    · rw [List.getElem?_append_left hlt] at hy
      obtain ⟨q, hq, hB⟩ := h.blk b y hy
      refine ⟨q, by rw [hold b (by rw [h.len]; exact hlt)]; exact hq, hB.mono he h.lt (ag_append _ _) fun cb hcb => heap_push_old w _ (h.lt b cb (by rw [hq, hcb]))⟩
    · subst heq
      simp at hy
      subst hy
      exact ⟨some w.heap.size, by rw [← h.len]; exact hnew, hx⟩
    · rw [List.getElem?_eq_none (by simp; omega)] at hy; cases hy

theorem run_enter_inner {P : Program} {w : World} {l₀ : Nat} {r₀ : Loop} (h : w.heap[l₀]? = some (.loop r₀)) (fn : FuncId) (tmps : Array Value) (ps : Array Tmp) (assign body : Code) :
    (Instr.enterLoop fn tmps ps assign body (some l₀)).run P w = .ok (w.heap.size, []) (w.alloc (.loop { state := .ready, pending := none, fn, tmps, params := ps, assign, body, defers := r₀.defers })) := by
  unfold Instr.enterLoop
  simp only [Sem.run_bind, run_getLoop h, run_newObj_alloc, Result.andThen, Sem.run_pure]

theorem enter_loop {P : Program} {j0 : J0} {s : St} {j : Js} {a : Act} {w : World} (hr : Rel j0 s j a w) (fn : FuncId) (ps : Array Tmp) (assign body : Code) (t' : List (Nat × AV)) (ht : subT t' s.t) :
    ∃ l mark w1, (Instr.enterLoop fn a.tmps ps assign body j0.rd).run P w = .ok (l, mark) w1 ∧ RelS w1 (j ++ [some l]) (s.σ ++ [.lp ⟨s.N, t', ps, assign, body⟩ .ready none]) ∧ Ev j w (j ++ [some l]) w1 ∧ Marks j0.n0 w1 (j ++ [some l]) (mark ++ a.defers) := by
  have hmem : ∀ {t' : List (Nat × AV)} {k : Nat} {av : AV}, subT t' s.t → (k, av) ∈ t' → get s.t k = some av := by
    intro t'
    induction t' with
    | nil => intro k av _ h; simp at h
    | cons x xs ih =>
      intro k av h hm
      rcases List.mem_cons.1 hm with rfl | hm
      · exact h.1
      · exact ih h.2 hm
  have main : ∀ (w0 : World) (dref : Nat), RelS w0 j s.σ → Ev j w j w0 → RelS (w0.alloc (.loop { state := .ready, pending := none, fn, tmps := a.tmps, params := ps, assign, body, defers := dref })) (j ++ [some w0.heap.size]) (s.σ ++ [.lp ⟨s.N, t', ps, assign, body⟩ .ready none]) ∧ Ev j w0 (j ++ [some w0.heap.size]) (w0.alloc (.loop { state := .ready, pending := none, fn, tmps := a.tmps, params := ps, assign, body, defers := dref })) := by
    intro w0 dref hs0 he0
    have he1 : Ev j w0 (j ++ [some w0.heap.size]) (w0.alloc (.loop { state := .ready, pending := none, fn, tmps := a.tmps, params := ps, assign, body, defers := dref })) := ev_allocO _ _ _ _ (by intro C e f h; cases h) fun b hb hm => by
      simp at hm
      rcases hm with hm | hm
      · exact hm
      · omega
    refine hs0.allocO (by intro C e f h; cases h) _ ⟨_, heap_alloc_new w0 _, ⟨rfl, rfl, rfl, rfl, rfl⟩, hr.size, fun k av hk => ?_⟩
    have h1 := hr.tmp k av (hmem ht hk)
    exact ⟨h1.1, (h1.2.mono0 he0 hr.sto.lt (.refl _ _)).mono0 he1 hs0.lt (ag_append _ _)⟩
  cases hrd : j0.rd with
  | none =>
    obtain ⟨hs0, he0⟩ := hr.sto.grow (o := .deferred (some [])) (by intro C e f h; cases h)
    obtain ⟨h1, h2⟩ := main _ w.heap.size hs0 he0
    simp only [World.size_alloc] at h1 h2
    refine ⟨w.heap.size + 1, [{ target := .collected w.heap.size, args := #[] }], _, run_enterLoop_outer _ _ _ _ _, h1, he0.trans h2, ?_⟩
    have hm := hr.defers.mono (he0.trans h2)
    refine ⟨⟨hm.1.1, ?_⟩, fun d hd => ?_⟩
    · show List.Pairwise _ (_ :: a.defers)
      refine List.pairwise_cons.2 ⟨fun d hd he => ?_, hm.1.2⟩
      obtain ⟨r, g1, g2, g3, g4⟩ := hr.defers.2 d hd
      have hlt : r < w.heap.size := (Array.getElem?_eq_some_iff.1 g4).1
      rw [g1] at he
      cases he
      omega
    · rcases List.mem_append.1 hd with hd | hd
      · simp at hd
        subst hd
        refine ⟨w.heap.size, rfl, hr.defers.1.1, fun hm => ?_, ?_⟩
        · simp at hm
          have ⟨b, hb⟩ := List.getElem?_of_mem hm
          have := hr.sto.lt b _ hb
          omega
        · rw [heap_push_old _ _ (by simp)]; exact heap_alloc_new w _
      · exact hm.2 d hd
  | some l0 =>
    obtain ⟨r0, hr0⟩ := hr.rdok l0 hrd
    obtain ⟨h1, h2⟩ := main w r0.defers hr.sto (.refl _ _)
    exact ⟨w.heap.size, [], _, run_enter_inner hr0 _ _ _ _ _, h1, h2, hr.defers.mono h2⟩

/-- the jump that a round has left -/
def jumpQ (Q : Exit → St → Prop) (s : St) : Option Code → Prop
  | none => Q .normal s
  | some .ret => Q .ret s
  | some (.exit id) => Q (.exit id) s
  | _ => False

theorem awp_range {P : Program} {Q : Exit → St → Prop} {s : St} {g : Operand} {ps : Array Tmp} {assign body : Code} {fid : FuncId} {first captured : List AV} (hg : val s g = some (.clo (.func fid) first captured)) (t' : List (Nat × AV)) (ht : subT t' s.t)
    (h : CS P fid (first ++ (.yld s.σ.length :: captured)) (s.σ ++ [.lp ⟨s.N, t', ps, assign, body⟩ .ready none]) fun r σ' X => ∃ σ'' L' st pd, σ' = σ'' ++ [.lp L' st pd] ∧ Leaves s.σ σ'' ∧ st ≠ .busy ∧ mvNot s.σ.length X ∧ jumpQ Q (s.after σ'' X) pd) :
    AWP P (.rangeFunc g ps assign body) Q s := by
  intro j0 j a w hr
  refine wpIn_rangeFunc fun fn _ => ?_
  obtain ⟨l, mark, w1, h1, h2, h3, h4⟩ := enter_loop (P := P) hr fn ps assign body t' ht
  have hv := val_rel hr hg
  generalize hgv : a.eval g = u at hv
  cases hv with
  | clo ff cc g1 g2 g3 g4 =>
    refine ⟨l, mark, w1, { target := .fn (.func fid) cc, args := ff ++ #[.func (.yield l) #[] #[]] }, w1, fid, ff ++ #[.func (.yield l) #[] #[]] ++ cc, w1, h1, ?_, fun _ _ => trivial, ?_, by simp [FW], ?_⟩
    · simp only [resolve, rangeCall, hgv, Deferred.ofValue]
      simp [Act.eval]
    · simp [invoke, callFunc_enters h.1]
    · have hlen : j.length = s.σ.length := hr.sto.len
      have hjl : (j ++ [some l])[s.σ.length]? = some (some l) := by rw [← hlen]; simp
      have hrs : Rs w1 (j ++ [some l]) (first ++ (.yld s.σ.length :: captured)) (ff ++ #[.func (.yield l) #[] #[]] ++ cc) := by
        have e1 : Rs w1 (j ++ [some l]) first ff := ⟨g1, fun k hk => (g3 k hk).mono0 h3 hr.sto.lt (ag_append _ _)⟩
        have e2 : Rs w1 (j ++ [some l]) captured cc := ⟨g2, fun k hk => (g4 k hk).mono0 h3 hr.sto.lt (ag_append _ _)⟩
        have e3 : Rs w1 (j ++ [some l]) [.yld s.σ.length] #[.func (.yield l) #[] #[]] := ⟨rfl, fun k hk => by
          have : k = 0 := by simpa using hk
          subst this; exact .yld hjl⟩
        have := rs_append (rs_append e1 e3) e2
        simpa using this
      refine FW_calls ((h.2 (j ++ [some l]) w1 _ h2 hrs).mono ?_)
      rintro e w2 ⟨v, r, σ', j2, X, rfl, k1, k2, k3, k4, k5, σ'', L', st, pd, rfl, k6, k7, k8, k9⟩
      have hlen2 : σ''.length = s.σ.length := k6.len
      have hj2 : j2[s.σ.length]? = some (some l) := by
        rw [k5 _ (by simp; omega) (mvNot_mem k8)]; exact hjl
      obtain ⟨r2, q1, q2, q3, q4, q5⟩ := k1.loop hj2 (L := L') (st := st) (pd := pd) (by rw [← hlen2]; simp) .exhausted pd
      have erec : { r2 with state := LoopState.exhausted, pending := pd } = { r2 with state := LoopState.exhausted } := by rw [← q3]
      rw [erec] at q4 q5
      refine ⟨r2.pending, _, run_endLoop q1 (by rw [q2]; exact k7), ?_⟩
      rw [← hlen2] at q4
      simp only [List.set_append_right _ _ (Nat.le_refl _), Nat.sub_self, List.set_cons_zero] at q4
      -- the state with the record, then without it
      have hr1 : Rel j0 (s.after (s.σ ++ [.lp ⟨s.N, t', ps, assign, body⟩ .ready none]) []) (j ++ [some l]) { a with defers := mark ++ a.defers } w1 := by
        have := hr.after h3 h2 (by simp) (ag_append _ _)
        exact ⟨h4, this.rdok, this.size, this.tmp, this.sto, this.len0, this.ag⟩
      have hr2 := hr1.after (k3.trans q5) q4 k4 (k5 : Ag _ _ X)
      have hback : Back s ((s.after (s.σ ++ [.lp ⟨s.N, t', ps, assign, body⟩ .ready none]) []).after (σ'' ++ [.lp L' .exhausted pd]) X) (s.after σ'' X) := by
        refine ⟨?_, ?_, ?_, ?_, fun k av hk => ?_⟩
        · cases X <;> rfl
        · cases X <;> exact fun x hx => hx
        · cases X <;> exact ⟨_, rfl⟩
        · cases X <;> exact k6
        · cases X with
          | nil => exact ⟨hk, .inl hk⟩
          | cons x xs => exact ⟨hk, .inl (scrub'_spec hk).1⟩
      obtain ⟨j3, hr3, he3, _⟩ := hback.rel hr hr2 (by have := k4; simp at this; omega)
      have hev : Ev j w j3 _ := (h3.trans (k3.trans q5)).trans he3
      generalize w2.putObj l (.loop { r2 with state := .exhausted }) = w4 at hr3 hev ⊢
      rw [q3]
      cases pd with
      | none => exact ⟨_, j3, hr3, hev, k9⟩
      | some c =>
        cases c with
        | ret => exact wpIn_ret ⟨_, j3, hr3, hev, k9⟩
        | exit id => exact wpIn_exit ⟨_, j3, hr3, hev, k9⟩
        | _ => exact k9.elim

end Go.Abs
