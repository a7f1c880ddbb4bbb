/- Contracts and lemmas (Axp, Axq, Cq, Cr, Er, Cs, Cm, Cp, Cu, Ct, Cv), joined out of smaller texts by a program; no conditions. -/
import Derived.Test.YtnbokgmimbeihaaGreatDoorKB4
import Derived.Laws.Externs
import Derived.Lib.Overlaps
import Derived.Test.YtnbokgmimbeihaaGreatDoorRows
import Derived.Test.YtnbokgmimbeihaaGreatDoorKB3
import Derived.HandedShaped
import Derived.Deep.DeepHandedRow
import Derived.Lib.LaidTab
import Derived.LaidLaws
/-! Axp -/
namespace Go.Abs
set_option linter.unusedVariables false
set_option linter.unusedSimpArgs false

/-- an operation of the chain: an append, or a call -/
def actA (P : Program) (o : Oper) (s : St) (K : AV → List Blk → List Nat → Prop) : Prop :=
  match o.op with
  | .call c => match c.callee with
    | .builtin .append => args true s c.args.toList fun avs => (match avs, c.argTypes.toList with
      | [x, y], [t, t'] => appendB P s.σ t t' x y K
      | _, _ => False)
    | .value (.func f) => args true s c.args.toList fun avs => CS P f avs s.σ K
    | _ => False
  | _ => False

theorem actA_sound {P : Program} {all : List Oper} {o : Oper} {s : St} {K : AV → List Blk → List Nat → Prop} (h : actA P o s K) {j0 : J0} {j : Js} {a : Act} {w : World} {next : Act → World → Prop} {Q : Exit → Act → World → Prop}
    (hr : Rel j0 (s.restr (looks all o)) j a w) (hn : ∀ v w' j' r σ' X, RelS w' j' σ' → R w' j' r v → Ev j w j' w' → j.length ≤ j'.length → Ag j j' X → K r σ' X → next (a.put o.dst v) w') : o.wpIn (FW j0.rd) 0 P a w next Q := by
  have hsto : RelS w j s.σ := hr.sto
  have mem : ∀ {c : Call}, o.op = .call c → ∀ x ∈ c.args.toList, ∀ t, x = .tmp t → t ∈ looks all o := fun {c} ho x hx t ht => List.mem_append.2 (.inl (mem_opTmps (by
    simp only [ho, Op.operands, Call.operands, Array.mem_append]; exact .inr (by simpa using hx)) ht))
  unfold actA at h
  split at h
  · rename_i c ho
    split at h
    · rename_i hb
      rw [← args_restr (mem ho)] at h
      obtain ⟨avs, h, hl, ha⟩ := args_sound h
      split at h
      · rename_i x y t t' ht
        have hrs := rs_args (g := true) rfl hl ha hr
        have e : (c.args.toList.map a.eval).toArray = c.args.map a.eval := by apply Array.ext'; simp
        rw [e] at hrs
        have hsz : (c.args.map a.eval).size = 2 := by simpa using hrs.1
        have h0 := hrs.2 0 (by simp)
        have h1 := hrs.2 1 (by simp)
        obtain ⟨v, w', j', r, σ', X, g1, g2, g3, g4, g5, g6, g7⟩ := appendB_sound (P := P) (ty := o.type) hsto h (by simpa using h0) (by simpa using h1)
        have hrun : (execOp a.eval o).run P w = .ok (.value v) w' := by
          have e1 : c.args.map a.eval = #[(c.args.map a.eval).getD 0 Go.undef, (c.args.map a.eval).getD 1 Go.undef] := by
            apply Array.ext
            · simp [hsz]
            · intro i hi1 hi2
              rw [hsz] at hi1
              rcases i with _ | _ | i
              · simp [Array.getD_eq_getD_getElem?, hsz]
              · simp [Array.getD_eq_getD_getElem?, hsz]
              · omega
          have e2 : c.argTypes = #[t, t'] := by apply Array.ext'; simpa using ht
          simp only [execOp, ho, resolve, hb]
          rw [e1]
          simp [invoke, builtin, e2, g1]
        refine opw (by simp [ho]) hrun ?_
        exact hn v w' j' r σ' X g2 g3 g4 g5 g6 g7
      · exact h.elim
    · rename_i f hcal
      rw [← args_restr (mem ho)] at h
      obtain ⟨avs, h, hl, ha⟩ := args_sound h
      have hrs := rs_args (g := true) rfl hl ha hr
      have e : (c.args.toList.map a.eval).toArray = c.args.map a.eval := by apply Array.ext'; simp
      rw [e] at hrs
      have hfv : a.eval (.func f) = .func (.func f) #[] #[] := rfl
      refine opw (by simp [ho]) (call_run (P := P) (w := w) ho hcal hfv h.1) ?_
      refine ⟨by simp [FW], FW_calls ?_⟩
      have e2 : (#[] : Array Value) ++ c.args.map a.eval ++ #[] = c.args.map a.eval := by simp
      rw [e2]
      refine (h.2 j w _ hsto hrs).mono ?_
      rintro e w' ⟨v, r, σ', j', X, rfl, h6, h7, h8, h9, h10, h11⟩
      exact hn v w' j' r σ' X h6 h7 h8 h9 h10 h11
    · exact h.elim
  · exact h.elim

def memB : List (Nat × Nat) → Nat → Bool
  | [], _ => false
  | x :: xs, i => Nat.beq x.1 i || memB xs i

def ixB (is : List (Nat × Nat)) (k : Nat) : Nat := (is.getD k (0, 0)).1
def dsB (is : List (Nat × Nat)) (k : Nat) : Nat := (is.getD k (0, 0)).2

theorem memB_iff {is : List (Nat × Nat)} {i : Nat} : memB is i = true ↔ ∃ k, k < is.length ∧ ixB is k = i := by
  induction is with
  | nil => simp [memB]
  | cons x xs ih =>
    simp only [memB, Bool.or_eq_true, ih]
    constructor
    · rintro (h | ⟨k, h1, h2⟩)
      · exact ⟨0, by simp, by simpa [ixB] using h⟩
      · exact ⟨k + 1, by simpa using h1, by simpa [ixB] using h2⟩
    · rintro ⟨k, h1, h2⟩
      rcases k with _ | k
      · exact .inl (by simpa [ixB] using h2)
      · exact .inr ⟨k, by simpa using h1, by simpa [ixB] using h2⟩

/-- the operations that compute; what those of the chain yield is kept apart -/
def evalH (P : Program) (all : List Oper) (is : List (Nat × Nat)) : List Oper → Nat → St → (St → Prop) → Prop
  | [], _, s, K => K s
  | o :: os, i, s, K => if memB is i then evalH P all is os (i + 1) (s.put o.dst .undef) K
    else guardA all s o fun gd g => opA P true gd g o s fun s' => evalH P all is os (i + 1) s' K

theorem unrollH {P : Program} {all : List Oper} {is : List (Nat × Nat)} : ∀ {os : List Oper} {i0 : Nat} {s : St} {K : St → Prop}, evalH P all is os i0 s K →
    ∃ xs : Nat → AV, K (stAt s os xs os.length) ∧ (∀ i, memB is (i0 + i) = true → xs i = .undef) ∧ ∀ i o, os[i]? = some o → memB is (i0 + i) = false → Local P all o (stAt s os xs i) (xs i)
  | [], i0, s, K, h => ⟨fun _ => .undef, h, fun _ _ => rfl, by simp⟩
  | o :: os, i0, s, K, h => by
    have key : ∀ x : AV, evalH P all is os (i0 + 1) (s.put o.dst x) K → (memB is i0 = true → x = .undef) → (memB is i0 = false → Local P all o s x) →
        ∃ xs : Nat → AV, K (stAt s (o :: os) xs (o :: os).length) ∧ (∀ i, memB is (i0 + i) = true → xs i = .undef) ∧ ∀ i o', (o :: os)[i]? = some o' → memB is (i0 + i) = false → Local P all o' (stAt s (o :: os) xs i) (xs i) := by
      intro x h hx hl
      obtain ⟨xs, hK, hia, hloc⟩ := unrollH h
      have hst : ∀ i, stAt s (o :: os) (fun | 0 => x | i + 1 => xs i) (i + 1) = stAt (s.put o.dst x) os xs i := by
        intro i
        induction i with
        | zero => rfl
        | succ i ih =>
          show (match (o :: os)[i + 1]? with | some o' => (stAt s (o :: os) (fun | 0 => x | i + 1 => xs i) (i + 1)).put o'.dst (xs i) | none => stAt s (o :: os) (fun | 0 => x | i + 1 => xs i) (i + 1)) = _
          rw [ih]
          simp only [List.getElem?_cons_succ]
          rfl
      refine ⟨fun | 0 => x | i + 1 => xs i, ?_, fun i hi => ?_, fun i o' hi h1 => ?_⟩
      · rw [List.length_cons, hst]; exact hK
      · cases i with
        | zero => exact hx (by simpa using hi)
        | succ i => exact hia i (by rw [show i0 + 1 + i = i0 + (i + 1) by omega]; exact hi)
      · cases i with
        | zero => simp at hi; subst hi; exact hl (by simpa using h1)
        | succ i => rw [hst]; exact hloc i o' (by simpa using hi) (by rw [show i0 + 1 + i = i0 + (i + 1) by omega]; exact h1)
    simp only [evalH] at h
    by_cases h1 : memB is i0 = true
    · rw [if_pos h1] at h
      exact key _ h (fun _ => rfl) (fun h2 => by rw [h1] at h2; cases h2)
    · rw [if_neg h1] at h
      obtain ⟨x, hl, h⟩ := local_of h
      exact key x h (fun h3 => absurd h3 h1) (fun _ => hl)

/-- what stands before the k-th of the chain -/
def pAt (is : List (Nat × Nat)) (vs : List (AV × List Blk)) (t : List (Nat × AV)) : Nat → List (Nat × AV)
  | 0 => t
  | k + 1 => put t (dsB is k) (vs.getD k (.undef, [])).1
def tAt (vs : List (AV × List Blk)) : Nat → List Blk
  | 0 => []
  | k + 1 => (vs.getD k (.undef, [])).2

def chainOk (ops : List Oper) (m : Nat) (is : List (Nat × Nat)) : Bool :=
  (List.range is.length).all fun k => (match ops[ixB is k]? with
    | some o => (match o.guard, o.dst with
      | none, some d => Nat.beq d (dsB is k) && Nat.blt (ixB is k) m && !(looks ops o).contains d && ((List.range m).all fun q => Nat.ble q (ixB is k) || (match ops[q]? with
        | some oq => (match oq.dst with
          | some d => !(looks ops o).contains d
          | none => true)
        | none => true)) && (Nat.beq k 0 || (depB o (ixB is (k - 1)) && Nat.blt (ixB is (k - 1)) (ixB is k)))
      | _, _ => false)
    | none => false)

theorem chainOk_spec {ops : List Oper} {m : Nat} {is : List (Nat × Nat)} (h : chainOk ops m is = true) {k : Nat} (hk : k < is.length) : ∃ o, ops[ixB is k]? = some o ∧ o.guard = none ∧ o.dst = some (dsB is k) ∧ ixB is k < m ∧ dsB is k ∉ looks ops o ∧
    (∀ q oq d, ixB is k < q → q < m → ops[q]? = some oq → oq.dst = some d → d ∉ looks ops o) ∧ (0 < k → depB o (ixB is (k - 1)) = true ∧ ixB is (k - 1) < ixB is k) := by
  simp only [chainOk, List.all_eq_true, List.mem_range] at h
  have h := h k hk
  split at h
  · rename_i o ho
    split at h
    · rename_i d e1 e2
      simp only [Bool.and_eq_true, Nat.blt_eq, Nat.beq_eq, Bool.not_eq_true', List.all_eq_true, List.mem_range, Bool.or_eq_true, Nat.ble_eq, List.contains_eq_mem, decide_eq_false_iff_not] at h
      obtain ⟨⟨⟨⟨h1, h2⟩, h3⟩, h4⟩, h5⟩ := h
      subst h1
      refine ⟨o, ho, e1, e2, h2, h3, fun q oq d hq hqm hqo hqd hkl => ?_, fun hk0 => ?_⟩
      · rcases h4 q hqm with h | h
        · omega
        · simp only [hqo, hqd, Bool.not_eq_true', List.contains_eq_mem, decide_eq_false_iff_not] at h
          exact h hkl
      · rcases h5 with h | h
        · omega
        · exact h
    · cases h
  · cases h

theorem chainOk_lt {ops : List Oper} {m : Nat} {is : List (Nat × Nat)} (h : chainOk ops m is = true) : ∀ {b a : Nat}, a < b → b < is.length → ixB is a < ixB is b
  | 0, a, h1, _ => by omega
  | b + 1, a, h1, h2 => by
    obtain ⟨_, _, _, _, _, _, _, h3⟩ := chainOk_spec h h2
    have h4 := (h3 (by omega)).2
    simp only [Nat.add_sub_cancel] at h4
    rcases Nat.lt_or_ge a b with h5 | h5
    · exact Nat.lt_trans (chainOk_lt h h5 (by omega)) h4
    · obtain rfl : a = b := by omega
      exact h4

theorem chainOk_inj {ops : List Oper} {m : Nat} {is : List (Nat × Nat)} (h : chainOk ops m is = true) {a b : Nat} (ha : a < is.length) (hb : b < is.length) (he : ixB is a = ixB is b) : a = b := by
  rcases Nat.lt_trichotomy a b with h1 | h1 | h1
  · have := chainOk_lt h h1 hb; omega
  · exact h1
  · have := chainOk_lt h h1 ha; omega

structure InvH (s : St) (ops : List Oper) (m : Nat) (is : List (Nat × Nat)) (vs : List (AV × List Blk)) (t1 : List (Nat × AV)) (j0 : J0) (k0 : Nat) (listed : Array Bool) (j : Js) (a : Act) (w : World) : Prop where
  defers : Marks j0.n0 w j a.defers
  rdok : ∀ l, j0.rd = some l → ∃ r, w.heap[l]? = some (.loop r)
  size : a.tmps.size = s.N
  sto : RelS w j (s.σ ++ tAt vs k0)
  len0 : j0.js.length ≤ j.length
  ag : Ag j0.js j s.mv
  lsize : listed.size = ops.length
  lB : ∀ k, m ≤ k → k < ops.length → ∀ b, listed.getD k b = false
  cl : ∀ q oq, q < m → ops[q]? = some oq → listed.getD q true = true → ∀ e ∈ oq.after, Region.binds .any e = true → listed.getD e.on false = true
  c1 : ∀ q oq k av, q < m → ops[q]? = some oq → oq.dst = some k → listed.getD q true = true → get t1 k = some av → k < s.N ∧ R w j av (a.tmps.getD k Go.undef)
  c2 : ∀ k av, (∀ q oq, q < m → ops[q]? = some oq → oq.dst = some k → listed.getD q true = false) → get s.t k = some av → k < s.N ∧ R w j av (a.tmps.getD k Go.undef)
  k0le : k0 ≤ is.length
  done : ∀ k, k < is.length → listed.getD (ixB is k) true = decide (k < k0)
  cur : ∀ k, k + 1 = k0 → dsB is k < s.N ∧ R w j (vs.getD k (.undef, [])).1 (a.tmps.getD (dsB is k) Go.undef)

section
variable {P : Program} {ops : List Oper} {m : Nat} {is : List (Nat × Nat)} {vs : List (AV × List Blk)}

/-- what the operations of the part that computes come to, whatever the block is -/
structure PureH (P : Program) (s : St) (ops : List Oper) (m : Nat) (is : List (Nat × Nat)) (t1 : List (Nat × AV)) : Prop where
  at_ : ∀ τ : List Blk, ∃ xs : Nat → AV, (stAt s (ops.take m) xs m).t = t1 ∧ (∀ i, memB is i = true → xs i = .undef) ∧
    ∀ i o, i < m → ops[i]? = some o → memB is i = false → Local P ops o ⟨s.N, (stAt s (ops.take m) xs i).t, s.σ ++ τ, s.mv⟩ (xs i)

/-- the state as the text has it fits what an operation looks at -/
theorem InvH.looks_rel (hok : drawOk ops m = true) (hmn : m ≤ ops.length) {s : St} {t1 : List (Nat × AV)} {j0 : J0} {k0 : Nat} {listed : Array Bool} {j : Js} {a : Act} {w : World}
    (hI : InvH s ops m is vs t1 j0 k0 listed j a w) {xs : Nat → AV} (hxs : (stAt s (ops.take m) xs m).t = t1) {i : Nat} {o : Oper} (him : i < m) (ho : ops[i]? = some o) (h0 : listed.getD i true = false)
    (hall : ∀ e ∈ o.after, Region.binds .any e = true → listed.getD e.on false = true) {k : Nat} {av : AV} (hkl : k ∈ looks ops o) (hk : get (stAt s (ops.take m) xs i).t k = some av) : k < s.N ∧ R w j av (a.tmps.getD k Go.undef) := by
  have hokA := okA_spec ((drawOk_spec hok ho).2.1 him)
  have hil : i < ops.length := by omega
  by_cases hw : ∃ q oq, q < i ∧ ops[q]? = some oq ∧ oq.dst = some k
  · obtain ⟨q, oq, hq, hqo, hqd⟩ := hw
    have hdep := (hokA.1 k hkl q oq hqo hqd).1 hq
    obtain ⟨e, he1, he2, he3⟩ := depB_spec hdep
    have hlq := hall e he1 he3
    rw [he2, getD_tf hI.lsize (by omega)] at hlq
    rw [get_writ hok hmn (by omega) hqo hqd hq (by omega)] at hk
    have hk1 : get t1 k = some av := by
      rw [← hxs, get_writ hok hmn (by omega) hqo hqd (by omega) (Nat.le_refl _)]; exact hk
    exact hI.c1 q oq k av (by omega) hqo hqd hlq hk1
  · rw [get_unwrit (by omega) hw] at hk
    refine hI.c2 k av (fun q oq h1 h2 h3 => ?_) hk
    rcases Nat.lt_trichotomy q i with h | h | h
    · exact absurd ⟨q, oq, h, h2, h3⟩ hw
    · subst h; exact h0
    · have hdep := (hokA.1 k hkl q oq h2 h3).2 h
      obtain ⟨e, he1, he2, he3⟩ := depB_spec hdep
      by_cases hb : listed.getD q true = true
      · have := hI.cl q oq h1 h2 hb e he1 he3
        rw [he2, getD_tf hI.lsize hil, h0] at this; cases this
      · simpa using hb

structure OwnH (P : Program) (ops : List Oper) (is : List (Nat × Nat)) (vs : List (AV × List Blk)) (s : St) (t1 : List (Nat × AV)) : Prop where
  len : is.length = vs.length
  act : ∀ k, k < is.length → ∃ o, ops[ixB is k]? = some o ∧ actA P o ⟨s.N, pAt is vs t1 k, s.σ ++ tAt vs k, s.mv⟩ fun r' σ' X => r' = (vs.getD k (.undef, [])).1 ∧ σ' = s.σ ++ (vs.getD k (.undef, [])).2 ∧ (X = [] ∨ X = [s.σ.length])
  av1 : scrub' [s.σ.length] t1 = t1
  av0 : scrub' [s.σ.length] s.t = s.t
  inN : ∀ k, k < is.length → dsB is k < s.N

theorem av_of {X : List Nat} {t : List (Nat × AV)} (h : scrub' X t = t) {k : Nat} {av : AV} (hk : get t k = some av) : av.avoids X = true := by
  rw [← h] at hk; exact (scrub'_spec hk).2

theorem phaseH (hok : drawOk ops m = true) (hmn : m ≤ ops.length) (hch : chainOk ops m is = true) {Q : Exit → St → Prop} {j0 : J0} {j1 : Js} {w1 : World} {s : St} {t1 : List (Nat × AV)}
    (hW : OwnH P ops is vs s t1) (hP : PureH P s ops m is t1) (hj0 : j0.js.length ≤ s.σ.length)
    (hK : evalOps P false ops (ops.drop m) ⟨s.N, pAt is vs t1 is.length, s.σ ++ tAt vs is.length, s.mv⟩ (Q .normal)) :
    ∀ (fuel : Nat) (j : Js) (a : Act) (w : World) (listed : Array Bool) (k0 : Nat), left listed ops.length = fuel → InvH s ops m is vs t1 j0 k0 listed j a w → Ev j1 w1 j w → wpAnyIn (FW j0.rd) 0 P .any ops.toArray (APost j0 j1 w1 Q) fuel listed a w := by
  have fin : ∀ (j : Js) (a : Act) (w : World) (listed : Array Bool) (k0 : Nat), (∀ q, q < m → listed.getD q true = true) → InvH s ops m is vs t1 j0 k0 listed j a w → Rel j0 ⟨s.N, pAt is vs t1 is.length, s.σ ++ tAt vs is.length, s.mv⟩ j a w := by
    intro j a w listed k0 hdone hI
    have hk0 : k0 = is.length := by
      rcases Nat.lt_or_ge k0 is.length with h | h
      · obtain ⟨_, _, _, _, h1, _⟩ := chainOk_spec hch h
        have h2 := hI.done k0 h
        rw [hdone _ h1] at h2
        simp at h2
      · have := hI.k0le; omega
    subst hk0
    have base : ∀ k av, get t1 k = some av → k < s.N ∧ R w j av (a.tmps.getD k Go.undef) := by
      intro k av hk
      by_cases hw : ∃ q oq, q < m ∧ ops[q]? = some oq ∧ oq.dst = some k
      · obtain ⟨q, oq, hq, hqo, hqd⟩ := hw
        exact hI.c1 q oq k av hq hqo hqd (hdone q hq) hk
      · obtain ⟨xs, hxs, _, _⟩ := hP.at_ []
        have hk' : get t1 k = some av := hk
        rw [← hxs, get_unwrit (Nat.le_refl _) hw] at hk'
        exact hI.c2 k av (fun q oq h1 h2 h3 => absurd ⟨q, oq, h1, h2, h3⟩ hw) hk'
    refine ⟨hI.defers, hI.rdok, hI.size, fun k av hk => ?_, hI.sto, hI.len0, hI.ag⟩
    change get (pAt is vs t1 is.length) k = some av at hk
    have hcur := hI.cur
    generalize is.length = n at hk hcur
    cases n with
    | zero => exact base k av hk
    | succ n =>
      simp only [pAt, get_put] at hk
      split at hk
      · rename_i hd
        subst hd
        obtain rfl := Option.some.inj hk
        exact hcur n rfl
      · exact base k av hk
  intro fuel
  induction fuel with
  | zero =>
    intro j a w listed k0 hf hI he
    have hall : ∀ k, k < ops.length → listed.getD k true = true := by
      intro k hk
      by_cases hb : listed.getD k true = true
      · exact hb
      · have : k ∈ (List.range ops.length).filter fun k => !listed.getD k true := by
          rw [List.mem_filter]; exact ⟨by simpa using hk, by simpa using hb⟩
        have h0 : (List.range ops.length).filter (fun k => !listed.getD k true) = [] := List.length_eq_zero_iff.1 hf
        rw [h0] at this; simp at this
    have hme : m = ops.length := by
      rcases Nat.lt_or_ge m ops.length with h | h
      · have := hall m h; rw [hI.lB m (Nat.le_refl _) h] at this; simp at this
      · omega
    exact phaseB hok 0 m _ j a w listed (by omega) (Nat.le_refl _) (by omega) hI.lsize (fun k hk b => by
      have h1 := hall k hk
      have hsz : k < listed.size := by rw [hI.lsize]; exact hk
      have h2 : listed[k] = true := by simpa [hsz] using h1
      simp [hsz, h2, show k < m by omega]) (fin j a w listed k0 (fun q hq => hall q (by omega)) hI) he hK
  | succ fuel ih =>
    intro j a w listed k0 hf hI he
    by_cases hdone : ∀ q, q < m → listed.getD q true = true
    · have hL : ∀ k, k < ops.length → ∀ b, listed.getD k b = decide (k < m) := by
        intro k hk b
        rcases Nat.lt_or_ge k m with h | h
        · have h1 := hdone k h
          have hsz : k < listed.size := by rw [hI.lsize]; exact hk
          have h2 : listed[k] = true := by simpa [hsz] using h1
          simp [hsz, h2, h]
        · rw [hI.lB k h hk]; simp; omega
      have hfuel : fuel + 1 = ops.length - m := by
        rw [← hf]
        unfold left
        have gen : ∀ n, n ≤ ops.length → ((List.range n).filter fun k => !listed.getD k true).length = n - m := by
          intro n
          induction n with
          | zero => simp
          | succ n ihn =>
            intro hn
            rw [List.range_succ, List.filter_append, List.length_append, ihn (by omega)]
            have h1 := hL n (by omega) true
            by_cases hnm : n < m
            · have : (List.filter (fun k => !listed.getD k true) [n]).length = 0 := by
                rw [List.filter_cons_of_neg (by rw [h1]; simp [hnm])]; simp
              omega
            · have : (List.filter (fun k => !listed.getD k true) [n]).length = 1 := by
                rw [List.filter_cons_of_pos (by rw [h1]; simp; omega)]; simp
              omega
        exact gen _ (Nat.le_refl _)
      exact phaseB hok (fuel + 1) m _ j a w listed hfuel.symm (Nat.le_refl _) (by omega) hI.lsize hL (fin j a w listed k0 hdone hI) he hK
    · have hex : ∃ q, q < m ∧ listed.getD q true = false ∧ ∀ p, p < q → listed.getD p true = true := by
        have hex0 : ∃ q, q < m ∧ listed.getD q true = false := by
          apply Classical.byContradiction
          intro hne
          apply hdone
          intro q hq
          by_cases hb : listed.getD q true = true
          · exact hb
          · exact absurd ⟨q, hq, by simpa using hb⟩ hne
        obtain ⟨q, hq1, hq2⟩ := hex0
        induction q using Nat.strongRecOn with
        | _ q ihq =>
          by_cases hall : ∀ p, p < q → listed.getD p true = true
          · exact ⟨q, hq1, hq2, hall⟩
          · have : ∃ p, p < q ∧ listed.getD p true = false := by
              apply Classical.byContradiction
              intro hne
              apply hall
              intro p hp
              by_cases hb : listed.getD p true = true
              · exact hb
              · exact absurd ⟨p, hp, by simpa using hb⟩ hne
            obtain ⟨p, hp1, hp2⟩ := this
            exact ihq p hp1 (by omega) hp2
      obtain ⟨q0, hq0, hq0l, hq0all⟩ := hex
      have hlt0 : q0 < ops.length := by omega
      have hready : q0 ∈ Region.ready .any ops.toArray listed := by
        rw [mem_ready]
        refine ⟨hq0l, ops[q0], by simp [hlt0], fun e he hb => ?_⟩
        have h1 := (drawOk_spec hok (i := q0) (o := ops[q0]) (by simp [hlt0])).1 e he hb
        rw [getD_tf hI.lsize (by omega)]
        exact hq0all e.on h1
      refine ⟨fun h0 => by rw [h0] at hready; simp at hready, fun i hi => ?_⟩
      rw [mem_ready] at hi
      obtain ⟨h0, o, ho, hall⟩ := hi
      have ho' : ops[i]? = some o := by simpa using ho
      have hil : i < ops.length := lt_of_getElem? ho'
      have him : i < m := by
        rcases Nat.lt_or_ge i m with h | h
        · exact h
        · have := depT_near (L := fun q => listed.getD q false) (fun q h1 h2 => hI.lB q h1 h2 false) (fun q oq h1 h2 h3 e he1 he2 => hI.cl q oq h1 h2 (by
            have hsz : q < listed.size := by rw [hI.lsize]; omega
            have h4 : listed[q] = true := by simpa [hsz] using h3
            simp [hsz, h4]) e he1 he2) ((drawOk_spec hok ho').2.2 h q0 (by omega)) hall
          simp only [getD_tf hI.lsize hlt0, hq0l] at this; cases this
      have hokA := okA_spec ((drawOk_spec hok ho').2.1 him)
      have hset0 : left (listed.setIfInBounds i true) ops.length = fuel := by
        have := left_set hI.lsize hil h0; omega
      have hszi : i < listed.size := by rw [hI.lsize]; exact hil
      have hseti : ∀ b, (listed.setIfInBounds i true).getD i b = true := by intro b; simp [hszi]
      -- the step, whatever it was
      have step : ∀ (j' : Js) (w' : World) (v : Value) (k1 : Nat) (X : List Nat), RelS w' j' (s.σ ++ tAt vs k1) → Ev j w j' w' → (X = [] ∨ X = [s.σ.length]) → Ag j j' X → j.length ≤ j'.length →
          k1 ≤ is.length → (∀ k, k < is.length → (listed.setIfInBounds i true).getD (ixB is k) true = decide (k < k1)) →
          (∀ k, k + 1 = k1 → dsB is k < s.N ∧ R w' j' (vs.getD k (.undef, [])).1 ((a.put o.dst v).tmps.getD (dsB is k) Go.undef)) →
          (∀ k av, o.dst = some k → get t1 k = some av → k < s.N ∧ R w' j' av v) → wpAnyIn (FW j0.rd) 0 P .any ops.toArray (APost j0 j1 w1 Q) fuel (listed.setIfInBounds i true) (a.put o.dst v) w' := by
        intro j' w' v k1 X hsto hev hX hagj hlj hk1 hdn hcu hv
        have oth : ∀ {k}, o.dst ≠ some k → (a.put o.dst v).tmps.getD k Go.undef = a.tmps.getD k Go.undef := by
          intro k hne
          cases hd : o.dst with
          | none => rfl
          | some d =>
            have hdk : d ≠ k := fun h => hne (by rw [hd, h])
            simp [Act.put, Array.getD_eq_getD_getElem?, Array.getElem?_setIfInBounds, hdk]
        have mono : ∀ {av : AV} {v : Value}, av.avoids [s.σ.length] = true → R w j av v → R w' j' av v := by
          intro av v hav hR
          rcases hX with rfl | rfl
          · exact hR.mono0 hev hI.sto.lt hagj
          · exact hR.mono hev hI.sto.lt hagj hav
        refine ih j' _ w' _ k1 hset0 ⟨?_, fun l hl => (by obtain ⟨r, hr⟩ := hI.rdok l hl; exact hev.lps l r hr), ?_, hsto, Nat.le_trans hI.len0 hlj, ?_, by simpa using hI.lsize, ?_, ?_, ?_, ?_, hk1, hdn, hcu⟩ (he.trans hev)
        · have := hI.defers.mono hev
          cases hd : o.dst <;> simpa [Act.put] using this
        · cases hd : o.dst <;> simp [Act.put, hI.size]
        · intro b hb hn
          rw [hagj b (by have := hI.len0; omega) (by rcases hX with rfl | rfl <;> simp; omega)]
          exact hI.ag b hb hn
        · intro k hk1 hk2 b
          rw [getD_set_ne b (by omega)]; exact hI.lB k hk1 hk2 b
        · intro q oq hq hqo hl e he1 he2
          by_cases hqi : i = q
          · subst hqi
            have : oq = o := by rw [ho'] at hqo; exact (Option.some.inj hqo).symm
            subst this
            exact getD_set_true (hall e he1 he2)
          · rw [getD_set_ne true hqi] at hl
            exact getD_set_true (hI.cl q oq hq hqo hl e he1 he2)
        · intro q oq k av hq hqo hqd hl hk
          by_cases hqi : i = q
          · subst hqi
            have : oq = o := by rw [ho'] at hqo; exact (Option.some.inj hqo).symm
            subst this
            have h1 := hv k av hqd hk
            simp only [Act.put, hqd]
            rw [R_setIfInBounds (w := w) (j := j) (by rw [hI.size]; exact h1.1), if_pos rfl]; exact h1
          · rw [getD_set_ne true hqi] at hl
            have h1 := hI.c1 q oq k av hq hqo hqd hl hk
            rw [oth (fun hd => hokA.2 q oq k hq (fun h => hqi h.symm) hqo hd hqd)]
            exact ⟨h1.1, mono (av_of hW.av1 hk) h1.2⟩
        · intro k av hk hg
          have hne : o.dst ≠ some k := fun hd => by
            have := hk i o him ho' hd
            rw [hseti] at this; cases this
          have h1 := hI.c2 k av (fun q oq h1 h2 h3 => by
            have hqi : i ≠ q := fun h => by subst h; rw [ho'] at h2; cases h2; exact hne h3
            have := hk q oq h1 h2 h3
            rwa [getD_set_ne true hqi] at this) hg
          rw [oth hne]; exact ⟨h1.1, mono (av_of hW.av0 hg) h1.2⟩
      have oth : ∀ {k} {v : Value}, o.dst ≠ some k → (a.put o.dst v).tmps.getD k Go.undef = a.tmps.getD k Go.undef := by
        intro k v hne
        cases hd : o.dst with
        | none => rfl
        | some d =>
          have hdk : d ≠ k := fun h => hne (by rw [hd, h])
          simp [Act.put, Array.getD_eq_getD_getElem?, Array.getElem?_setIfInBounds, hdk]
      simp only [wpOpIn, ho]
      by_cases hia : memB is i = true
      · -- one of the chain
        obtain ⟨k, hkl, rfl⟩ := memB_iff.1 hia
        obtain ⟨oa, hoa, hgd, hdst, _, hself, hlate, hprev⟩ := chainOk_spec hch hkl
        obtain rfl : o = oa := by rw [ho'] at hoa; exact Option.some.inj hoa
        obtain ⟨ob, hob, hact⟩ := hW.act k hkl
        obtain rfl : o = ob := by rw [ho'] at hob; exact Option.some.inj hob
        have hkk : k = k0 := by
          have h1 := hI.done k hkl
          rw [h0] at h1
          have h2 : k0 ≤ k := by simpa using h1
          rcases Nat.lt_or_ge k0 k with h3 | h3
          · obtain ⟨e, he1, he2, he3⟩ := depB_spec (hprev (by omega)).1
            have h4 := hall e he1 he3
            have h5 := chainOk_lt hch (a := k - 1) (b := k) (by omega) hkl
            rw [he2, getD_tf hI.lsize (by omega), hI.done (k - 1) (by omega)] at h4
            have : k - 1 < k0 := by simpa using h4
            omega
          · omega
        subst hkk
        obtain ⟨xs, hxs, hxa, hloc⟩ := hP.at_ []
        have base : ∀ q av, q ∈ looks ops o → get t1 q = some av → q < s.N ∧ R w j av (a.tmps.getD q Go.undef) := by
          intro q' av hkl hk
          by_cases hw : ∃ q oq, q < m ∧ ops[q]? = some oq ∧ oq.dst = some q'
          · obtain ⟨q, oq, hq, hqo, hqd⟩ := hw
            have hqi : q < ixB is k := by
              rcases Nat.lt_trichotomy q (ixB is k) with h | h | h
              · exact h
              · subst h; rw [ho'] at hqo; cases hqo; rw [hdst] at hqd; cases hqd; exact absurd hkl hself
              · exact absurd hkl (hlate q oq q' h hq hqo hqd)
            obtain ⟨e, he1, he2, he3⟩ := depB_spec ((hokA.1 q' hkl q oq hqo hqd).1 hqi)
            have hlq := hall e he1 he3
            rw [he2, getD_tf hI.lsize (by omega)] at hlq
            exact hI.c1 q oq q' av hq hqo hqd hlq hk
          · rw [← hxs, get_unwrit (Nat.le_refl _) hw] at hk
            exact hI.c2 q' av (fun q oq h1 h2 h3 => absurd ⟨q, oq, h1, h2, h3⟩ hw) hk
        have hr : Rel j0 ((⟨s.N, pAt is vs t1 k, s.σ ++ tAt vs k, s.mv⟩ : St).restr (looks ops o)) j a w := by
          refine ⟨hI.defers, hI.rdok, hI.size, fun q av hk => ?_, hI.sto, hI.len0, hI.ag⟩
          simp only [St.restr, get_restr] at hk
          split at hk
          · rename_i hkl
            have hkl : q ∈ looks ops o := by simpa using hkl
            have hcur := hI.cur
            generalize k = n at hk hcur
            cases n with
            | zero => exact base q av hkl hk
            | succ n =>
              simp only [pAt, get_put] at hk
              split at hk
              · rename_i hd
                subst hd
                obtain rfl := Option.some.inj hk
                exact hcur n rfl
              · exact base q av hkl hk
          · simp at hk
        have hw : Region.wanted o (yielded ops.toArray a.tmps) = true := by simp [Region.wanted, hgd]
        rw [if_pos hw]
        refine actA_sound hact hr fun v w' j' r' σ' X h6 h7 h8 h9 h10 h11 => ?_
        obtain ⟨rfl, rfl, hX⟩ := h11
        refine step j' w' v (k + 1) X h6 h8 hX h10 h9 hkl (fun q hq => ?_) (fun q hq => ?_) (fun q av hq hgt => ?_)
        · by_cases hqk : q = k
          · subst hqk; rw [hseti]; simp
          · rw [getD_set_ne true (fun h => hqk (chainOk_inj hch hq hkl h.symm)), hI.done q hq]
            congr 1; apply propext; omega
        · obtain rfl : q = k := by omega
          refine ⟨hW.inN q hkl, ?_⟩
          simp only [Act.put, hdst]
          rw [R_setIfInBounds (w := w) (j := j) (by rw [hI.size]; exact hW.inN q hkl), if_pos rfl]; exact h7
        · rw [← hxs, get_writ hok hmn him ho' hq him (Nat.le_refl _), hxa _ hia] at hgt
          split at hgt
          · rename_i hlt
            obtain rfl : AV.undef = av := Option.some.inj hgt
            exact ⟨hlt, .undef _⟩
          · simp at hgt
      · -- one that computes
        have hia : memB is i = false := by simpa using hia
        obtain ⟨xs, hxs, hxa, hloc⟩ := hP.at_ (tAt vs k0)
        have hL := hloc i o him ho' hia
        have hrel : Rel j0 ((⟨s.N, (stAt s (ops.take m) xs i).t, s.σ ++ tAt vs k0, s.mv⟩ : St).restr (looks ops o)) j a w := by
          refine ⟨hI.defers, hI.rdok, hI.size, fun k av hk => ?_, hI.sto, hI.len0, hI.ag⟩
          simp only [St.restr, get_restr] at hk
          split at hk
          · rename_i hkl
            exact hI.looks_rel hok hmn hxs him ho' h0 hall (by simpa using hkl) hk
          · simp at hk
        have hdn : ∀ k, k < is.length → (listed.setIfInBounds i true).getD (ixB is k) true = decide (k < k0) := by
          intro k hk
          rw [getD_set_ne true (fun h => by
            have := memB_iff.2 ⟨k, hk, h.symm⟩
            rw [hia] at this; cases this), hI.done k hk]
        have hcu : ∀ (w' : World) (v : Value), Ev j w j w' → ∀ k, k + 1 = k0 → dsB is k < s.N ∧ R w' j (vs.getD k (.undef, [])).1 ((a.put o.dst v).tmps.getD (dsB is k) Go.undef) := by
          intro w' v hev k hk
          have h1 := hI.cur k hk
          have hkl : k < is.length := by have := hI.k0le; omega
          obtain ⟨oa, hoa, _, hdst, hlt, _⟩ := chainOk_spec hch hkl
          have hne : o.dst ≠ some (dsB is k) := fun hd => hokA.2 (ixB is k) oa _ hlt (fun h => by
            have := memB_iff.2 ⟨k, hkl, h⟩
            rw [hia] at this; cases this) hoa hd hdst
          rw [oth hne]
          exact ⟨h1.1, h1.2.mono0 hev hI.sto.lt (.refl _ _)⟩
        have hval : ∀ (w' : World) (v : Value), R w' j (xs i) v → ∀ k av, o.dst = some k → get t1 k = some av → k < s.N ∧ R w' j av v := by
          intro w' v hr k av hk hgt
          rw [← hxs, get_writ hok hmn him ho' hk him (Nat.le_refl _)] at hgt
          split at hgt
          · rename_i hlt
            obtain rfl : xs i = av := Option.some.inj hgt
            exact ⟨hlt, hr⟩
          · simp at hgt
        by_cases hw : Region.wanted o (yielded ops.toArray a.tmps) = true
        · rw [if_pos hw]
          exact hL.run j0 j a w _ _ hrel hw fun w' v h1 h2 h3 => step j w' v k0 [] h1 h2 (.inl rfl) (.refl _ _) (Nat.le_refl _) hI.k0le hdn (hcu w' v h2) (hval w' v h3)
        · rw [if_neg hw]
          exact ⟨fun _ _ => trivial, step j w Go.undef k0 [] hI.sto (.refl _ _) (.inl rfl) (.refl _ _) (Nat.le_refl _) hI.k0le hdn (hcu w _ (.refl _ _)) (hval w _ (hL.skip j0 j a w hrel (by simpa using hw)))⟩

end

/-- the operations of the chain, one behind the other -/
def chainA (P : Program) (ops : List Oper) (N : Nat) (t1 : List (Nat × AV)) (σ : List Blk) (mv : List Nat) (t : List (Nat × AV)) (τ : List Blk) : List (Nat × Nat) → List (AV × List Blk) → Prop
  | [], [] => True
  | (i, d) :: is, (r, τ') :: vs => (match nthOp ops i with
    | some o => actA P o ⟨N, t, σ ++ τ, mv⟩ fun r' σ' X => r' = r ∧ σ' = σ ++ τ' ∧ (X = [] ∨ X = [σ.length])
    | none => False) ∧ chainA P ops N t1 σ mv (put t1 d r) τ' is vs
  | _, _ => False

theorem chainA_get {P : Program} {ops : List Oper} {N : Nat} {t1 : List (Nat × AV)} {σ : List Blk} {mv : List Nat} : ∀ {is : List (Nat × Nat)} {vs : List (AV × List Blk)} {t : List (Nat × AV)} {τ : List Blk}, chainA P ops N t1 σ mv t τ is vs →
    is.length = vs.length ∧ ∀ k, k < is.length → ∃ o, ops[ixB is k]? = some o ∧ actA P o ⟨N, (match k with | 0 => t | k + 1 => put t1 (dsB is k) (vs.getD k (.undef, [])).1), σ ++ (match k with | 0 => τ | k + 1 => (vs.getD k (.undef, [])).2), mv⟩ fun r' σ' X => r' = (vs.getD k (.undef, [])).1 ∧ σ' = σ ++ (vs.getD k (.undef, [])).2 ∧ (X = [] ∨ X = [σ.length])
  | [], [], t, τ, h => ⟨rfl, fun k hk => by simp at hk⟩
  | (i, d) :: is, (r, τ') :: vs, t, τ, h => by
    simp only [chainA] at h
    obtain ⟨h1, h2⟩ := h
    rw [nthOp_eq] at h1
    obtain ⟨h3, h4⟩ := chainA_get h2
    refine ⟨by simp [h3], fun k hk => ?_⟩
    cases k with
    | zero =>
      split at h1
      · rename_i o ho
        exact ⟨o, ho, h1⟩
      · exact h1.elim
    | succ k =>
      obtain ⟨o, ho, ha⟩ := h4 k (by simpa using hk)
      refine ⟨o, by simpa [ixB] using ho, ?_⟩
      cases k with
      | zero => exact ha
      | succ k => exact ha
  | [], _ :: _, _, _, h => by simp [chainA] at h
  | (_, _) :: _, [], _, _, h => by simp [chainA] at h

theorem awp_chain {P : Program} {Q : Exit → St → Prop} {N : Nat} {t : List (Nat × AV)} {σ : List Blk} {mv : List Nat} {id : Nat} {ops : List Oper} (m : Nat) (is : List (Nat × Nat)) (vs : List (AV × List Blk)) (hm : P.follows .mixedOrders = true) (hok : (drawOk ops m && Nat.ble m ops.length && chainOk ops m is) = true) {t1 : List (Nat × AV)}
    (h1 : ∀ (τ : List Blk) (K : St → Prop), (∀ σ' mv', K ⟨N, t1, σ', mv'⟩) → evalH P ops is (ops.take m) 0 ⟨N, t, σ ++ τ, mv⟩ K)
    (hN : (is.all fun p => Nat.blt p.2 N) = true) (ha : scrub' [σ.length] t1 = t1) (hb : scrub' [σ.length] t = t)
    (h2 : chainA P ops N t1 σ mv t1 [] is vs)
    (h3 : evalOps P false ops (ops.drop m) ⟨N, pAt is vs t1 is.length, σ ++ tAt vs is.length, mv⟩ (Q .normal)) : AWP P (.region id ops.toArray true) Q ⟨N, t, σ, mv⟩ := by
  intro j0 j a w hr
  simp only [Bool.and_eq_true, Nat.ble_eq] at hok
  obtain ⟨⟨hok, hmn⟩, hch⟩ := hok
  have hP : PureH P ⟨N, t, σ, mv⟩ ops m is t1 := ⟨fun τ => by
    have h := h1 τ (fun s' => s'.t = t1) (fun _ _ => rfl)
    have hlen : (ops.take m).length = m := by simp; omega
    obtain ⟨xs, hK, hia, hloc⟩ := unrollH h
    have hext := stAt_ext ⟨N, t, σ, mv⟩ τ (ops.take m) xs
    refine ⟨xs, ?_, fun i hi => hia i (by simpa using hi), fun i o him ho h3 => ?_⟩
    · rw [hlen, hext] at hK; exact hK
    · have := hloc i o (by rw [take_get him]; exact ho) (by simpa using h3)
      rw [hext] at this; exact this⟩
  have hr' : Rel j0 ⟨N, t, σ, mv⟩ j a w.drew := hr.after (ev_drew j w) hr.sto.drew (Nat.le_refl _) (.refl _ [])
  have hf : ∀ k b, k < ops.length → (Array.replicate ops.toArray.size false).getD k b = false := by
    intro k b hk; simp [hk]
  obtain ⟨hlen, hact⟩ := chainA_get h2
  have hW : OwnH P ops is vs ⟨N, t, σ, mv⟩ t1 := ⟨hlen, fun k hk => by
    obtain ⟨o, ho, h⟩ := hact k hk
    refine ⟨o, ho, ?_⟩
    cases k with
    | zero => exact h
    | succ k => exact h, ha, hb, fun k hk => by
    simp only [List.all_eq_true] at hN
    have := hN (is.getD k (0, 0)) (by simp [hk])
    simpa [dsB] using this⟩
  refine wpIn_region_any hm ?_
  refine phaseH hok hmn hch hW hP (by have := hr.len0; rw [hr.sto.len] at this; exact this) h3 _ j a w.drew _ 0 ?_ ⟨hr'.defers, hr'.rdok, hr'.size, ?_, hr'.len0, hr'.ag, by simp, fun k _ hk b => hf k b hk, fun q oq hq hqo hl => ?_, fun q oq k av hq hqo hd hl => ?_, fun k av _ hk => hr'.tmp k av hk, Nat.zero_le _, fun k hk => ?_, fun k hk => by omega⟩ (ev_drew j w)
  · unfold left
    have : (List.range ops.length).filter (fun k => !(Array.replicate ops.toArray.size false).getD k true) = List.range ops.length := by
      apply List.filter_eq_self.2
      intro k hk
      rw [hf k true (by simpa using hk)]; rfl
    rw [this]; simp
  · simp only [tAt, List.append_nil]; exact hr'.sto
  · rw [hf q true (by omega)] at hl; cases hl
  · rw [hf q true (by omega)] at hl; cases hl
  · obtain ⟨_, _, _, _, h4, _⟩ := chainOk_spec hch hk
    rw [hf _ true (by omega)]; simp

theorem awp_chain_seq {P : Program} {Q : Exit → St → Prop} {N : Nat} {t : List (Nat × AV)} {σ : List Blk} {mv : List Nat} {id : Nat} {ops : List Oper} {y : Code} (m : Nat) (is : List (Nat × Nat)) (vs : List (AV × List Blk)) (hm : P.follows .mixedOrders = true) (hok : (drawOk ops m && Nat.ble m ops.length && chainOk ops m is) = true) {t1 : List (Nat × AV)}
    (h1 : ∀ (τ : List Blk) (K : St → Prop), (∀ σ' mv', K ⟨N, t1, σ', mv'⟩) → evalH P ops is (ops.take m) 0 ⟨N, t, σ ++ τ, mv⟩ K)
    (hN : (is.all fun p => Nat.blt p.2 N) = true) (ha : scrub' [σ.length] t1 = t1) (hb : scrub' [σ.length] t = t)
    (h2 : chainA P ops N t1 σ mv t1 [] is vs)
    (h3 : ∀ K : St → Prop, (∀ s', AWP P y Q s' → K s') → evalOps P false ops (ops.drop m) ⟨N, pAt is vs t1 is.length, σ ++ tAt vs is.length, mv⟩ K) : AWP P (.seq (.region id ops.toArray true) y) Q ⟨N, t, σ, mv⟩ :=
  awp_seq (awp_chain m is vs hm hok h1 hN ha hb h2 (h3 _ fun s' h => h))

def RestH (P : Program) (all : List Oper) (is : List (Nat × Nat)) (os : List Oper) (i : Nat) (K : St → Prop) (s : St) : Prop := evalH P all is os i s K
theorem evalH_nil (P : Program) (all : List Oper) (is : List (Nat × Nat)) (i : Nat) (s : St) (K : St → Prop) : evalH P all is [] i s K = K s := rfl
theorem evalH_cons (P : Program) (all os : List Oper) (is : List (Nat × Nat)) (i : Nat) (o : Oper) (s : St) (K : St → Prop) : evalH P all is (o :: os) i s K = if memB is i then RestH P all is os (i + 1) K (s.put o.dst .undef)
    else guardA all s o fun gd g => opA P true gd g o s (RestH P all is os (i + 1) K) := rfl
theorem RestH_mk (P : Program) (all os : List Oper) (is : List (Nat × Nat)) (i : Nat) (K : St → Prop) (N : Nat) (t : List (Nat × AV)) (σ : List Blk) (mv : List Nat) : RestH P all is os i K ⟨N, t, σ, mv⟩ = evalH P all is os i ⟨N, t, σ, mv⟩ K := rfl
attribute [go_sem ↓] evalH_nil evalH_cons RestH_mk chainA actA
attribute [go_sem] RestH_mk memB pAt tAt dsB
end Go.Abs

/-! Axq -/
namespace Go.Abs
set_option linter.unusedVariables false
set_option linter.unusedSimpArgs false

theorem ms_apart {w : World} {j : Js} {σ : List Blk} (hS : RelS w j σ) {b sz lo k n' : Nat} {row : Nat → List D} (hb : σ[b]? = some (.arr sz n' row)) (hk : 0 < k) (hz : 0 < sz) {v : Value} (h : R w j (.ms b sz lo k) v) :
    ∃ (c cb off : Nat) (e : TypeId) (m : Nat), v = .slice (some ⟨cb, off, none⟩) k c ∧ j[b]? = some (some cb) ∧ w.shape? cb = some (e, m) ∧ m ≠ 0 ∧ (∀ o, w.frozen? ⟨cb, o, none⟩ = false) := by
  cases h with
  | @ms _ _ _ _ cb c e m h1 h2 h3 h4 =>
    refine ⟨_, cb, _, e, m, rfl, h1, h2, ?_, fun o => ?_⟩
    · have : 0 < (lo + c) * sz := Nat.mul_pos (by omega) (by omega)
      omega
    · obtain ⟨o', ho, hB⟩ := hS.blk b _ hb
      rw [h1] at ho
      cases ho
      obtain ⟨C, e', hC, _⟩ := hB
      simp [World.frozen?, hC]
  | ms0 p h1 => omega
  | msE p e m h1 h2 h3 h4 => omega

theorem XS.overlaps {P : Program} {f : FuncId} (fn : Func) (tS tR : TypeId) (e : TypeId) (size : Nat) (hf : P.funcs[f]? = some fn) (hname : (fn.name == "runtime.NumGoroutine") = false) (hbody : fn.body.isNone = true) (hn : Extern.findNext fn = none)
    (he : Extern.find fn = some (Extern.SlicesOverlaps.overlaps #[tS, tS] #[tR])) (ht : P.underlying tS = some (.slice e)) (hz : ∀ w, (Go.sizeOf e).run P w = .ok size w) {σ : List Blk} {a b sz sz' lo lo' k k' n n' : Nat} {row row' : Nat → List D}
    (hne : a ≠ b) (ha : σ[a]? = some (.arr sz n row)) (hb : σ[b]? = some (.arr sz' n' row')) (hk : 0 < k) (hk' : 0 < k') (hs : 0 < sz) (hs' : 0 < sz') : XS P f [.ms a sz lo k, .ms b sz' lo' k'] σ (.d (.v (.bool false))) := by
  intro j w vs hS hrs
  have h0 := hrs.2 0 (by simp)
  have h1 := hrs.2 1 (by simp)
  have hs : vs.size = 2 := hrs.1
  have hvs : vs = #[vs.getD 0 Go.undef, vs.getD 1 Go.undef] := by
    apply Array.ext
    · simp [hs]
    · intro i hi1 hi2
      rw [hs] at hi1
      rcases i with _ | _ | i
      · simp [Array.getD_eq_getD_getElem?, hs]
      · simp [Array.getD_eq_getD_getElem?, hs]
      · omega
  generalize vs.getD 0 Go.undef = v0 at h0 hvs
  generalize vs.getD 1 Go.undef = v1 at h1 hvs
  subst hvs
  refine ⟨.bool false, ?_, .d (.v _)⟩
  rw [run_callFunc_extern hf hname hbody hn he]
  obtain ⟨c, ca, off, e1, m1, rfl, hj, h2, h3, h4⟩ := ms_apart hS ha hk (by omega) (by simpa using h0)
  obtain ⟨c', cb, off', e2, m2, rfl, hj', h2', h3', h4'⟩ := ms_apart hS hb hk' (by omega) (by simpa using h1)
  rw [Lib.run_overlaps_apart w tS tR e ht size hz ⟨ca, off, none⟩ ⟨cb, off', none⟩ k c k' c' (fun h => hne (hS.inj a b ca hj (by rw [hj']; simpa using h.symm))) e1 e2 m1 m2 h2 h2' h3' (h4 off) (h4 m1)]
  rfl

theorem XS.overlapsC {P : Program} {f : FuncId} (fn : Func) (tS tR : TypeId) (e : TypeId) (size : Nat) (hf : P.funcs[f]? = some fn) (hname : (fn.name == "runtime.NumGoroutine") = false) (hbody : fn.body.isNone = true) (hn : Extern.findNext fn = none)
    (he : Extern.find fn = some (Extern.SlicesOverlaps.overlaps #[tS, tS] #[tR])) (ht : P.underlying tS = some (.slice e)) (hz : ∀ w, (Go.sizeOf e).run P w = .ok size w) {σ : List Blk} {a b sz sz' lo lo' k k' c n n' : Nat} {row row' : Nat → List D}
    (hne : a ≠ b) (ha : σ[a]? = some (.arr sz n row)) (hb : σ[b]? = some (.arr sz' n' row')) (hk : 0 < k) (hk' : 0 < k') (hs : 0 < sz) (hs' : 0 < sz') : XS P f [.ms a sz lo k, .mc b sz' lo' k' c] σ (.d (.v (.bool false))) := by
  intro j w vs hS hrs
  refine XS.overlaps fn tS tR e size hf hname hbody hn he ht hz hne ha hb hk hk' hs hs' (lo := lo) (lo' := lo') j w vs hS ⟨hrs.1, fun q hq => ?_⟩
  have := hrs.2 q (by simpa using hq)
  rcases q with _ | _ | q
  · simpa using this
  · have h : R w j (.mc b sz' lo' k' c) (vs.getD 1 Go.undef) := by simpa using this
    show R w j (.ms b sz' lo' k') (vs.getD 1 Go.undef)
    generalize vs.getD 1 Go.undef = v at h
    cases h with
    | mc h q' hq' => exact h
  · simp at hq; omega

/-- the entry at two slices, the second of which lies in plain memory of its own -/
theorem run_apart {P : Program} (w : World) {tS tR e : TypeId} {size : Nat} (ht : P.underlying tS = some (.slice e)) (hz : ∀ w, (Go.sizeOf e).run P w = .ok size w) (a b : Addr) (la ca lb cb : Nat) (hne : a.block ≠ b.block)
    {tA tB : TypeId} {kA kB : Nat} (hsa : w.shape? a.block = some (tA, kA)) (hsb : w.shape? b.block = some (tB, kB)) (hkA : kA ≠ 0) (hkB : kB ≠ 0) (hfb : w.frozen? b = false) (hfe : w.frozen? { block := b.block, off := kB } = false) :
    (Extern.SlicesOverlaps.overlaps #[tS, tS] #[tR] #[.slice (some a) la ca, .slice (some b) lb cb]).run P w = .ok (.bool false) w := by
  have hnb : (a.block != b.block) = true := by simpa using hne
  have hnb' : (a.block == b.block) = false := by simpa using hne
  have step : ∀ {α β : Type} (x : Sem α) (f : α → Sem β) (v : α), x.run P w = .ok v w → (Bind.bind x f).run P w = (f v).run P w := by
    intro α β x f v h
    simp [h]
  refine (step (underlying tS) _ _ (run_underlying ht w)).trans ?_
  refine (step (sizeOf e) _ _ (hz w)).trans ?_
  cases kA with
  | zero => exact absurd rfl hkA
  | succ kA =>
  cases kB with
  | zero => exact absurd rfl hkB
  | succ kB =>
    by_cases h0 : la = 0 ∨ lb = 0 ∨ size = 0
    · simp [h0]
    · cases hfa : w.frozen? a <;> cases hfc : w.frozen? { block := a.block, off := kA + 1 } <;>
        simp [h0, hnb, hnb', frozen, noView, viewAt, mayBeOne, stringish, shape, Sem.run, hsa, hsb, hfa, hfc, hfb, hfe]

theorem XS.overlapsD {P : Program} {f : FuncId} (fn : Func) (tS tR : TypeId) (e : TypeId) (size : Nat) (hf : P.funcs[f]? = some fn) (hname : (fn.name == "runtime.NumGoroutine") = false) (hbody : fn.body.isNone = true) (hn : Extern.findNext fn = none)
    (he : Extern.find fn = some (Extern.SlicesOverlaps.overlaps #[tS, tS] #[tR])) (ht : P.underlying tS = some (.slice e)) (hz : ∀ w, (Go.sizeOf e).run P w = .ok size w) {σ : List Blk} {q : Option Nat} {b sz sz' lo' k k' c n' : Nat} {row row' : Nat → List D}
    (hb : σ[b]? = some (.arr sz' n' row')) (hk : 0 < k) (hk' : 0 < k') (hs : 0 < sz) (hs' : 0 < sz') : XS P f [.d (.sl q sz k row), .mc b sz' lo' k' c] σ (.d (.v (.bool false))) := by
  intro j w vs hS hrs
  have h0 := hrs.2 0 (by simp)
  have h1 := hrs.2 1 (by simp)
  have hs : vs.size = 2 := hrs.1
  have hvs : vs = #[vs.getD 0 Go.undef, vs.getD 1 Go.undef] := by
    apply Array.ext
    · simp [hs]
    · intro i hi1 hi2
      rw [hs] at hi1
      rcases i with _ | _ | i
      · simp [Array.getD_eq_getD_getElem?, hs]
      · simp [Array.getD_eq_getD_getElem?, hs]
      · omega
  generalize vs.getD 0 Go.undef = v0 at h0 hvs
  generalize vs.getD 1 Go.undef = v1 at h1 hvs
  subst hvs
  refine ⟨.bool false, ?_, .d (.v _)⟩
  rw [run_callFunc_extern hf hname hbody hn he]
  have h0 : R w j (.d (.sl q sz k row)) v0 := by simpa using h0
  have h1 : R w j (.mc b sz' lo' k' c) v1 := by simpa using h1
  have h1 : R w j (.ms b sz' lo' k') v1 := by cases h1 with | mc h _ _ => exact h
  obtain ⟨c', cb, off', e2, m2, rfl, hj', h2', h3', h4'⟩ := ms_apart hS hb hk' (by omega) h1
  cases h0 with
  | d h0 =>
  cases h0 with
  | zero p c hcap hp => omega
  | sl a c val hcap hle ha hlt hbj hlen hcell hrel =>
    have hsa : ∃ e2 m2, w.shape? a.block = some (e2, m2) ∧ m2 ≠ 0 := by
      have := hcell 0 hk 0 (by omega)
      simp only [World.cell?] at this
      unfold World.shape?
      split at this
      · rename_i C e2 f2 hC; exact ⟨e2, C.size, by simp [hC], fun h => by split at this <;> simp_all⟩
      · cases this
    obtain ⟨e1, m1, hsa, hm1⟩ := hsa
    rw [run_apart w ht hz a ⟨cb, off', none⟩ k c k' c' (fun h => hbj (by rw [h]; exact List.mem_of_getElem? hj')) hsa h2' hm1 h3' (h4' off') (h4' m2)]
    rfl

end Go.Abs

/-! Cq -/
namespace Go.Proofs.YtnbokgmimbeihaaGreatDoor
open Go.Abs Go.Arch
set_option linter.unusedVariables false
set_option linter.unusedSimpArgs false
set_option maxRecDepth 100000
set_option maxHeartbeats 1000000

theorem leaves_dead0 {σ τ : List Blk} {x : Blk} (Y : List Nat) : Abs.Leaves (σ ++ x :: τ) (σ.map (scrubV Y) ++ .dead :: τ.map (scrubV Y)) := by
  refine ⟨by simp, fun b z hz => ?_⟩
  rw [List.getElem?_append] at hz ⊢
  simp only [List.length_map] at hz
  split at hz
  · rename_i hb
    rw [if_pos hb]
    simp only [List.getElem?_map, Option.map_eq_some_iff] at hz
    obtain ⟨y', h1, rfl⟩ := hz
    exact .inr (.inr ⟨Y, y', h1, rfl⟩)
  · rename_i hb
    rw [if_neg hb]
    generalize b - σ.length = k at hz
    rcases k with _ | k
    · simp at hz; subst hz; exact .inr (.inl trivial)
    · simp only [List.getElem?_cons_succ, List.getElem?_map, Option.map_eq_some_iff] at hz ⊢
      obtain ⟨y', h1, rfl⟩ := hz
      exact .inr (.inr ⟨Y, y', h1, rfl⟩)

/-- a told capacity is forgotten -/
theorem awp_uncap {P : Program} {c : Code} {Q : Exit → St → Prop} {N : Nat} {t : List (Nat × AV)} {σ : List Blk} {mv : List Nat} (k : Nat) {b sz lo n q : Nat} (hk : Abs.get t k = some (.mc b sz lo n q)) (h : AWP P c Q ⟨N, Abs.put t k (.ms b sz lo n), σ, mv⟩) : AWP P c Q ⟨N, t, σ, mv⟩ := by
  intro j0 j a w hr
  refine h j0 j a w ⟨hr.defers, hr.rdok, hr.size, fun k' av hk' => ?_, hr.sto, hr.len0, hr.ag⟩
  simp only at hk'
  rw [get_put] at hk'
  split at hk'
  · rename_i e
    subst e
    simp only [Option.some.injEq] at hk'
    subst hk'
    obtain ⟨h1, h2⟩ := hr.tmp k _ hk
    cases h2 with | mc h2 _ _ => exact ⟨h1, h2⟩
  · exact hr.tmp k' av hk'

def insG {α : Type} (g : Nat → α) (i : Nat) (x : α) (q : Nat) : α := if q < i then g q else if q = i then x else g (q - 1)


theorem insertDif_cs (σ : List Blk) (τ : List Blk) (n : Nat) (g : Nat → Dif) (x : Dif) (i : Nat) (hi : i ≤ n) (hn : n < 1000000000) : CS Tryz.prog 55 [.ms σ.length 2 0 n, .d (I i), .d (.sl (some 1) 2 1 (rowsOf 2 (Dif.enc x)))] (σ ++ .arr 2 n (fun i => Dif.enc (g i)) :: τ) (fun r σ' X' => X' = [σ.length] ∧ r = .d (SL none 2 Dif.enc (n + 1) (insG g i x)) ∧ σ' = σ.map (scrubV [σ.length]) ++ .dead :: τ.map (scrubV [σ.length])) := by
  have h1 : ((i : Int) + 1).toNat = i + 1 := by omega
  have h2 : ((n : Int) + 1 - (i : Int)).toNat = n + 1 - i := by omega
  have h3 : i + (n + 1 - i) = n + 1 := by omega
  have h4 : ((n : Int) + 1 - ((i : Int) + 1)).toNat = n - i := by omega
  have h5 : ((n : Int) - (i : Int)).toNat = n - i := by omega
  have h6 : ((n : Int) + 1).toNat = n + 1 := by omega
  have h7 : min (n + 1 - i) (n - i) = n - i := by omega
  refine CS.of_bodyD [σ.length] T.en55 Tryz.func55 rfl (by simp [Tryz.ntmps55]) fun hwf => ?_
  refine awp_reg_seq fun K hK => ?_
  simp [go_sem, Tryz.ntmps55, h1, h2, h3, h4, h5, h6, h7, hi]
  repeat refine ⟨by omega, ?_⟩
  refine hK _ ?_; clear hK K
  refine awp_reg_seq fun K hK => ?_
  simp [go_sem, h1, h2, h3, h4, h5, h6, h7, hi]
  repeat refine ⟨by omega, ?_⟩
  refine hK _ ?_; clear hK K
  refine awp_reg_seq fun K hK => ?_
  simp [go_sem, h1, h2, h3, h4, h5, h6, h7, hi]
  repeat refine ⟨by omega, ?_⟩
  refine hK _ ?_; clear hK K
  refine awp_seq ?_
  refine awp_reg_seq fun K hK => ?_
  simp [go_sem, h1, h2, h3, h4, h5, h6, h7, hi]
  repeat refine ⟨by omega, ?_⟩
  refine hK _ ?_; clear hK K
  refine awp_forget [0, 1, 2, 7, 16] (by simp only [restr, List.contains_cons, List.contains_nil, Nat.reduceBEq, Bool.or_false, Bool.or_true, Bool.true_or, Bool.false_or, if_true, if_false, Bool.false_eq_true]; rfl) ?_
  refine awp_cond rfl (fun c0 => ?_) (fun c0 => ?_)
  · have d0 := c0; try simp at d0
  · have d0 := c0; try simp at d0
    refine awp_skip ?_
    refine awp_reg_seq fun K hK => ?_
    simp [go_sem, h1, h2, h3, h4, h5, h6, h7, hi, c0, d0]
    repeat refine ⟨by omega, ?_⟩
    refine hK _ ?_; clear hK K
    refine awp_seq ?_
    refine awp_reg_seq fun K hK => ?_
    simp [go_sem, h1, h2, h3, h4, h5, h6, h7, hi, c0, d0]
    repeat refine ⟨by omega, ?_⟩
    refine hK _ ?_; clear hK K
    refine awp_forget [0, 1, 2, 7, 8, 22] (by simp only [restr, List.contains_cons, List.contains_nil, Nat.reduceBEq, Bool.or_false, Bool.or_true, Bool.true_or, Bool.false_or, if_true, if_false, Bool.false_eq_true]; rfl) ?_
    refine awp_cond rfl (fun c1 => ?_) (fun c1 => ?_)
    · have d1 := c1; try simp at d1
      obtain rfl : n = i := by omega
      refine awp_reg_seq fun K hK => ?_
      simp [go_sem, h1, h2, h3, h4, h5, h6, h7, hi, c0, d0, c1, d1, hwf.one, hwf.zero]
      repeat refine ⟨by omega, ?_⟩
      refine hK _ ?_; clear hK K
      refine awp_rows σ.length (fun q => Dif.enc (insG g n x q)) (by simp [go_sem]; first | exact ⟨rfl, rfl, rfl⟩ | exact ⟨rfl, rfl⟩ | rfl) (by intro q hq; unfold catRows insG; split; rfl; rw [if_pos (show q = n by omega), show q - n = 0 by omega]; simp [rowsOf, Dif.enc]) (by simp [go_sem]; rfl) ?_
      refine awp_dead σ.length (by simp [go_sem]; first | exact ⟨rfl, rfl, rfl⟩ | exact ⟨rfl, rfl⟩ | rfl) (by simp [go_sem]; rfl) (by simp [go_sem]; rfl) ?_
      refine awp_ret ?_
      simp [go_sem, Tryz.results55, scrubV_comp]
      first | exact leaves_dead0 _ | exact ⟨⟨[], by simp⟩, leaves_dead0 _⟩
    · have d1 := c1; try simp at d1
      have hlt : i < n := by omega
      refine awp_skip ?_
      refine awp_seq ?_
      refine awp_mc 0 (by simp [go_sem]; first | exact ⟨rfl, rfl, rfl, rfl⟩ | rfl) fun q hq => ?_
      refine awp_reg_seq fun K hK => ?_
      simp [go_sem, h1, h2, h3, h4, h5, h6, h7, hi, c0, d0, c1, d1]
      try simp (disch := omega) only [wrapI]
      repeat refine ⟨by omega, ?_⟩
      refine hK _ ?_; clear hK K
      refine awp_forget [0, 1, 2, 7, 8, 31] (by simp only [restr, List.contains_cons, List.contains_nil, Nat.reduceBEq, Bool.or_false, Bool.or_true, Bool.true_or, Bool.false_or, if_true, if_false, Bool.false_eq_true]; rfl) ?_
      refine awp_cond rfl (fun c2 => ?_) (fun c2 => ?_)
      · have d2 := c2; try simp at d2
        have hqn : q = n := by omega
        subst hqn
        refine awp_reg_seq fun K hK => ?_
        simp [go_sem, h1, h2, h3, h4, h5, h6, h7, hi, c0, d0, c1, d1, c2, d2, hwf.one, hwf.zero]
        try simp (disch := omega) only [wrapI]
        repeat refine ⟨by omega, ?_⟩
        refine hK _ ?_; clear hK K
        refine awp_reg_seq fun K hK => ?_
        simp [go_sem, h1, h2, h3, h4, h5, h6, h7, hi, c0, d0, c1, d1, c2, d2, hwf.one, hwf.zero]
        repeat refine ⟨by omega, ?_⟩
        refine hK _ ?_; clear hK K
        refine awp_draw_seq 8 T.mixed (by kernel_rfl) fun K hK => ?_
        simp [go_sem, h1, h2, h3, h4, h5, h6, h7, hi, c0, d0, c1, d1, c2, d2, hwf.one, hwf.zero]
        try simp (disch := omega) only [wrapI]
        repeat refine ⟨by omega, ?_⟩
        refine hK _ ?_; clear hK K
        refine awp_reg_seq fun K hK => ?_
        simp [go_sem, h1, h2, h3, h4, h5, h6, h7, hi, c0, d0, c1, d1, c2, d2]
        repeat refine ⟨by omega, ?_⟩
        refine hK _ ?_; clear hK K
        obtain ⟨hp1, hp2⟩ := hwf.parts 0
        simp only [List.length_append, List.length_cons, Nat.add_zero] at hp1 hp2
        refine awp_rows (σ.length + (τ.length + 1)) (fun p => Dif.enc (insG g i x p)) (by simp [go_sem]; first | exact ⟨rfl, rfl, rfl⟩ | exact ⟨rfl, rfl⟩ | rfl) (by
          intro p hp
          simp only [setRows, catRows, insG]
          rcases Nat.lt_trichotomy p i with h | h | h
          · rw [if_neg (by omega), if_neg (by omega), if_pos h, if_pos h]; rfl
          · subst h; rw [if_neg (by omega), if_pos (by omega), if_neg (by omega), if_pos rfl, Nat.sub_self]; simp [rowsOf, Dif.enc]
          · rw [if_pos (by omega), if_neg (by omega), if_neg (by omega), show i + (p - (i + 1)) = p - 1 by omega]; rfl) (by simp [go_sem]; rfl) ?_
        refine awp_dead (σ.length + (τ.length + 1)) (by simp [go_sem]; first | exact ⟨rfl, rfl, rfl⟩ | exact ⟨rfl, rfl⟩ | rfl) (by simp [go_sem]; rfl) (by simp [go_sem, hp1, hp2]; rfl) ?_
        refine awp_kill σ.length (by simp [go_sem]; rfl) (by simp [go_sem]; rfl) ?_
        refine awp_ret ?_
        simp [go_sem, Tryz.results55, scrubV_comp]
        first | exact leaves_dead0 _ | exact ⟨⟨[], by simp⟩, leaves_dead0 _⟩
      · have d2 := c2; try simp at d2
        have hqn : n + 1 ≤ q := by omega
        refine awp_skip ?_
        refine awp_room 0 (by simp [go_sem]; first | exact ⟨rfl, rfl, rfl, rfl, rfl⟩ | rfl) (by simp [go_sem]; first | exact ⟨rfl, rfl, rfl⟩ | exact ⟨rfl, rfl⟩ | rfl) (by omega) fun row' hrow => ?_
        refine awp_reg_seq fun K hK => ?_
        simp [go_sem, h1, h2, h3, h4, h5, h6, h7, hi, c0, d0, c1, d1, c2, d2]
        try simp (disch := omega) only [wrapI]
        repeat refine ⟨by omega, ?_⟩
        refine hK _ ?_; clear hK K
        refine awp_seq ?_
        refine awp_reg_seq fun K hK => ?_
        simp [go_sem, h1, h2, h3, h4, h5, h6, h7, hi, c0, d0, c1, d1, c2, d2]
        try simp (disch := omega) only [wrapI]
        repeat refine ⟨by omega, ?_⟩
        refine CSk.ext (XS.overlapsD Tryz.f85 26 4 30 2 Tryz.func85 rfl rfl rfl rfl rfl (fun w => rfl) (b := σ.length) (by simp [go_sem]; first | exact ⟨rfl, rfl, rfl⟩ | exact ⟨rfl, rfl⟩ | rfl) (by omega) (by omega) (by omega) (by omega)) ?_
        simp [go_sem, h1, h2, h3, h4, h5, h6, h7, hi, c0, d0, c1, d1, c2, d2]
        try simp (disch := omega) only [wrapI]
        repeat refine ⟨by omega, ?_⟩
        refine hK _ ?_; clear hK K
        refine awp_forget [0, 1, 2, 7, 8, 68] (by simp only [restr, List.contains_cons, List.contains_nil, Nat.reduceBEq, Bool.or_false, Bool.or_true, Bool.true_or, Bool.false_or, if_true, if_false, Bool.false_eq_true]; rfl) ?_
        refine awp_cond rfl (fun c3 => ?_) (fun c3 => ?_)
        · have d3 := c3; try simp at d3
          refine awp_draw_seq 8 T.mixed (by kernel_rfl) fun K hK => ?_
          simp [go_sem, h1, h2, h3, h4, h5, h6, h7, hi, c0, d0, c1, d1, c2, d2, c3, d3, hwf.one, hwf.zero]
          try simp (disch := omega) only [wrapI]
          simp only [h1, h4, h7]
          repeat refine ⟨by omega, ?_⟩
          refine ⟨fun p hp => by rw [hrow _ (by omega)]; simp [go_sem], ?_⟩
          repeat refine ⟨by omega, ?_⟩
          refine hK _ ?_; clear hK K
          refine awp_reg_seq fun K hK => ?_
          simp [go_sem, h1, h2, h3, h4, h5, h6, h7, hi, c0, d0, c1, d1, c2, d2, c3, d3, hwf.one, hwf.zero]
          repeat refine ⟨by omega, ?_⟩
          refine hK _ ?_; clear hK K
          refine awp_reg_seq fun K hK => ?_
          simp [go_sem, h1, h2, h3, h4, h5, h6, h7, hi, c0, d0, c1, d1, c2, d2, c3, d3]
          repeat refine ⟨by omega, ?_⟩
          refine hK _ ?_; clear hK K
          refine awp_uncap 6 (by simp [go_sem]; first | exact ⟨rfl, rfl, rfl, rfl, rfl⟩ | rfl) ?_
          refine awp_shrink σ.length (n + 1) (fun p => Dif.enc (insG g i x p)) (by simp [go_sem]; first | exact ⟨rfl, rfl, rfl⟩ | exact ⟨rfl, rfl⟩ | rfl) (by omega) (by
            intro p hp
            simp only [setRows, insG]
            rcases Nat.lt_trichotomy p i with h | h | h
            · rw [if_neg (by omega), if_neg (by omega), if_pos h, hrow _ (by omega)]; rfl
            · subst h; rw [if_pos (by omega), if_neg (by omega), if_pos rfl, Nat.sub_self]; simp [rowsOf, Dif.enc]
            · rw [if_neg (by omega), if_pos (by omega), if_neg (by omega), if_neg (by omega), hrow _ (by omega), show i + (p - (i + 1)) = p - 1 by omega]; rfl) (by simp [go_sem]; rfl) ?_
          refine awp_dead σ.length (by simp [go_sem]; first | exact ⟨rfl, rfl, rfl⟩ | exact ⟨rfl, rfl⟩ | rfl) (by simp [go_sem]; rfl) (by simp [go_sem]; rfl) ?_
          refine awp_ret ?_
          simp [go_sem, Tryz.results55, scrubV_comp]
          first | exact leaves_dead0 _ | exact ⟨⟨[], by simp⟩, leaves_dead0 _⟩
        · have d3 := c3; try simp at d3

theorem insertRec_cs (σ : List Blk) (τ : List Blk) (n : Nat) (g : Nat → Rec) (x : Rec) (i : Nat) (hi : i ≤ n) (hn : n < 1000000000) : CS Tryz.prog 60 [.ms σ.length 3 0 n, .d (I i), .d (.sl (some 1) 3 1 (rowsOf 3 (Rec.enc x)))] (σ ++ .arr 3 n (fun i => Rec.enc (g i)) :: τ) (fun r σ' X' => X' = [σ.length] ∧ r = .d (SL none 3 Rec.enc (n + 1) (insG g i x)) ∧ σ' = σ.map (scrubV [σ.length]) ++ .dead :: τ.map (scrubV [σ.length])) := by
  have h1 : ((i : Int) + 1).toNat = i + 1 := by omega
  have h2 : ((n : Int) + 1 - (i : Int)).toNat = n + 1 - i := by omega
  have h3 : i + (n + 1 - i) = n + 1 := by omega
  have h4 : ((n : Int) + 1 - ((i : Int) + 1)).toNat = n - i := by omega
  have h5 : ((n : Int) - (i : Int)).toNat = n - i := by omega
  have h6 : ((n : Int) + 1).toNat = n + 1 := by omega
  have h7 : min (n + 1 - i) (n - i) = n - i := by omega
  refine CS.of_bodyD [σ.length] T.en60 Tryz.func60 rfl (by simp [Tryz.ntmps60]) fun hwf => ?_
  refine awp_reg_seq fun K hK => ?_
  simp [go_sem, Tryz.ntmps60, h1, h2, h3, h4, h5, h6, h7, hi]
  repeat refine ⟨by omega, ?_⟩
  refine hK _ ?_; clear hK K
  refine awp_reg_seq fun K hK => ?_
  simp [go_sem, h1, h2, h3, h4, h5, h6, h7, hi]
  repeat refine ⟨by omega, ?_⟩
  refine hK _ ?_; clear hK K
  refine awp_reg_seq fun K hK => ?_
  simp [go_sem, h1, h2, h3, h4, h5, h6, h7, hi]
  repeat refine ⟨by omega, ?_⟩
  refine hK _ ?_; clear hK K
  refine awp_seq ?_
  refine awp_reg_seq fun K hK => ?_
  simp [go_sem, h1, h2, h3, h4, h5, h6, h7, hi]
  repeat refine ⟨by omega, ?_⟩
  refine hK _ ?_; clear hK K
  refine awp_forget [0, 1, 2, 7, 16] (by simp only [restr, List.contains_cons, List.contains_nil, Nat.reduceBEq, Bool.or_false, Bool.or_true, Bool.true_or, Bool.false_or, if_true, if_false, Bool.false_eq_true]; rfl) ?_
  refine awp_cond rfl (fun c0 => ?_) (fun c0 => ?_)
  · have d0 := c0; try simp at d0
  · have d0 := c0; try simp at d0
    refine awp_skip ?_
    refine awp_reg_seq fun K hK => ?_
    simp [go_sem, h1, h2, h3, h4, h5, h6, h7, hi, c0, d0]
    repeat refine ⟨by omega, ?_⟩
    refine hK _ ?_; clear hK K
    refine awp_seq ?_
    refine awp_reg_seq fun K hK => ?_
    simp [go_sem, h1, h2, h3, h4, h5, h6, h7, hi, c0, d0]
    repeat refine ⟨by omega, ?_⟩
    refine hK _ ?_; clear hK K
    refine awp_forget [0, 1, 2, 7, 8, 22] (by simp only [restr, List.contains_cons, List.contains_nil, Nat.reduceBEq, Bool.or_false, Bool.or_true, Bool.true_or, Bool.false_or, if_true, if_false, Bool.false_eq_true]; rfl) ?_
    refine awp_cond rfl (fun c1 => ?_) (fun c1 => ?_)
    · have d1 := c1; try simp at d1
      obtain rfl : n = i := by omega
      refine awp_reg_seq fun K hK => ?_
      simp [go_sem, h1, h2, h3, h4, h5, h6, h7, hi, c0, d0, c1, d1, hwf.one, hwf.zero]
      repeat refine ⟨by omega, ?_⟩
      refine hK _ ?_; clear hK K
      refine awp_rows σ.length (fun q => Rec.enc (insG g n x q)) (by simp [go_sem]; first | exact ⟨rfl, rfl, rfl⟩ | exact ⟨rfl, rfl⟩ | rfl) (by intro q hq; unfold catRows insG; split; rfl; rw [if_pos (show q = n by omega), show q - n = 0 by omega]; simp [rowsOf, Rec.enc]) (by simp [go_sem]; rfl) ?_
      refine awp_dead σ.length (by simp [go_sem]; first | exact ⟨rfl, rfl, rfl⟩ | exact ⟨rfl, rfl⟩ | rfl) (by simp [go_sem]; rfl) (by simp [go_sem]; rfl) ?_
      refine awp_ret ?_
      simp [go_sem, Tryz.results60, scrubV_comp]
      first | exact leaves_dead0 _ | exact ⟨⟨[], by simp⟩, leaves_dead0 _⟩
    · have d1 := c1; try simp at d1
      have hlt : i < n := by omega
      refine awp_skip ?_
      refine awp_seq ?_
      refine awp_mc 0 (by simp [go_sem]; first | exact ⟨rfl, rfl, rfl, rfl⟩ | rfl) fun q hq => ?_
      refine awp_reg_seq fun K hK => ?_
      simp [go_sem, h1, h2, h3, h4, h5, h6, h7, hi, c0, d0, c1, d1]
      try simp (disch := omega) only [wrapI]
      repeat refine ⟨by omega, ?_⟩
      refine hK _ ?_; clear hK K
      refine awp_forget [0, 1, 2, 7, 8, 31] (by simp only [restr, List.contains_cons, List.contains_nil, Nat.reduceBEq, Bool.or_false, Bool.or_true, Bool.true_or, Bool.false_or, if_true, if_false, Bool.false_eq_true]; rfl) ?_
      refine awp_cond rfl (fun c2 => ?_) (fun c2 => ?_)
      · have d2 := c2; try simp at d2
        have hqn : q = n := by omega
        subst hqn
        refine awp_reg_seq fun K hK => ?_
        simp [go_sem, h1, h2, h3, h4, h5, h6, h7, hi, c0, d0, c1, d1, c2, d2, hwf.one, hwf.zero]
        try simp (disch := omega) only [wrapI]
        repeat refine ⟨by omega, ?_⟩
        refine hK _ ?_; clear hK K
        refine awp_reg_seq fun K hK => ?_
        simp [go_sem, h1, h2, h3, h4, h5, h6, h7, hi, c0, d0, c1, d1, c2, d2, hwf.one, hwf.zero]
        repeat refine ⟨by omega, ?_⟩
        refine hK _ ?_; clear hK K
        refine awp_draw_seq 8 T.mixed (by kernel_rfl) fun K hK => ?_
        simp [go_sem, h1, h2, h3, h4, h5, h6, h7, hi, c0, d0, c1, d1, c2, d2, hwf.one, hwf.zero]
        try simp (disch := omega) only [wrapI]
        repeat refine ⟨by omega, ?_⟩
        refine hK _ ?_; clear hK K
        refine awp_reg_seq fun K hK => ?_
        simp [go_sem, h1, h2, h3, h4, h5, h6, h7, hi, c0, d0, c1, d1, c2, d2]
        repeat refine ⟨by omega, ?_⟩
        refine hK _ ?_; clear hK K
        obtain ⟨hp1, hp2⟩ := hwf.parts 0
        simp only [List.length_append, List.length_cons, Nat.add_zero] at hp1 hp2
        refine awp_rows (σ.length + (τ.length + 1)) (fun p => Rec.enc (insG g i x p)) (by simp [go_sem]; first | exact ⟨rfl, rfl, rfl⟩ | exact ⟨rfl, rfl⟩ | rfl) (by
          intro p hp
          simp only [setRows, catRows, insG]
          rcases Nat.lt_trichotomy p i with h | h | h
          · rw [if_neg (by omega), if_neg (by omega), if_pos h, if_pos h]; rfl
          · subst h; rw [if_neg (by omega), if_pos (by omega), if_neg (by omega), if_pos rfl, Nat.sub_self]; simp [rowsOf, Rec.enc]
          · rw [if_pos (by omega), if_neg (by omega), if_neg (by omega), show i + (p - (i + 1)) = p - 1 by omega]; rfl) (by simp [go_sem]; rfl) ?_
        refine awp_dead (σ.length + (τ.length + 1)) (by simp [go_sem]; first | exact ⟨rfl, rfl, rfl⟩ | exact ⟨rfl, rfl⟩ | rfl) (by simp [go_sem]; rfl) (by simp [go_sem, hp1, hp2]; rfl) ?_
        refine awp_kill σ.length (by simp [go_sem]; rfl) (by simp [go_sem]; rfl) ?_
        refine awp_ret ?_
        simp [go_sem, Tryz.results60, scrubV_comp]
        first | exact leaves_dead0 _ | exact ⟨⟨[], by simp⟩, leaves_dead0 _⟩
      · have d2 := c2; try simp at d2
        have hqn : n + 1 ≤ q := by omega
        refine awp_skip ?_
        refine awp_room 0 (by simp [go_sem]; first | exact ⟨rfl, rfl, rfl, rfl, rfl⟩ | rfl) (by simp [go_sem]; first | exact ⟨rfl, rfl, rfl⟩ | exact ⟨rfl, rfl⟩ | rfl) (by omega) fun row' hrow => ?_
        refine awp_reg_seq fun K hK => ?_
        simp [go_sem, h1, h2, h3, h4, h5, h6, h7, hi, c0, d0, c1, d1, c2, d2]
        try simp (disch := omega) only [wrapI]
        repeat refine ⟨by omega, ?_⟩
        refine hK _ ?_; clear hK K
        refine awp_seq ?_
        refine awp_reg_seq fun K hK => ?_
        simp [go_sem, h1, h2, h3, h4, h5, h6, h7, hi, c0, d0, c1, d1, c2, d2]
        try simp (disch := omega) only [wrapI]
        repeat refine ⟨by omega, ?_⟩
        refine CSk.ext (XS.overlapsD Tryz.f88 25 4 47 3 Tryz.func88 rfl rfl rfl rfl rfl (fun w => rfl) (b := σ.length) (by simp [go_sem]; first | exact ⟨rfl, rfl, rfl⟩ | exact ⟨rfl, rfl⟩ | rfl) (by omega) (by omega) (by omega) (by omega)) ?_
        simp [go_sem, h1, h2, h3, h4, h5, h6, h7, hi, c0, d0, c1, d1, c2, d2]
        try simp (disch := omega) only [wrapI]
        repeat refine ⟨by omega, ?_⟩
        refine hK _ ?_; clear hK K
        refine awp_forget [0, 1, 2, 7, 8, 68] (by simp only [restr, List.contains_cons, List.contains_nil, Nat.reduceBEq, Bool.or_false, Bool.or_true, Bool.true_or, Bool.false_or, if_true, if_false, Bool.false_eq_true]; rfl) ?_
        refine awp_cond rfl (fun c3 => ?_) (fun c3 => ?_)
        · have d3 := c3; try simp at d3
          refine awp_draw_seq 8 T.mixed (by kernel_rfl) fun K hK => ?_
          simp [go_sem, h1, h2, h3, h4, h5, h6, h7, hi, c0, d0, c1, d1, c2, d2, c3, d3, hwf.one, hwf.zero]
          try simp (disch := omega) only [wrapI]
          simp only [h1, h4, h7]
          repeat refine ⟨by omega, ?_⟩
          refine ⟨fun p hp => by rw [hrow _ (by omega)]; simp [go_sem], ?_⟩
          repeat refine ⟨by omega, ?_⟩
          refine hK _ ?_; clear hK K
          refine awp_reg_seq fun K hK => ?_
          simp [go_sem, h1, h2, h3, h4, h5, h6, h7, hi, c0, d0, c1, d1, c2, d2, c3, d3, hwf.one, hwf.zero]
          repeat refine ⟨by omega, ?_⟩
          refine hK _ ?_; clear hK K
          refine awp_reg_seq fun K hK => ?_
          simp [go_sem, h1, h2, h3, h4, h5, h6, h7, hi, c0, d0, c1, d1, c2, d2, c3, d3]
          repeat refine ⟨by omega, ?_⟩
          refine hK _ ?_; clear hK K
          refine awp_uncap 6 (by simp [go_sem]; first | exact ⟨rfl, rfl, rfl, rfl, rfl⟩ | rfl) ?_
          refine awp_shrink σ.length (n + 1) (fun p => Rec.enc (insG g i x p)) (by simp [go_sem]; first | exact ⟨rfl, rfl, rfl⟩ | exact ⟨rfl, rfl⟩ | rfl) (by omega) (by
            intro p hp
            simp only [setRows, insG]
            rcases Nat.lt_trichotomy p i with h | h | h
            · rw [if_neg (by omega), if_neg (by omega), if_pos h, hrow _ (by omega)]; rfl
            · subst h; rw [if_pos (by omega), if_neg (by omega), if_pos rfl, Nat.sub_self]; simp [rowsOf, Rec.enc]
            · rw [if_neg (by omega), if_pos (by omega), if_neg (by omega), if_neg (by omega), hrow _ (by omega), show i + (p - (i + 1)) = p - 1 by omega]; rfl) (by simp [go_sem]; rfl) ?_
          refine awp_dead σ.length (by simp [go_sem]; first | exact ⟨rfl, rfl, rfl⟩ | exact ⟨rfl, rfl⟩ | rfl) (by simp [go_sem]; rfl) (by simp [go_sem]; rfl) ?_
          refine awp_ret ?_
          simp [go_sem, Tryz.results60, scrubV_comp]
          first | exact leaves_dead0 _ | exact ⟨⟨[], by simp⟩, leaves_dead0 _⟩
        · have d3 := c3; try simp at d3

theorem insertDif_in (σ υ τ : List Blk) (n : Nat) (g : Nat → Dif) (x : Dif) (i : Nat) (hi : i ≤ n) (hn : n < 1000000000) : CS Tryz.prog 55 [.ms (σ.length + υ.length) 2 0 n, .d (I i), .d (.sl (some 1) 2 1 (rowsOf 2 (Dif.enc x)))] (σ ++ (υ ++ .arr 2 n (fun i => Dif.enc (g i)) :: τ))
    (fun r σ' X => X = [σ.length + υ.length] ∧ r = .d (SL none 2 Dif.enc (n + 1) (insG g i x)) ∧ σ' = σ.map (scrubV [σ.length + υ.length]) ++ (υ.map (scrubV [σ.length + υ.length]) ++ .dead :: τ.map (scrubV [σ.length + υ.length]))) := by
  have h := insertDif_cs (σ ++ υ) τ n g x i hi hn
  simp only [List.append_assoc, List.length_append, List.map_append] at h
  exact h
theorem insertRec_in (σ υ τ : List Blk) (n : Nat) (g : Nat → Rec) (x : Rec) (i : Nat) (hi : i ≤ n) (hn : n < 1000000000) : CS Tryz.prog 60 [.ms (σ.length + υ.length) 3 0 n, .d (I i), .d (.sl (some 1) 3 1 (rowsOf 3 (Rec.enc x)))] (σ ++ (υ ++ .arr 3 n (fun i => Rec.enc (g i)) :: τ))
    (fun r σ' X => X = [σ.length + υ.length] ∧ r = .d (SL none 3 Rec.enc (n + 1) (insG g i x)) ∧ σ' = σ.map (scrubV [σ.length + υ.length]) ++ (υ.map (scrubV [σ.length + υ.length]) ++ .dead :: τ.map (scrubV [σ.length + υ.length]))) := by
  have h := insertRec_cs (σ ++ υ) τ n g x i hi hn
  simp only [List.append_assoc, List.length_append, List.map_append] at h
  exact h


end Go.Proofs.YtnbokgmimbeihaaGreatDoor

/-! Cr -/
namespace Go.Proofs.YtnbokgmimbeihaaGreatDoor
open Go.Abs Go.Arch
set_option linter.unusedVariables false
set_option maxRecDepth 100000
set_option linter.unusedSimpArgs false

theorem cmpI_lt (a b : Int) : cmpI a b < 0 ↔ a < b := by unfold cmpI; split <;> (try split) <;> omega
theorem cmpI_eq (a b : Int) : cmpI a b = 0 ↔ a = b := by unfold cmpI; split <;> (try split) <;> omega
theorem AgrOk.lt {L : List Dif} {n : Nat} {a : Nat → Dif} (h : AgrOk L n a) : ∀ {j i : Nat}, i < j → j < n → lessD (a i) (a j) = true
  | 0, i, h1, _ => by omega
  | j + 1, i, h1, h2 => by
    have h3 := (h (j + 1) h2).2 (by omega)
    rw [Nat.add_sub_cancel] at h3
    rcases Nat.lt_or_ge i j with h4 | h4
    · have h5 := AgrOk.lt h h4 (by omega)
      rw [lessD_iff] at *; omega
    · obtain rfl : i = j := by omega
      exact h3

/-- where the new one comes -/
def posD (n : Nat) (a : Nat → Dif) (d : Dif) : Nat := bsAt n fun i => ordD (a i) d
def posR (n : Nat) (r : Nat → Rec) (u : Int) : Nat := bsAt n fun i => cmpI (r i).Number u
theorem posD_le (n : Nat) (a : Nat → Dif) (d : Dif) : posD n a d ≤ n := bsAt_le _ _
theorem posR_le (n : Nat) (r : Nat → Rec) (u : Int) : posR n r u ≤ n := bsAt_le _ _
theorem posD_cut {L : List Dif} {n : Nat} {a : Nat → Dif} (h : AgrOk L n a) (d : Dif) : (∀ i, i < posD n a d → lessD (a i) d = true) ∧ ∀ i, posD n a d ≤ i → i < n → lessD (a i) d = false := by
  have hc := bsLoop_cut (p := fun i => ordD (a i) d) (Nat.zero_le n) (Nat.le_refl _) (fun i j hij hj hlt => by
    rcases Nat.lt_or_eq_of_le hij with h1 | rfl
    · have h2 := h.lt h1 hj
      rw [ordD_neg] at hlt ⊢
      rw [lessD_iff] at *; omega
    · exact hlt) (fun i hi => absurd hi (Nat.not_lt_zero i)) (fun i h1 h2 => by omega)
  refine ⟨fun i hi => (ordD_neg _ _).1 (hc.1 i hi), fun i h1 h2 => ?_⟩
  have := hc.2 i h1 h2
  rw [← Bool.not_eq_true, ← ordD_neg]; omega
theorem posR_cut {n : Nat} {r : Nat → Rec} (h : OrdR n r) (u : Int) : (∀ i, i < posR n r u → (r i).Number < u) ∧ ∀ i, posR n r u ≤ i → i < n → u ≤ (r i).Number := by
  have hc := bsLoop_cut (p := fun i => cmpI (r i).Number u) (Nat.zero_le n) (Nat.le_refl _) (fun i j hij hj hlt => by
    rcases Nat.lt_or_eq_of_le hij with h1 | rfl
    · have h2 := h.lt h1 hj
      rw [cmpI_lt] at *; omega
    · exact hlt) (fun i hi => absurd hi (Nat.not_lt_zero i)) (fun i h1 h2 => by omega)
  refine ⟨fun i hi => (cmpI_lt _ _).1 (hc.1 i hi), fun i h1 h2 => ?_⟩
  have h3 := hc.2 i h1 h2
  have h4 := cmpI_lt (r i).Number u
  omega
theorem isD {L : List Dif} {n : Nat} {a : Nat → Dif} (h : AgrOk L n a) (d : Dif) : bsIs n (fun i => ordD (a i) d) = hasD n a d := by
  obtain ⟨h1, h2⟩ := posD_cut h d
  unfold bsIs
  change (decide (posD n a d < n) && (ordD (a (posD n a d)) d == 0)) = _
  generalize posD n a d = k at *
  unfold hasD
  rw [Bool.eq_iff_iff]
  simp only [lst, List.any_map, List.any_eq_true, List.mem_range, Function.comp, Bool.and_eq_true, decide_eq_true_eq, beq_iff_eq]
  constructor
  · rintro ⟨h3, h4⟩; exact ⟨k, h3, (ordD_zero _ _).1 h4⟩
  · rintro ⟨i, hi, e⟩
    have hk : ¬ i < k := fun hlt => by
      have := h1 i hlt
      rw [e, lessD_iff] at this; omega
    have hki : k = i := by
      rcases Nat.lt_or_eq_of_le (Nat.le_of_not_lt hk) with h4 | h4
      · have h5 := h.lt h4 hi
        rw [e, h2 k (Nat.le_refl _) (by omega)] at h5; cases h5
      · exact h4
    subst hki
    exact ⟨hi, (ordD_zero _ _).2 e⟩
theorem isR {n : Nat} {r : Nat → Rec} (h : OrdR n r) (u : Int) : bsIs n (fun i => cmpI (r i).Number u) = (gotR n r u).2 := by
  obtain ⟨h1, h2⟩ := posR_cut h u
  unfold bsIs
  change (decide (posR n r u < n) && (cmpI (r (posR n r u)).Number u == 0)) = _
  generalize posR n r u = k at *
  rw [Bool.eq_iff_iff, gotR_iff]
  simp only [Bool.and_eq_true, decide_eq_true_eq, beq_iff_eq, cmpI_eq]
  constructor
  · rintro ⟨h3, h4⟩; exact ⟨k, h3, h4⟩
  · rintro ⟨i, hi, e⟩
    have hk : ¬ i < k := fun hlt => by have := h1 i hlt; omega
    have hki : k = i := by
      rcases Nat.lt_or_eq_of_le (Nat.le_of_not_lt hk) with h4 | h4
      · have h5 := h.lt h4 hi
        have := h2 k (Nat.le_refl _) (by omega); omega
      · exact h4
    subst hki
    exact ⟨hi, e⟩
theorem cut_uniq {p : Nat → Bool} {n k k' : Nat} (hk : k ≤ n) (hk' : k' ≤ n) (h1 : ∀ i, i < k → p i = true) (h2 : ∀ i, k ≤ i → i < n → p i = false) (h3 : ∀ i, i < k' → p i = true) (h4 : k' < n → p k' = false) : k' = k := by
  rcases Nat.lt_trichotomy k' k with h | h | h
  · have := h1 k' h; rw [h4 (by omega)] at this; cases this
  · exact h
  · have := h3 k h; rw [h2 k (Nat.le_refl _) (by omega)] at this; cases this

theorem ins_lt {α : Type} {g : Nat → α} {i : Nat} {x : α} {q : Nat} (h : q < i) : insG g i x q = g q := by unfold insG; rw [if_pos h]
theorem ins_at {α : Type} {g : Nat → α} {i : Nat} {x : α} : insG g i x i = x := by unfold insG; rw [if_neg (by omega), if_pos rfl]
theorem ins_gt {α : Type} {g : Nat → α} {i : Nat} {x : α} {q : Nat} (h : i < q) : insG g i x q = g (q - 1) := by unfold insG; rw [if_neg (by omega), if_neg (by omega)]

theorem OrdR.ins {n : Nat} {r : Nat → Rec} (h : OrdR n r) {x : Rec} (hx : recE x = 0) (hno : (gotR n r x.Number).2 = false) : OrdR (n + 1) (insG r (posR n r x.Number) x) := by
  obtain ⟨h1, h2⟩ := posR_cut h x.Number
  have hle := posR_le n r x.Number
  have h3 : ∀ i, posR n r x.Number ≤ i → i < n → x.Number < (r i).Number := fun i h4 h5 => by
    have h6 := h2 i h4 h5
    have h7 : ¬ (gotR n r x.Number).2 = true := by rw [hno]; simp
    rw [gotR_iff] at h7
    have : (r i).Number ≠ x.Number := fun e => h7 ⟨i, h5, e⟩
    omega
  generalize posR n r x.Number = k at *
  intro q hq
  rcases Nat.lt_trichotomy q k with hk | hk | hk
  · rw [ins_lt hk]
    refine ⟨(h q (by omega)).1, fun h0 => ?_⟩
    rw [ins_lt (by omega)]; exact (h q (by omega)).2 h0
  · subst hk
    rw [ins_at]
    refine ⟨hx, fun h0 => ?_⟩
    rw [ins_lt (by omega)]; exact h1 _ (by omega)
  · rw [ins_gt hk]
    refine ⟨(h (q - 1) (by omega)).1, fun h0 => ?_⟩
    rcases Nat.lt_or_eq_of_le (show k ≤ q - 1 by omega) with h4 | h4
    · rw [ins_gt h4]; exact (h (q - 1) (by omega)).2 (by omega)
    · rw [← h4, ins_at]; exact h3 k (Nat.le_refl _) (by omega)

theorem gotR_mem {r : Nat → Rec} {u : Int} : ∀ {n : Nat}, (gotR n r u).2 = true → ∃ i, i < n ∧ (r i).Number = u ∧ (gotR n r u).1 = r i
  | 0, h => by rw [gotR_zero] at h; cases h
  | n + 1, h => by
    rw [gotR_succ] at h ⊢
    by_cases h1 : (gotR n r u).2 = true
    · rw [if_pos h1]
      obtain ⟨i, h2, h3, h4⟩ := gotR_mem h1
      exact ⟨i, by omega, h3, h4⟩
    · rw [if_neg h1] at h ⊢
      by_cases h2 : (r n).Number = u
      · rw [if_pos h2]; exact ⟨n, by omega, h2, rfl⟩
      · rw [if_neg h2] at h; cases h
theorem gotR_no {n : Nat} {r : Nat → Rec} {u : Int} (h : (gotR n r u).2 = false) : gotR n r u = (Rec.zero, false) := by
  unfold gotR at *
  split
  · rfl
  · rename_i h1; rw [if_neg h1] at h; cases h
theorem gotR_yes {n : Nat} {r : Nat → Rec} (h : OrdR n r) {i : Nat} (hi : i < n) : gotR n r (r i).Number = (r i, true) := by
  have h1 : (gotR n r (r i).Number).2 = true := (gotR_iff r _ n).2 ⟨i, hi, rfl⟩
  obtain ⟨q, h2, h3, h4⟩ := gotR_mem h1
  have : q = i := by
    rcases Nat.lt_trichotomy q i with h5 | h5 | h5
    · have := h.lt h5 hi; omega
    · exact h5
    · have := h.lt h5 h2; omega
  subst this
  exact Prod.ext h4 h1
theorem gotR_ins {n : Nat} {r : Nat → Rec} (h : OrdR n r) {x : Rec} (hx : recE x = 0) (hno : (gotR n r x.Number).2 = false) {u : Int} (hu : u ≠ x.Number) : gotR (n + 1) (insG r (posR n r x.Number) x) u = gotR n r u := by
  have hi := h.ins hx hno
  have hle := posR_le n r x.Number
  generalize posR n r x.Number = k at *
  cases hg : (gotR n r u).2 with
  | true =>
    obtain ⟨i, h1, h2, _⟩ := gotR_mem hg
    subst h2
    rw [gotR_yes h h1]
    rcases Nat.lt_or_ge i k with h3 | h3
    · have := gotR_yes hi (i := i) (by omega)
      rwa [ins_lt h3] at this
    · have := gotR_yes hi (i := i + 1) (by omega)
      rwa [ins_gt (by omega), Nat.add_sub_cancel] at this
  | false =>
    rw [gotR_no hg]
    apply gotR_no
    rw [← Bool.not_eq_true, gotR_iff]
    rintro ⟨q, h1, h2⟩
    have h3 : ¬ (gotR n r u).2 = true := by rw [hg]; simp
    rw [gotR_iff] at h3
    rcases Nat.lt_trichotomy q k with h4 | h4 | h4
    · rw [ins_lt h4] at h2; exact h3 ⟨q, by omega, h2⟩
    · subst h4; rw [ins_at] at h2; exact hu h2.symm
    · rw [ins_gt h4] at h2; exact h3 ⟨q - 1, by omega, h2⟩
theorem gotR_new {n : Nat} {r : Nat → Rec} (h : OrdR n r) {x : Rec} (hx : recE x = 0) (hno : (gotR n r x.Number).2 = false) : gotR (n + 1) (insG r (posR n r x.Number) x) x.Number = (x, true) := by
  have hle := posR_le n r x.Number
  have := gotR_yes (h.ins hx hno) (i := posR n r x.Number) (by omega)
  rwa [ins_at] at this

theorem mem_allD {n : Nat} {f : Nat → Lis} {m : Nat} {g : Nat → Rec} {d : Dif} : d ∈ allD n f m g ↔ (1 ≤ d.Number ∧ d.Number ≤ 9999) ∧ d ∈ difU n f m g d.Number := by
  unfold allD
  rw [gather_flat, List.mem_flatMap]
  constructor
  · rintro ⟨q, h1, h2⟩
    have h3 := difU_num h2
    rw [List.mem_range] at h1
    exact ⟨by omega, by rw [h3]; exact h2⟩
  · rintro ⟨h1, h2⟩
    refine ⟨d.Number.toNat - 1, by rw [List.mem_range]; omega, ?_⟩
    have : ((d.Number.toNat - 1 : Nat) : Int) + 1 = d.Number := by omega
    rw [this]; exact h2
theorem difU_ins {n : Nat} {f : Nat → Lis} {m : Nat} {r : Nat → Rec} (h : OrdR m r) {x : Rec} (hx : recE x = 0) (hno : (gotR m r x.Number).2 = false) {u : Int} (hu : u ≠ x.Number) : difU n f (m + 1) (insG r (posR m r x.Number) x) u = difU n f m r u := by
  unfold difU; rw [gotR_ins h hx hno hu]
theorem mem_ins {n : Nat} {f : Nat → Lis} {m : Nat} {r : Nat → Rec} (h : OrdR m r) {x : Rec} (hx : recE x = 0) (hno : (gotR m r x.Number).2 = false) {d : Dif} (hu : d.Number ≠ x.Number) : d ∈ allD n f (m + 1) (insG r (posR m r x.Number) x) ↔ d ∈ allD n f m r := by
  rw [mem_allD, mem_allD, difU_ins h hx hno hu]

def acs0 : Acs := ⟨0, 0, 0, 0, fun _ => default, 0, fun _ => default⟩
def putD (a : Acs) (d : Dif) : Acs := { a with na := a.na + 1, a := insG a.a (posD a.na a.a d) d }
def putR (a : Acs) (x : Rec) : Acs := { a with nr := a.nr + 1, r := insG a.r (posR a.nr a.r x.Number) x }
def agrP (t : TL) (a : Acs) (d : Dif) : Acs × Int :=
  if chkA t a ≠ 0 then (acs0, chkA t a) else if d ∉ allT t a then (acs0, 7) else if hasD a.na a.a d = true then (acs0, 6) else if 128 ≤ a.na then (acs0, 8) else (putD a d, 0)
def rcvP (t : TL) (a : Acs) (x : Rec) : Acs × Int :=
  if chkA t a ≠ 0 then (acs0, chkA t a) else if recE x ≠ 0 then (acs0, recE x) else if (gotR a.nr a.r x.Number).2 = true then (acs0, 6) else if agrB (allT t (putR a x)) a.na a.a = false then (acs0, 11) else if 128 < a.nr + 1 then (acs0, 8) else (putR a x, 0)

theorem stale_agr {t : TL} {a : Acs} {x : Rec} (h0 : AgrOk (allT t a) a.na a.a) (h : OrdR a.nr a.r) (hx : recE x = 0) (hno : (gotR a.nr a.r x.Number).2 = false) :
    (lst a.na a.a).any (fun d => d.Number == x.Number && !decide (d ∈ allT t (putR a x))) = !agrB (allT t (putR a x)) a.na a.a := by
  rw [Bool.eq_iff_iff, Bool.not_eq_true', ← Bool.not_eq_true, agrB_iff]
  simp only [lst, List.any_map, List.any_eq_true, List.mem_range, Function.comp, Bool.and_eq_true, beq_iff_eq, Bool.not_eq_true', decide_eq_false_iff_not]
  constructor
  · rintro ⟨i, h1, h2, h3⟩ h4
    exact h3 (h4 i h1).1
  · intro h4
    apply Classical.byContradiction
    intro h5
    refine h4 fun i hi => ⟨?_, (h0 i hi).2⟩
    by_cases hu : (a.a i).Number = x.Number
    · apply Classical.byContradiction
      intro h6
      exact h5 ⟨i, hi, hu, h6⟩
    · exact (mem_ins h hx hno hu).2 (h0 i hi).1
end Go.Proofs.YtnbokgmimbeihaaGreatDoor

/-! Er -/
namespace Go.Abs
open Go.RowKit
set_option linter.unusedVariables false
set_option linter.unusedSimpArgs false

/-- a law that returns true, as the row wants it, where a cell and a table are read -/
theorem law_callsT {P : Program} {f : FuncId} {avs : List AV} {args : Array Value} {w : World} {c b : Nat} {vs : Array Value} (h : CSF P f avs [.loc c, .tab b vs] (.d (.v (.bool true)))) (hm : ∃ m, w.cell? ⟨c, 0, none⟩ = some (.int .i64 m))
    (ht : ∃ e f, w.heap[b]? = some (.cells vs e f)) (hr : Rs w [none, none] avs args) : Calls P f args w fun e w' => e = .returned (.bool true) ∧ Below w.heap.size w w' := by
  have hc : c < w.heap.size := by
    obtain ⟨m, hm⟩ := hm
    apply Classical.byContradiction
    intro hn
    have : w.heap[c]? = none := by simp; omega
    simp [World.cell?, this] at hm
  obtain ⟨e, fz, ht⟩ := ht
  have hb : b < w.heap.size := (Array.getElem?_eq_some_iff.1 ht).1
  have hS : RelS w [none, none] [.loc c, .tab b vs] := ⟨rfl, fun b cb hb => by
      rcases b with _ | _ | b <;> simp at hb, fun b b' cb hb => by
      rcases b with _ | _ | b <;> simp at hb, fun q x hx => by
      rcases q with _ | _ | q
      · simp at hx
        subst hx
        exact ⟨none, rfl, rfl, hc, by simp, hm⟩
      · simp at hx
        subst hx
        exact ⟨none, rfl, rfl, hb, by simp, e, by simp [World.shape?, ht], fun i => by simp [World.cell?, ht]⟩
      · simp at hx⟩
  refine (h.2 [none, none] w args hS hr).mono ?_
  rintro e w' ⟨v, r, σ', j', X, rfl, h1, h2, h3, h4, h5, rfl, rfl, rfl⟩
  cases h2 with
  | d h2 =>
    cases h2
    exact ⟨rfl, ⟨h3.os, h3.tape, h3.output, h3.size, fun k hk => h3.keep k hk (by simp)⟩⟩

theorem RD.none2 {w : World} {d : D} {v : Value} (h : RD w [] d v) : RD w [Option.none, Option.none] d v := by
  induction h with
  | v x => exact .v x
  | sl a c val h1 h2 h3 h4 h5 h6 h7 h8 ih => exact .sl a c val h1 h2 h3 h4 (by simp) h6 h7 ih
  | zero p c h1 h2 => exact .zero p c h1 h2
theorem R.none2_d {w : World} {d : D} {v : Value} (h : R w [] (.d d) v) : R w [Option.none, Option.none] (.d d) v := by
  cases h with | d h => exact .d h.none2
theorem R.none2_agg {w : World} {ds : List D} {v : Value} (h : R w [] (.agg (ds.map .d)) v) : R w [Option.none, Option.none] (.agg (ds.map .d)) v := by
  cases h with
  | agg vs hs h =>
    refine .agg vs hs fun k hk => ?_
    have := h k hk
    have hk' : k < ds.length := by simpa using hk
    have e : (ds.map AV.d).getD k .undef = .d (ds[k]'hk') := by simp [List.getD_eq_getElem?_getD, hk']
    rw [e] at this ⊢
    exact this.none2_d
theorem rsT_nil (w : World) : Rs w [none, none] [] #[] := ⟨rfl, by simp⟩
theorem RsT.cons {w : World} {x : AV} {v : Value} {xs : List AV} {vs : List Value} (h : R w [none, none] x v) (t : Rs w [none, none] xs vs.toArray) : Rs w [none, none] (x :: xs) (v :: vs).toArray :=
  ⟨by have := t.1; simpa using this, fun k hk => by
    cases k with
    | zero => simpa using h
    | succ k => have := t.2 k (by simpa using hk); simpa using this⟩
end Go.Abs

namespace Go.Proofs.YtnbokgmimbeihaaGreatDoor
open Go.Abs Go.Arch
open Go.ChangeShapes Go.WideShapes Go.ChangeAt Go.RowKit
set_option linter.unusedVariables false

theorem own : ownKnob Tryz.prog.godebug = none := by kernel_rfl
theorem laidOut : laidOutB Tryz.prog = true := by kernel_rfl
theorem maxLenCell (w : World) (h : w.ShapedOpen Tryz.prog) : ∃ m, w.cell? ⟨0, 0, none⟩ = some (.int .i64 m) :=
  Go.Proofs.cell_of_shapedOpen_int (zero := #[.int .i64 0]) (t := 3) h (of_decide_eq_true (by kernel_rfl)) (by kernel_rfl) rfl (by kernel_rfl) (by kernel_rfl) Tryz.underlying3

/-- the rest of what is listed -/
theorem laid_tail {P : Program} {x : String × DataW Unit} {r : List (String × DataW Unit)} {w : World} (h : laidMet P (x :: r) w) : laidMet P r w := by
  obtain ⟨ps, h1, h2, h3⟩ := h
  obtain ⟨g, t, cs, fuel, p, q, _, _, _, _, h4, rfl⟩ := h1
  exact ⟨q, h4, (List.nodup_append.1 h2).2.1, fun b off hm => h3 b off (List.mem_append.2 (.inr hm))⟩

def cellsD : DataW Unit → Array Value
  | .agg ds => (ds.map fun d => match d with
    | .lit (.int k z) => Value.int k z
    | _ => Go.undef).toArray
  | _ => #[]
def setC (vs : Array Value) : Obj → Obj
  | .cells _ t frozen => .cells vs t frozen
  | o => o
/-- The settled world, the listed variables holding what the row lists: the witness. -/
noncomputable def laidWorld (os : Os) : World :=
  { World.holding Tryz.prog os ⟨#[], #[], []⟩ with heap := (((World.holding Tryz.prog os ⟨#[], #[], []⟩).heap.modify 1 (setC (cellsD Rows.laid_internal_strconv_uint64pow10))).modify 2 (setC (cellsD Rows.laid_math_bits_deBruijn32tab))).modify 3 (setC (cellsD Rows.laid_math_bits_deBruijn64tab)) }
theorem laid_met (os : Os) (args : Array Value) : laidMet Tryz.prog [("math/bits.deBruijn32tab", Rows.laid_math_bits_deBruijn32tab), ("math/bits.deBruijn64tab", Rows.laid_math_bits_deBruijn64tab), ("internal/strconv.uint64pow10", Rows.laid_internal_strconv_uint64pow10)] ((laidWorld os).forCall (fun _ _ => 0) ⟨#[], args, []⟩).memory :=
  laidMet_of_run' 8 (by kernel_rfl) (by kernel_rfl)
theorem powIs {w : World} (h : laidMet Tryz.prog [("math/bits.deBruijn32tab", Rows.laid_math_bits_deBruijn32tab), ("math/bits.deBruijn64tab", Rows.laid_math_bits_deBruijn64tab), ("internal/strconv.uint64pow10", Rows.laid_internal_strconv_uint64pow10)] w) : ∃ e f, w.heap[1]? = some (.cells powV e f) := by
  have hg : Tryz.prog.globalNamed "internal/strconv.uint64pow10" = some 1 := by kernel_rfl
  have h2 : laidMet Tryz.prog [("internal/strconv.uint64pow10", Rows.laid_internal_strconv_uint64pow10)] w := laid_tail (laid_tail h)
  have h3 : Lib.TabIs Tryz.prog w "internal/strconv.uint64pow10" .u64 Lib.pow10Tab := by
    exact Lib.tabIs_of_head (g := 1) (t := 164) (e := 131) (n := 20) hg (by kernel_rfl) (by kernel_rfl) (by kernel_rfl) (by kernel_rfl) (by kernel_rfl) h2
  unfold Lib.TabIs World.var? at h3
  rw [hg] at h3
  simp only [Option.bind_some] at h3
  split at h3
  · rename_i C e f hC
    simp only [Option.some.injEq] at h3
    subst h3
    exact ⟨e, f, hC⟩
  · cases h3

theorem opn3 : Opn Tryz.prog 3 fun ds => ∃ n, ds = [I n] ∧ (Lit.int .i64 n).wf = true := opn_int Tryz.underlying3
theorem opn9 : Opn Tryz.prog 9 fun ds => ∃ s : ByteArray, ds = [Sb s] ∧ s.size ≤ maxLen := opn_string Tryz.underlying9
theorem opn60 : Opn Tryz.prog 60 fun ds => ∃ a b, ds = [I a, I b] := (opn_struct Tryz.underlying60 (by kernel_rfl) (.cons opn3 (.cons opn3 .nil))).mono fun ds h => by
  obtain ⟨_, _, rfl, ⟨a, rfl, _⟩, _, _, rfl, ⟨b, rfl, _⟩, rfl⟩ := h
  exact ⟨a, b, rfl⟩
theorem opn62 : Opn Tryz.prog 62 fun ds => ∃ x : Lis, ds = x.enc := (opn_struct Tryz.underlying62 (by kernel_rfl) (.cons opn3 (.cons opn3 (.cons opn9 (.cons opn60 (.cons opn3 (.cons opn9 .nil))))))).mono fun ds h => by
  obtain ⟨_, _, rfl, ⟨a, rfl, _⟩, _, _, rfl, ⟨b, rfl, _⟩, _, _, rfl, ⟨c, rfl, _⟩, _, _, rfl, ⟨e, g, rfl⟩, _, _, rfl, ⟨s, rfl, _⟩, _, _, rfl, ⟨u, rfl, _⟩, rfl⟩ := h
  exact ⟨⟨a, b, c, e, g, s, u⟩, rfl⟩
theorem opn47 : Opn Tryz.prog 47 fun ds => ∃ x : Rec, ds = x.enc := (opn_struct Tryz.underlying47 (by kernel_rfl) (.cons opn3 (.cons opn3 (.cons opn9 .nil)))).mono fun ds h => by
  obtain ⟨_, _, rfl, ⟨a, rfl, _⟩, _, _, rfl, ⟨b, rfl, _⟩, _, _, rfl, ⟨c, rfl, _⟩, rfl⟩ := h
  exact ⟨⟨a, b, c⟩, rfl⟩
theorem opn30 : Opn Tryz.prog 30 fun ds => ∃ x : Dif, ds = x.enc := (opn_struct Tryz.underlying30 (by kernel_rfl) (.cons opn3 (.cons opn3 .nil))).mono fun ds h => by
  obtain ⟨_, _, rfl, ⟨a, rfl, _⟩, _, _, rfl, ⟨b, rfl, _⟩, rfl⟩ := h
  exact ⟨⟨a, b⟩, rfl⟩
theorem opn22 : Opn Tryz.prog 22 fun ds => ∃ y, ds = [y] ∧ ∃ n g, y = SL none 7 Lis.enc n g ∧ n ≤ maxLen := (opn_slice (sz := 7) (Lis.enc default) Tryz.underlying22 (by kernel_rfl) (by omega) opn62 ⟨_, rfl⟩).mono fun ds h => by
  obtain ⟨n, row, rfl, hn, h⟩ := h
  exact ⟨_, rfl, n, fun i => (h i).choose, congrArg (D.sl none 7 n) (funext fun i => (h i).choose_spec), hn⟩
theorem opn25 : Opn Tryz.prog 25 fun ds => ∃ y, ds = [y] ∧ ∃ n g, y = SL none 3 Rec.enc n g ∧ n ≤ maxLen := (opn_slice (sz := 3) (Rec.enc default) Tryz.underlying25 (by kernel_rfl) (by omega) opn47 ⟨_, rfl⟩).mono fun ds h => by
  obtain ⟨n, row, rfl, hn, h⟩ := h
  exact ⟨_, rfl, n, fun i => (h i).choose, congrArg (D.sl none 3 n) (funext fun i => (h i).choose_spec), hn⟩
theorem opn26 : Opn Tryz.prog 26 fun ds => ∃ y, ds = [y] ∧ ∃ n g, y = SL none 2 Dif.enc n g ∧ n ≤ maxLen := (opn_slice (sz := 2) (Dif.enc default) Tryz.underlying26 (by kernel_rfl) (by omega) opn30 ⟨_, rfl⟩).mono fun ds h => by
  obtain ⟨n, row, rfl, hn, h⟩ := h
  exact ⟨_, rfl, n, fun i => (h i).choose, congrArg (D.sl none 2 n) (funext fun i => (h i).choose_spec), hn⟩
theorem opn24 : Opn Tryz.prog 24 fun ds => ∃ t : TL, ds = t.enc ∧ t.n ≤ 9223372036854775807 := (opn_struct Tryz.underlying24 (by kernel_rfl) (.cons opn3 (.cons opn3 (.cons opn3 (.cons opn22 .nil))))).mono fun ds h => by
  obtain ⟨_, _, rfl, ⟨a, rfl, _⟩, _, _, rfl, ⟨b, rfl, _⟩, _, _, rfl, ⟨c, rfl, _⟩, _, _, rfl, ⟨y, rfl, n, g, rfl, h1⟩, rfl⟩ := h
  exact ⟨⟨a, b, c, n, g⟩, rfl, h1⟩
theorem opn28 : Opn Tryz.prog 28 fun ds => ∃ a : Acs, ds = a.enc ∧ a.nr ≤ 9223372036854775807 ∧ a.na ≤ 9223372036854775807 := (opn_struct Tryz.underlying28 (by kernel_rfl) (.cons opn3 (.cons opn3 (.cons opn3 (.cons opn25 (.cons opn26 .nil)))))).mono fun ds h => by
  obtain ⟨_, _, rfl, ⟨a, rfl, _⟩, _, _, rfl, ⟨b, rfl, _⟩, _, _, rfl, ⟨c, rfl, _⟩, _, _, rfl, ⟨y, rfl, n, g, rfl, h1⟩, _, _, rfl, ⟨y', rfl, n', g', rfl, h2⟩, rfl⟩ := h
  exact ⟨⟨a, b, c, n, g, n', g'⟩, rfl, h1, h2⟩

end Go.Proofs.YtnbokgmimbeihaaGreatDoor

/-! Cs -/
namespace Go.Proofs.YtnbokgmimbeihaaGreatDoor
open Go.Abs Go.Arch
set_option linter.unusedVariables false
set_option linter.unusedSimpArgs false
set_option maxRecDepth 100000
set_option maxHeartbeats 1000000


theorem accession_Agree_cs (σ : List Blk) (t : TL) (a : Acs) (d : Dif) (hn : t.n < 1000000000) (hN : ∀ i, i < t.n → (t.g i).Title.size < 4294967281) (hσ : σ[0]? = some (.loc 0)) (hm : a.nr < 1000000000) (hk : a.na < 1000000000) : CSF Tryz.prog 23 [.agg (t.enc.map .d), .agg (a.enc.map .d), .agg (d.enc.map .d)] σ (.tup [.agg ((agrP t a d).1.enc.map .d), .d (I (agrP t a d).2)]) := by
  have hal := allD_len t.n t.g a.nr a.r
  have hb : bsIs (allD t.n t.g a.nr a.r).length (fun i => ordD (nth (allD t.n t.g a.nr a.r) i) d) = decide (d ∈ allT t a) := bs_is (allD_asc _ _ _ _) d
  refine CSF.of_body T.en23 Tryz.func23 rfl (by simp [Tryz.ntmps23]) (by simp [go_sem]) fun hwf => ?_
  refine awp_reg_seq fun K hK => ?_
  simp [go_sem, Tryz.ntmps23, hb, hwf.one, hwf.zero]
  repeat refine ⟨by omega, ?_⟩
  refine hK _ ?_; clear hK K
  refine awp_seq ?_
  refine awp_reg_seq fun K hK => ?_
  simp [go_sem, hb, hwf.one, hwf.zero]
  repeat refine ⟨by omega, ?_⟩
  refine CSk.mk (accession_Check_cs _ t a hn hN (loc_app hσ) hm hk) ?_
  simp [go_sem, hb, hwf.one, hwf.zero]
  repeat refine ⟨by omega, ?_⟩
  refine hK _ ?_; clear hK K
  refine awp_reg_seq fun K hK => ?_
  simp [go_sem, hb, hwf.one, hwf.zero]
  repeat refine ⟨by omega, ?_⟩
  refine hK _ ?_; clear hK K
  refine awp_forget [3, 4, 5, 6, 8, 17] (by simp only [restr, List.contains_cons, List.contains_nil, Nat.reduceBEq, Bool.or_false, Bool.or_true, Bool.true_or, Bool.false_or, if_true, if_false, Bool.false_eq_true]; rfl) ?_
  refine awp_cond rfl (fun c0 => ?_) (fun c0 => ?_)
  · have d0 := c0; try simp at d0
    have hz : agrP t a d = (acs0, chkA t a) := by unfold agrP; rw [if_pos d0]
    refine awp_reg_seq fun K hK => ?_
    simp [go_sem, hb, hwf.one, hwf.zero, c0, d0]
    repeat refine ⟨by omega, ?_⟩
    refine hK _ ?_; clear hK K
    refine awp_ret ?_
    rw [hz]; simp [go_sem, Tryz.results23, acs0]
  · have d0 := c0; try simp at d0
    have hc := chkH_zero (chkA_zero.1 d0).1
    have ho := (ordR_iff _ _).1 hc.2.2.2.2.2.1
    have hag := (agrB_iff _ _ _).1 (chkA_zero.1 d0).2
    have hd2 := isD hag d
    refine awp_skip ?_
    refine awp_seq ?_
    refine awp_draw_seq 10 T.mixed (by kernel_rfl) fun K hK => ?_
    simp [go_sem, hb, hwf.one, hwf.zero, c0, d0, hd2]
    repeat refine ⟨by omega, ?_⟩
    refine CSg.mk (compare_cs _ t none a.nr a.r hc.1 ho.2 (by omega)) ?_
    simp [go_sem, hb, hwf.one, hwf.zero, c0, d0, hd2]
    repeat refine ⟨by omega, ?_⟩
    refine CSg.mk (accession_find_cs _ none _ (nth (allD t.n t.g a.nr a.r)) d (by omega)) ?_
    simp [go_sem, hb, hwf.one, hwf.zero, c0, d0, hd2]
    repeat refine ⟨by omega, ?_⟩
    refine hK _ ?_; clear hK K
    refine awp_reg_seq fun K hK => ?_
    simp [go_sem, hb, hwf.one, hwf.zero, c0, d0, hd2]
    repeat refine ⟨by omega, ?_⟩
    refine hK _ ?_; clear hK K
    refine awp_forget [4, 5, 6, 30] (by simp only [restr, List.contains_cons, List.contains_nil, Nat.reduceBEq, Bool.or_false, Bool.or_true, Bool.true_or, Bool.false_or, if_true, if_false, Bool.false_eq_true]; rfl) ?_
    refine awp_cond rfl (fun c1 => ?_) (fun c1 => ?_)
    · have d1 := c1; try simp at d1
      have hz : agrP t a d = (acs0, 7) := by unfold agrP; rw [if_neg (by simp [d0]), if_pos d1]
      refine awp_reg_seq fun K hK => ?_
      simp [go_sem, hb, hwf.one, hwf.zero, c0, d0, hd2, c1, d1]
      repeat refine ⟨by omega, ?_⟩
      refine hK _ ?_; clear hK K
      refine awp_ret ?_
      rw [hz]; simp [go_sem, Tryz.results23, acs0]
    · have d1 := c1; try simp at d1
      refine awp_skip ?_
      refine awp_reg_seq fun K hK => ?_
      simp [go_sem, hb, hwf.one, hwf.zero, c0, d0, hd2, c1, d1]
      repeat refine ⟨by omega, ?_⟩
      refine CSk.mk (accession_find_cs _ none a.na a.a d hk) ?_
      simp [go_sem, hb, hwf.one, hwf.zero, c0, d0, hd2, c1, d1]
      repeat refine ⟨by omega, ?_⟩
      refine hK _ ?_; clear hK K
      refine awp_seq ?_
      refine awp_reg_seq fun K hK => ?_
      simp [go_sem, hb, hwf.one, hwf.zero, c0, d0, hd2, c1, d1]
      repeat refine ⟨by omega, ?_⟩
      refine hK _ ?_; clear hK K
      refine awp_forget [4, 5, 6, 11, 39] (by simp only [restr, List.contains_cons, List.contains_nil, Nat.reduceBEq, Bool.or_false, Bool.or_true, Bool.true_or, Bool.false_or, if_true, if_false, Bool.false_eq_true]; rfl) ?_
      refine awp_cond rfl (fun c2 => ?_) (fun c2 => ?_)
      · have d2 := c2; try simp at d2
        have hz : agrP t a d = (acs0, 6) := by unfold agrP; rw [if_neg (by simp [d0]), if_neg (by simp [d1]), if_pos d2]
        refine awp_reg_seq fun K hK => ?_
        simp [go_sem, hb, hwf.one, hwf.zero, c0, d0, hd2, c1, d1, c2, d2]
        repeat refine ⟨by omega, ?_⟩
        refine hK _ ?_; clear hK K
        refine awp_ret ?_
        rw [hz]; simp [go_sem, Tryz.results23, acs0]
      · have d2 := c2; try simp at d2
        refine awp_skip ?_
        refine awp_seq ?_
        refine awp_reg_seq fun K hK => ?_
        simp [go_sem, hb, hwf.one, hwf.zero, c0, d0, hd2, c1, d1, c2, d2]
        repeat refine ⟨by omega, ?_⟩
        refine hK _ ?_; clear hK K
        refine awp_forget [4, 5, 6, 11, 44] (by simp only [restr, List.contains_cons, List.contains_nil, Nat.reduceBEq, Bool.or_false, Bool.or_true, Bool.true_or, Bool.false_or, if_true, if_false, Bool.false_eq_true]; rfl) ?_
        refine awp_cond rfl (fun c3 => ?_) (fun c3 => ?_)
        · have d3 := c3; try simp at d3
          have hz : agrP t a d = (acs0, 8) := by unfold agrP; rw [if_neg (by simp [d0]), if_neg (by simp [d1]), if_neg (by simp [d2]), if_pos (by omega)]
          refine awp_reg_seq fun K hK => ?_
          simp [go_sem, hb, hwf.one, hwf.zero, c0, d0, hd2, c1, d1, c2, d2, c3, d3]
          repeat refine ⟨by omega, ?_⟩
          refine hK _ ?_; clear hK K
          refine awp_ret ?_
          rw [hz]; simp [go_sem, Tryz.results23, acs0]
        · have d3 := c3; try simp at d3
          have hz : agrP t a d = (putD a d, 0) := by unfold agrP; rw [if_neg (by simp [d0]), if_neg (by simp [d1]), if_neg (by simp [d2]), if_neg (by omega)]
          refine awp_skip ?_
          refine awp_reg_seq fun K hK => ?_
          simp [go_sem, hb, hwf.one, hwf.zero, c0, d0, hd2, c1, d1, c2, d2, c3, d3]
          repeat refine ⟨by omega, ?_⟩
          refine CSk.gen (ownA_cs _ a hm hk) ?_; rintro r σ' X ⟨rfl, rfl, x, y, rfl⟩
          simp [go_sem, hb, hwf.one, hwf.zero, c0, d0, hd2, c1, d1, c2, d2, c3, d3]
          repeat refine ⟨by omega, ?_⟩
          refine hK _ ?_; clear hK K
          refine awp_reg_seq fun K hK => ?_
          simp [go_sem, hb, hwf.one, hwf.zero, c0, d0, hd2, c1, d1, c2, d2, c3, d3]
          repeat refine ⟨by omega, ?_⟩
          refine CSk.gen (insertDif_in σ [_, _, _, _, _, _] [] a.na a.a d (posD a.na a.a d) (posD_le _ _ _) hk) ?_; rintro r σ' X ⟨rfl, rfl, rfl⟩
          simp [go_sem, hb, hwf.one, hwf.zero, c0, d0, hd2, c1, d1, c2, d2, c3, d3]
          repeat refine ⟨by omega, ?_⟩
          refine hK _ ?_; clear hK K
          refine awp_reg_seq fun K hK => ?_
          simp [go_sem, hb, hwf.one, hwf.zero, c0, d0, hd2, c1, d1, c2, d2, c3, d3]
          repeat refine ⟨by omega, ?_⟩
          refine hK _ ?_; clear hK K
          refine awp_ret ?_
          rw [hz]; simp [go_sem, Tryz.results23, putD]

theorem receive2_cs (σ : List Blk) (b1 b2 b3 b4 : Blk) (τ : List Blk) (r : Rec) (c : Option Nat) (n : Nat) (g : Nat → Dif) (d : Dif) (hn : n < 1000000000) : CSF Tryz.prog 61 [.agg (d.enc.map .d), .ptr (σ.length + 5) 0, .ptr σ.length 0] (σ ++ .var (r.enc.map .d) :: b1 :: b2 :: b3 :: b4 :: .var [.d (SL c 2 Dif.enc n g)] :: τ) (.d (B (d.Number == r.Number && !(bsIs n fun i => ordD (g i) d)))) := by
  refine CSF.of_body T.en61 Tryz.func61 rfl (by simp [Tryz.ntmps61]) (by simp [go_sem]) fun hwf => ?_
  refine awp_reg_seq fun K hK => ?_
  simp [go_sem, Tryz.ntmps61]
  repeat refine ⟨by omega, ?_⟩
  refine hK _ ?_; clear hK K
  refine awp_reg_seq fun K hK => ?_
  simp [go_sem]
  repeat refine ⟨by omega, ?_⟩
  refine CSk.mk (accession_find_cs _ c n g d hn) ?_
  simp [go_sem]
  repeat refine ⟨by omega, ?_⟩
  refine hK _ ?_; clear hK K
  refine awp_reg_seq fun K hK => ?_
  simp [go_sem]
  repeat refine ⟨by omega, ?_⟩
  refine hK _ ?_; clear hK K
  refine awp_ret ?_
  simp [go_sem, Tryz.results61] <;> omega

theorem receive2_in (σ : List Blk) (c1 c2 b1 b2 b3 b4 : Blk) (r : Rec) (c : Option Nat) (n : Nat) (g : Nat → Dif) (d : Dif) (hn : n < 1000000000) : CSF Tryz.prog 61 [.agg (d.enc.map .d), .ptr (σ.length + 7) 0, .ptr (σ.length + 2) 0] (σ ++ [c1, c2, .var (r.enc.map .d), b1, b2, b3, b4, .var [.d (SL c 2 Dif.enc n g)]]) (.d (B (d.Number == r.Number && !(bsIs n fun i => ordD (g i) d)))) := by
  have h := receive2_cs (σ ++ [c1, c2]) b1 b2 b3 b4 [] r c n g d hn
  simpa using h

theorem accession_Receive_cs (σ : List Blk) (t : TL) (a : Acs) (r : Rec) (hn : t.n < 1000000000) (hN : ∀ i, i < t.n → (t.g i).Title.size < 4294967281) (hσ : σ[0]? = some (.loc 0)) (hm : a.nr < 1000000000) (hk : a.na < 1000000000) (hr : r.Digest.size < 1000000000) : CSF Tryz.prog 25 [.agg (t.enc.map .d), .agg (a.enc.map .d), .agg (r.enc.map .d)] σ (.tup [.agg ((rcvP t a r).1.enc.map .d), .d (I (rcvP t a r).2)]) := by
  have hal := allD_len t.n t.g (a.nr + 1) (insG a.r (posR a.nr a.r r.Number) r)
  refine CSF.of_body T.en25 Tryz.func25 rfl (by simp [Tryz.ntmps25]) (by simp [go_sem]) fun hwf => ?_
  refine awp_reg_seq fun K hK => ?_
  simp [go_sem, Tryz.ntmps25, hwf.one, hwf.zero]
  repeat refine ⟨by omega, ?_⟩
  refine hK _ ?_; clear hK K
  refine awp_reg_seq fun K hK => ?_
  simp [go_sem, hwf.one, hwf.zero]
  repeat refine ⟨by omega, ?_⟩
  refine CSk.mk (accession_Check_cs _ t a hn hN (loc_app hσ) hm hk) ?_
  simp [go_sem, hwf.one, hwf.zero]
  repeat refine ⟨by omega, ?_⟩
  refine hK _ ?_; clear hK K
  refine awp_reg_seq fun K hK => ?_
  simp [go_sem, hwf.one, hwf.zero]
  repeat refine ⟨by omega, ?_⟩
  refine CSk.mk (bsRec_cs _ none a.nr a.r r.Number 58 [] (fun i => cmpI (a.r i).Number r.Number) hm (fun i hi => accession_Receive_1_cs _ _ _)) ?_
  simp [go_sem, hwf.one, hwf.zero]
  repeat refine ⟨by omega, ?_⟩
  refine hK _ ?_; clear hK K
  refine awp_seq ?_
  refine awp_block ?_
  refine awp_reg_seq fun K hK => ?_
  simp [go_sem, hwf.one, hwf.zero]
  repeat refine ⟨by omega, ?_⟩
  refine hK _ ?_; clear hK K
  refine awp_forget [3, 4, 5, 6, 8, 9, 10, 24] (by simp only [restr, List.contains_cons, List.contains_nil, Nat.reduceBEq, Bool.or_false, Bool.or_true, Bool.true_or, Bool.false_or, if_true, if_false, Bool.false_eq_true]; rfl) ?_
  refine awp_cond rfl (fun c0 => ?_) (fun c0 => ?_)
  · have d0 := c0; try simp at d0
    have hz : rcvP t a r = (acs0, chkA t a) := by unfold rcvP; rw [if_pos d0]
    refine awp_reg_seq fun K hK => ?_
    simp [go_sem, hwf.one, hwf.zero, c0, d0]
    repeat refine ⟨by omega, ?_⟩
    refine hK _ ?_; clear hK K
    refine awp_ret ?_
    rw [hz]; simp [go_sem, Tryz.results25, acs0]
  · have d0 := c0; try simp at d0
    have hc := chkH_zero (chkA_zero.1 d0).1
    have ho := (ordR_iff _ _).1 hc.2.2.2.2.2.1
    have hag := (agrB_iff _ _ _).1 (chkA_zero.1 d0).2
    have hd2 := isR ho.2 r.Number
    refine awp_reg_seq fun K hK => ?_
    simp [go_sem, hwf.one, hwf.zero, c0, d0, hd2]
    repeat refine ⟨by omega, ?_⟩
    refine CSk.mk (accession_within_cs _ r.Number 1 9999) ?_
    simp [go_sem, hwf.one, hwf.zero, c0, d0, hd2]
    repeat refine ⟨by omega, ?_⟩
    refine CSm.mk' (.d (B (inB r.Pages 1 100000))) (fun hg => accession_within_cs _ _ _ _) ?_
    simp [go_sem, hwf.one, hwf.zero, c0, d0, hd2]
    repeat refine ⟨by omega, ?_⟩
    refine hK _ ?_; clear hK K
    refine awp_forget [3, 4, 5, 6, 9, 10, 29] (by simp only [restr, List.contains_cons, List.contains_nil, Nat.reduceBEq, Bool.or_false, Bool.or_true, Bool.true_or, Bool.false_or, if_true, if_false, Bool.false_eq_true]; rfl) ?_
    refine awp_cond rfl (fun c1 => ?_) (fun c1 => ?_)
    · have d1 := c1; try simp at d1
      have hre : recE r = 2 := by
        unfold recE; rw [if_pos]
        cases h1 : inB r.Number 1 9999 <;> cases h2 : inB r.Pages 1 100000 <;> simp_all
      have hz : rcvP t a r = (acs0, 2) := by unfold rcvP; rw [if_neg (by simp [d0]), if_pos (by rw [hre]; decide), hre]
      refine awp_reg_seq fun K hK => ?_
      simp [go_sem, hwf.one, hwf.zero, c0, d0, hd2, c1, d1]
      repeat refine ⟨by omega, ?_⟩
      refine hK _ ?_; clear hK K
      refine awp_ret ?_
      rw [hz]; simp [go_sem, Tryz.results25, acs0]
    · have d1 := c1; try simp at d1
      have hin : (inB r.Number 1 9999 && inB r.Pages 1 100000) = true := by
        cases h1 : inB r.Number 1 9999 <;> cases h2 : inB r.Pages 1 100000 <;> simp_all
      refine awp_reg_seq fun K hK => ?_
      simp [go_sem, hwf.one, hwf.zero, c0, d0, hd2, c1, d1]
      repeat refine ⟨by omega, ?_⟩
      refine hK _ ?_; clear hK K
      refine awp_forget [3, 4, 5, 6, 9, 10, 41] (by simp only [restr, List.contains_cons, List.contains_nil, Nat.reduceBEq, Bool.or_false, Bool.or_true, Bool.true_or, Bool.false_or, if_true, if_false, Bool.false_eq_true]; rfl) ?_
      refine awp_cond rfl (fun c2 => ?_) (fun c2 => ?_)
      · have d2 := c2; try simp at d2
        have hre : recE r = 1 := by
          unfold recE; rw [if_neg (by simp [hin]), if_pos (by omega)]
        have hz : rcvP t a r = (acs0, 1) := by unfold rcvP; rw [if_neg (by simp [d0]), if_pos (by rw [hre]; decide), hre]
        refine awp_reg_seq fun K hK => ?_
        simp [go_sem, hwf.one, hwf.zero, c0, d0, hd2, c1, d1, c2, d2]
        repeat refine ⟨by omega, ?_⟩
        refine hK _ ?_; clear hK K
        refine awp_ret ?_
        rw [hz]; simp [go_sem, Tryz.results25, acs0]
      · have d2 := c2; try simp at d2
        have hre : recE r = 0 := by
          unfold recE; rw [if_neg (by simp [hin]), if_neg (by omega)]
        refine awp_reg_seq fun K hK => ?_
        simp [go_sem, hwf.one, hwf.zero, c0, d0, hd2, c1, d1, c2, d2]
        repeat refine ⟨by omega, ?_⟩
        refine hK _ ?_; clear hK K
        refine awp_forget [3, 4, 5, 6, 9, 47] (by simp only [restr, List.contains_cons, List.contains_nil, Nat.reduceBEq, Bool.or_false, Bool.or_true, Bool.true_or, Bool.false_or, if_true, if_false, Bool.false_eq_true]; rfl) ?_
        refine awp_cond rfl (fun c3 => ?_) (fun c3 => ?_)
        · have d3 := c3; try simp at d3
          have hz : rcvP t a r = (acs0, 6) := by unfold rcvP; rw [if_neg (by simp [d0]), if_neg (by simp [hre]), if_pos d3]
          refine awp_reg_seq fun K hK => ?_
          simp [go_sem, hwf.one, hwf.zero, c0, d0, hd2, c1, d1, c2, d2, c3, d3]
          repeat refine ⟨by omega, ?_⟩
          refine hK _ ?_; clear hK K
          refine awp_ret ?_
          rw [hz]; simp [go_sem, Tryz.results25, acs0]
        · have d3 := c3; try simp at d3
          have hno : (gotR a.nr a.r r.Number).2 = false := by simpa using d3
          have hst : (lst a.na a.a).any (fun d => d.Number == r.Number && !(bsIs (allD t.n t.g (a.nr + 1) (insG a.r (posR a.nr a.r r.Number) r)).length fun i => ordD (nth (allD t.n t.g (a.nr + 1) (insG a.r (posR a.nr a.r r.Number) r)) i) d)) = !agrB (allT t (putR a r)) a.na a.a := by
            simp only [bs_is (allD_asc _ _ _ _)]
            exact stale_agr hag ho.2 hre hno
          refine awp_skip ?_
          refine awp_reg_seq fun K hK => ?_
          simp [go_sem, hwf.one, hwf.zero, c0, d0, hd2, c1, d1, c2, d2, c3, d3, hst]
          repeat refine ⟨by omega, ?_⟩
          refine CSk.gen (ownR_cs _ a hm hk) ?_; rintro q σ' X ⟨rfl, rfl, x, y, rfl⟩
          simp [go_sem, hwf.one, hwf.zero, c0, d0, hd2, c1, d1, c2, d2, c3, d3, hst]
          repeat refine ⟨by omega, ?_⟩
          refine hK _ ?_; clear hK K
          refine awp_reg_seq fun K hK => ?_
          simp [go_sem, hwf.one, hwf.zero, c0, d0, hd2, c1, d1, c2, d2, c3, d3, hst]
          repeat refine ⟨by omega, ?_⟩
          refine CSk.gen (insertRec_in σ [_, _, _, _, _, _] [] a.nr a.r r (posR a.nr a.r r.Number) (posR_le _ _ _) hm) ?_; rintro q σ' X ⟨rfl, rfl, rfl⟩
          simp [go_sem, hwf.one, hwf.zero, c0, d0, hd2, c1, d1, c2, d2, c3, d3, hst]
          repeat refine ⟨by omega, ?_⟩
          refine hK _ ?_; clear hK K
          refine awp_reg_seq fun K hK => ?_
          simp [go_sem, hwf.one, hwf.zero, c0, d0, hd2, c1, d1, c2, d2, c3, d3, hst]
          repeat refine ⟨by omega, ?_⟩
          refine CSk.mk (compare_cs _ t none (a.nr + 1) (insG a.r (posR a.nr a.r r.Number) r) hc.1 (ho.2.ins hre hno) (by omega)) ?_
          simp [go_sem, hwf.one, hwf.zero, c0, d0, hd2, c1, d1, c2, d2, c3, d3, hst]
          repeat refine ⟨by omega, ?_⟩
          refine hK _ ?_; clear hK K
          refine awp_reg_seq fun K hK => ?_
          simp [go_sem, hwf.one, hwf.zero, c0, d0, hd2, c1, d1, c2, d2, c3, d3, hst]
          repeat refine ⟨by omega, ?_⟩
          refine hK _ ?_; clear hK K
          refine awp_seq ?_
          refine awp_block ?_
          refine awp_reg_seq fun K hK => ?_
          simp [go_sem, hwf.one, hwf.zero, c0, d0, hd2, c1, d1, c2, d2, c3, d3, hst]
          repeat refine ⟨by omega, ?_⟩
          refine CSk.mk (containsDif_cs _ none a.na a.a 61 [.ptr (σ.length + 7) 0, .ptr (σ.length + 2) 0] (fun d => d.Number == r.Number && !(bsIs (allD t.n t.g (a.nr + 1) (insG a.r (posR a.nr a.r r.Number) r)).length fun i => ordD (nth (allD t.n t.g (a.nr + 1) (insG a.r (posR a.nr a.r r.Number) r)) i) d)) hk (fun i hi => receive2_in σ _ _ _ _ _ _ r none _ (nth (allD t.n t.g (a.nr + 1) (insG a.r (posR a.nr a.r r.Number) r))) (a.a i) (by omega))) ?_
          simp [go_sem, hwf.one, hwf.zero, c0, d0, hd2, c1, d1, c2, d2, c3, d3, hst]
          repeat refine ⟨by omega, ?_⟩
          refine hK _ ?_; clear hK K
          refine awp_forget [4, 6, 64] (by simp only [restr, List.contains_cons, List.contains_nil, Nat.reduceBEq, Bool.or_false, Bool.or_true, Bool.true_or, Bool.false_or, if_true, if_false, Bool.false_eq_true]; rfl) ?_
          refine awp_cond rfl (fun c4 => ?_) (fun c4 => ?_)
          · have d4 := c4; try simp at d4
            have hz : rcvP t a r = (acs0, 11) := by unfold rcvP; rw [if_neg (by simp [d0]), if_neg (by simp [hre]), if_neg (by simp [hno]), if_pos (by simpa using d4)]
            refine awp_reg_seq fun K hK => ?_
            simp [go_sem, hwf.one, hwf.zero, c0, d0, hd2, c1, d1, c2, d2, c3, d3, hst, c4, d4]
            repeat refine ⟨by omega, ?_⟩
            refine hK _ ?_; clear hK K
            refine awp_ret ?_
            rw [hz]; simp [go_sem, Tryz.results25, acs0]
          · have d4 := c4; try simp at d4
            have hag2 : agrB (allT t (putR a r)) a.na a.a = true := by simpa using d4
            refine awp_reg_seq fun K hK => ?_
            simp [go_sem, hwf.one, hwf.zero, c0, d0, hd2, c1, d1, c2, d2, c3, d3, hst, c4, d4]
            repeat refine ⟨by omega, ?_⟩
            refine hK _ ?_; clear hK K
            refine awp_forget [4, 6, 70] (by simp only [restr, List.contains_cons, List.contains_nil, Nat.reduceBEq, Bool.or_false, Bool.or_true, Bool.true_or, Bool.false_or, if_true, if_false, Bool.false_eq_true]; rfl) ?_
            refine awp_cond rfl (fun c5 => ?_) (fun c5 => ?_)
            · have d5 := c5; try simp at d5
              have hz : rcvP t a r = (acs0, 8) := by unfold rcvP; rw [if_neg (by simp [d0]), if_neg (by simp [hre]), if_neg (by simp [hno]), if_neg (by simp [hag2]), if_pos (by omega)]
              refine awp_reg_seq fun K hK => ?_
              simp [go_sem, hwf.one, hwf.zero, c0, d0, hd2, c1, d1, c2, d2, c3, d3, hst, c4, d4, c5, d5]
              repeat refine ⟨by omega, ?_⟩
              refine hK _ ?_; clear hK K
              refine awp_ret ?_
              rw [hz]; simp [go_sem, Tryz.results25, acs0]
            · have d5 := c5; try simp at d5
              have hz : rcvP t a r = (putR a r, 0) := by unfold rcvP; rw [if_neg (by simp [d0]), if_neg (by simp [hre]), if_neg (by simp [hno]), if_neg (by simp [hag2]), if_neg (by omega)]
              refine awp_skip ?_
              refine awp_reg_seq fun K hK => ?_
              simp [go_sem, hwf.one, hwf.zero, c0, d0, hd2, c1, d1, c2, d2, c3, d3, hst, c4, d4, c5, d5]
              repeat refine ⟨by omega, ?_⟩
              refine hK _ ?_; clear hK K
              refine awp_ret ?_
              rw [hz]; simp [go_sem, Tryz.results25, putR]

end Go.Proofs.YtnbokgmimbeihaaGreatDoor

/-! Cm -/
namespace Go.Proofs.YtnbokgmimbeihaaGreatDoor
open Go.Abs Go.Arch
set_option linter.unusedVariables false
set_option linter.unusedSimpArgs false
set_option maxRecDepth 100000
set_option maxHeartbeats 1000000

def wordB (k : Int) : ByteArray := if k = 1 then ⟨#[105, 115, 32, 109, 105, 115, 115, 105, 110, 103]⟩ else if k = 2 then ⟨#[105, 115, 32, 110, 111, 116, 32, 111, 110, 32, 116, 104, 101, 32, 108, 105, 115, 116]⟩ else if k = 3 then ⟨#[104, 97, 115, 32, 97, 110, 111, 116, 104, 101, 114, 32, 110, 117, 109, 98, 101, 114, 32, 111, 102, 32, 112, 97, 103, 101, 115]⟩ else ⟨#[104, 97, 115, 32, 111, 116, 104, 101, 114, 32, 99, 111, 110, 116, 101, 110, 116, 115]⟩
def numB : ByteArray := ⟨#[110, 117, 109, 98, 101, 114, 32]⟩
def txtP (d : Dif) : ByteArray × Int := if inB d.Kind 1 4 = false ∨ inB d.Number 1 9999 = false then (⟨#[]⟩, 2) else (numB ++ ⟨(Lib.decDigits d.Number.toNat).toArray⟩ ++ ⟨#[32]⟩ ++ wordB d.Kind, 0)
theorem word_row {k : Int} (h1 : 1 ≤ k) (h2 : k ≤ 4) : rowsOf 1 [D.v (Value.string ⟨#[105, 115, 32, 109, 105, 115, 115, 105, 110, 103]⟩), D.v (Value.string ⟨#[105, 115, 32, 110, 111, 116, 32, 111, 110, 32, 116, 104, 101, 32, 108, 105, 115, 116]⟩), D.v (Value.string ⟨#[104, 97, 115, 32, 97, 110, 111, 116, 104, 101, 114, 32, 110, 117, 109, 98, 101, 114, 32, 111, 102, 32, 112, 97, 103, 101, 115]⟩), D.v (Value.string ⟨#[104, 97, 115, 32, 111, 116, 104, 101, 114, 32, 99, 111, 110, 116, 101, 110, 116, 115]⟩)] (k.toNat - 1) = [Sb (wordB k)] := by
  rcases (by omega : k = 1 ∨ k = 2 ∨ k = 3 ∨ k = 4) with rfl | rfl | rfl | rfl <;> rfl
theorem word_len (k : Int) : (wordB k).size ≤ 100 := by
  unfold wordB; split
  · decide
  · split
    · decide
    · split <;> decide


theorem ref17_Text_cs (σ : List Blk) (d : Dif) : CSF Tryz.prog 18 [.agg (d.enc.map .d)] σ (.tup [.d (Sb (txtP d).1), .d (I (txtP d).2)]) := by
  refine CSF.of_body T.en18 Tryz.func18 rfl (by simp [Tryz.ntmps18]) (by simp [go_sem]) fun hwf => ?_
  refine awp_reg_seq fun K hK => ?_
  simp [go_sem, Tryz.ntmps18]
  repeat refine ⟨by omega, ?_⟩
  refine hK _ ?_; clear hK K
  refine awp_seq ?_
  refine awp_reg_seq fun K hK => ?_
  simp [go_sem]
  repeat refine ⟨by omega, ?_⟩
  refine hK _ ?_; clear hK K
  refine awp_forget [1, 22] (by simp only [restr, List.contains_cons, List.contains_nil, Nat.reduceBEq, Bool.or_false, Bool.or_true, Bool.true_or, Bool.false_or, if_true, if_false, Bool.false_eq_true]; rfl) ?_
  refine awp_cond rfl (fun c0 => ?_) (fun c0 => ?_)
  · have d0 := c0; try simp at d0
    have hz : txtP d = (⟨#[]⟩, 2) := by
      unfold txtP; rw [if_pos]
      rw [← Bool.not_eq_true, inB_iff, ← Bool.not_eq_true, inB_iff]; omega
    refine awp_reg_seq fun K hK => ?_
    simp [go_sem, c0, d0]
    repeat refine ⟨by omega, ?_⟩
    refine hK _ ?_; clear hK K
    refine awp_ret ?_
    rw [hz]; simp [go_sem, Tryz.results18]
  · have d0 := c0; try simp at d0
    obtain ⟨n, hn⟩ : ∃ n : Nat, d.Number = n := ⟨d.Number.toNat, by omega⟩
    have hlen := dec_len n
    have hrow := word_row (k := d.Kind) (by omega) (by omega)
    have hwl := word_len d.Kind
    have hwk : IntKind.i64.wrap (d.Kind - 1) = d.Kind - 1 := by rw [wrapI (by omega) (by omega)]
    refine awp_skip ?_
    refine awp_reg_seq fun K hK => ?_
    simp [go_sem, c0, d0, hrow, hwk, hn]
    repeat refine ⟨by omega, ?_⟩
    refine hK _ ?_; clear hK K
    refine awp_draw_seq 12 T.mixed (by kernel_rfl) fun K hK => ?_
    simp [go_sem, c0, d0, hrow, hwk, hn]
    try simp (disch := omega) only [wrapI]
    repeat refine ⟨by omega, ?_⟩
    refine CSg.mk (decimal_cs _ n (by omega)) ?_
    simp [go_sem, c0, d0, hrow, hwk, hn]
    try simp (disch := omega) only [wrapI]
    repeat refine ⟨by omega, ?_⟩
    refine hK _ ?_; clear hK K
    refine awp_ret ?_
    have hz : txtP d = (numB ++ ⟨(Lib.decDigits n).toArray⟩ ++ ⟨#[32]⟩ ++ wordB d.Kind, 0) := by
      unfold txtP; rw [if_neg (by rw [← Bool.not_eq_true, inB_iff, ← Bool.not_eq_true, inB_iff]; omega), hn, Int.toNat_natCast]
    rw [hz]; simp [go_sem, Tryz.results18, numB]

end Go.Proofs.YtnbokgmimbeihaaGreatDoor

/-! Cp -/
namespace Go.Proofs.YtnbokgmimbeihaaGreatDoor
open Go.Abs Go.Arch
set_option linter.unusedVariables false
set_option linter.unusedSimpArgs false
set_option maxRecDepth 100000
set_option maxHeartbeats 1000000

def wordK : List Key := [.i 1, .i 2, .i 3, .i 4]
def wordF (k : Key) : AV := .d (Sb (wordB (keyI k)))
theorem wordK_iff (k : Int) : decide (Key.i k ∈ wordK) = inB k 1 4 := by
  rw [Bool.eq_iff_iff, inB_iff]; unfold wordK; simp; omega


theorem accession_Text_cs (σ : List Blk) (d : Dif) (hσ : σ[1]? = some (.tab 1 powV)) : CSF Tryz.prog 17 [.agg (d.enc.map .d)] σ (.tup [.d (Sb (txtP d).1), .d (I (txtP d).2)]) := by
  refine CSF.of_body T.en17 Tryz.func17 rfl (by simp [Tryz.ntmps17]) (by simp [go_sem]) fun hwf => ?_
  refine awp_reg_seq fun K hK => ?_
  simp [go_sem, Tryz.ntmps17, wordF, keyI, wordK_iff]
  repeat refine ⟨by omega, ?_⟩
  refine hK _ ?_; clear hK K
  refine awp_reg_seq fun K hK => ?_
  simp [go_sem, wordF, keyI, wordK_iff]
  repeat refine ⟨by omega, ?_⟩
  refine hK _ ?_; clear hK K
  refine awp_map (σ.length + 1) (ks' := wordK) (f' := wordF) (by simp [go_sem]; first | exact ⟨rfl, rfl, rfl⟩ | exact ⟨rfl, rfl⟩ | rfl) (by decide) (by intro k hk; simp [insK] at hk; rcases hk with rfl | rfl | rfl | rfl <;> exact Same.refl _) (fun _ => rfl) (by first | (simp [go_sem]; rfl) | rfl) ?_
  refine awp_reg_seq fun K hK => ?_
  simp [go_sem, wordF, keyI, wordK_iff]
  repeat refine ⟨by omega, ?_⟩
  refine hK _ ?_; clear hK K
  refine awp_seq ?_
  refine awp_reg_seq fun K hK => ?_
  simp [go_sem, wordF, keyI, wordK_iff]
  repeat refine ⟨by omega, ?_⟩
  refine CSm.mk (accession_within_cs _ d.Number 1 9999) ?_
  simp [go_sem, wordF, keyI, wordK_iff]
  repeat refine ⟨by omega, ?_⟩
  refine hK _ ?_; clear hK K
  refine awp_forget [1, 5, 23] (by simp only [restr, List.contains_cons, List.contains_nil, Nat.reduceBEq, Bool.or_false, Bool.or_true, Bool.true_or, Bool.false_or, if_true, if_false, Bool.false_eq_true]; rfl) ?_
  refine awp_cond rfl (fun c0 => ?_) (fun c0 => ?_)
  · have d0 := c0; try simp at d0
    have hz : txtP d = (⟨#[]⟩, 2) := by
      unfold txtP; rw [if_pos]
      cases h1 : inB d.Kind 1 4 <;> cases h2 : inB d.Number 1 9999 <;> simp_all
    refine awp_reg_seq fun K hK => ?_
    simp [go_sem, wordF, keyI, wordK_iff, c0, d0]
    repeat refine ⟨by omega, ?_⟩
    refine hK _ ?_; clear hK K
    refine awp_ret ?_
    rw [hz]; simp [go_sem, Tryz.results17]
  · have d0 := c0; try simp at d0
    have hin := inB_iff.1 d0.2
    obtain ⟨n, hn⟩ : ∃ n : Nat, d.Number = n := ⟨d.Number.toNat, by omega⟩
    have hlen := dec_len n
    have hwl := word_len d.Kind
    refine awp_skip ?_
    refine awp_reg_seq fun K hK => ?_
    simp [go_sem, wordF, keyI, wordK_iff, c0, d0, hn]
    try simp (disch := omega) only [wrapI]
    repeat refine ⟨by omega, ?_⟩
    refine CSk.mk (itoa_cs _ n (by omega) (by first | exact loc_app hσ | simpa using loc_app hσ)) ?_
    simp [go_sem, wordF, keyI, wordK_iff, c0, d0, hn]
    try simp (disch := omega) only [wrapI]
    repeat refine ⟨by omega, ?_⟩
    refine hK _ ?_; clear hK K
    refine awp_ret ?_
    have hz : txtP d = (numB ++ ⟨(Lib.decDigits n).toArray⟩ ++ ⟨#[32]⟩ ++ wordB d.Kind, 0) := by
      unfold txtP; rw [if_neg (by simp [d0]), hn, Int.toNat_natCast]
    rw [hz]; simp [go_sem, Tryz.results17, numB]

end Go.Proofs.YtnbokgmimbeihaaGreatDoor

/-! Cu -/
namespace Go.Proofs.YtnbokgmimbeihaaGreatDoor
open Go.Abs Go.Arch
set_option linter.unusedVariables false
set_option linter.unusedSimpArgs false
set_option maxRecDepth 100000
set_option maxHeartbeats 1000000

/-- a temporary told in other words -/
theorem awp_told {P : Program} {c : Code} {Q : Exit → St → Prop} {N : Nat} {t : List (Nat × AV)} {σ : List Blk} {mv : List Nat} (k : Nat) {x : AV} (y : AV) (hk : Abs.get t k = some x) (hs : Same x y) (h : AWP P c Q ⟨N, Abs.put t k y, σ, mv⟩) : AWP P c Q ⟨N, t, σ, mv⟩ := by
  intro j0 j a w hr
  refine h j0 j a w ⟨hr.defers, hr.rdok, hr.size, fun k' av hk' => ?_, hr.sto, hr.len0, hr.ag⟩
  simp only at hk'
  rw [get_put] at hk'
  split at hk'
  · rename_i e
    subst e
    simp only [Option.some.injEq] at hk'
    subst hk'
    obtain ⟨h1, h2⟩ := hr.tmp k _ hk
    exact ⟨h1, hs _ _ _ h2⟩
  · exact hr.tmp k' av hk'
/-- a variable told in other words -/
theorem awp_toldV {P : Program} {c : Code} {Q : Exit → St → Prop} {N : Nat} {t : List (Nat × AV)} {σ σ' : List Blk} {mv : List Nat} (b : Nat) {xs : List AV} (ys : List AV) (hb : σ[b]? = some (.var xs)) (hs : sameL0 xs ys) (hσ : σ.set b (.var ys) = σ') (h : AWP P c Q ⟨N, t, σ', mv⟩) : AWP P c Q ⟨N, t, σ, mv⟩ := by
  subst hσ
  refine awp_sub (s' := ⟨N, t, σ.set b (.var ys), mv⟩) ?_ h
  intro j0 j a w hr
  obtain ⟨hl, hss⟩ := sameL0_spec hs
  obtain ⟨o, ho, hB⟩ := hr.sto.blk b _ hb
  cases o with
  | none => exact hB.elim
  | some cb =>
  obtain ⟨C, e, h1, h2, h3⟩ := hB
  refine ⟨j, ⟨hr.defers, hr.rdok, hr.size, hr.tmp, ⟨by simp [hr.sto.len], hr.sto.lt, hr.sto.inj, fun b' x hx => ?_⟩, hr.len0, hr.ag⟩, .refl _ _⟩
  rw [List.getElem?_set] at hx
  split at hx
  · rename_i e
    subst e
    split at hx <;> simp at hx
    subst hx
    exact ⟨some cb, ho, C, _, h1, by rw [h2, hl], fun k hk => hss k (by omega) w j _ (h3 k (by omega))⟩
  · exact hr.sto.blk b' x hx

theorem asc_ext {A B : List Dif} (hA : A.Pairwise fun a b => lessD a b = true) (hB : B.Pairwise fun a b => lessD a b = true) (h : ∀ d, d ∈ A ↔ d ∈ B) : A = B := by
  have nd : ∀ {L : List Dif}, (L.Pairwise fun a b => lessD a b = true) → L.Nodup := fun hL => hL.imp fun {a b} h1 h2 => by
    subst h2; rw [lessD_iff] at h1; omega
  exact sorted_eq ((List.perm_ext_iff_of_nodup (nd hA) (nd hB)).2 h) (hA.imp fun {a b} h1 => Int.le_of_lt ((ordD_neg a b).2 h1)) hB

def exD : ByteArray := ⟨(Lib.repeatL [100] 32).toArray⟩
def exL : TL := ⟨3, 8, 100, 2, fun i => if i = 0 then ⟨1, 70, ⟨#[97]⟩, 0, 0, 30, exD⟩ else ⟨4, 71, ⟨#[98]⟩, 0, 0, 20, exD⟩⟩
def exA : Acs := ⟨1, 3, 100, 1, fun _ => ⟨1, 31, exD⟩, 0, fun _ => ⟨0, 0⟩⟩
def exR : Rec := ⟨5, 2, exD⟩
def exB : Acs := putR exA exR
def exW : List Dif := [⟨3, 1⟩, ⟨1, 4⟩, ⟨2, 5⟩]
def exS : Nat → Acs
  | 0 => exB
  | i + 1 => putD (exS i) (nth exW i)
theorem exS_r : ∀ i, (exS i).nr = 2 ∧ (exS i).r = exB.r ∧ (exS i).na = i
  | 0 => ⟨rfl, rfl, rfl⟩
  | i + 1 => by
    obtain ⟨h1, h2, h3⟩ := exS_r i
    exact ⟨h1, h2, by show (exS i).na + 1 = i + 1; omega⟩
theorem exB_0 : exB.r 0 = ⟨1, 31, exD⟩ := by kernel_rfl
theorem exB_1 : exB.r 1 = ⟨5, 2, exD⟩ := by kernel_rfl
theorem exB_got (u : Int) : gotR 2 exB.r u = if u = 1 then (⟨1, 31, exD⟩, true) else if u = 5 then (⟨5, 2, exD⟩, true) else (Rec.zero, false) := by
  rw [gotR_succ, gotR_succ, gotR_zero, exB_0, exB_1]
  by_cases h1 : u = 1
  · subst h1; simp
  · by_cases h5 : u = 5
    · subst h5; simp
    · simp [h1, h5, Ne.symm h1, Ne.symm h5]
theorem exL_find (u : Int) : findL 2 exL.g u = if u = 1 then (exL.g 0, true) else if u = 4 then (exL.g 1, true) else (Lis.zero, false) := by
  have e0 : (exL.g 0).Number = 1 := rfl
  have e1 : (exL.g 1).Number = 4 := rfl
  rw [findL_succ, findL_succ, findL_zero, e0, e1]
  by_cases h1 : u = 1
  · subst h1; simp
  · by_cases h5 : u = 4
    · subst h5; simp
    · simp [h1, h5, Ne.symm h1, Ne.symm h5]
theorem ex_dif (u : Int) : difU 2 exL.g 2 exB.r u = if u = 1 then [⟨3, 1⟩] else if u = 4 then [⟨1, 4⟩] else if u = 5 then [⟨2, 5⟩] else [] := by
  unfold difU
  rw [exB_got, exL_find]
  have e0 : (exL.g 0).Pages = 30 := rfl
  have e1 : (exL.g 0).Digest = exD := rfl
  by_cases h1 : u = 1
  · subst h1; simp [e0, e1]
  · by_cases h4 : u = 4
    · subst h4; simp
    · by_cases h5 : u = 5
      · subst h5; simp
      · simp [h1, h4, h5]
theorem ex_all : allD 2 exL.g 2 exB.r = exW := by
  refine asc_ext (allD_asc _ _ _ _) (by decide) fun d => ?_
  rw [mem_allD, ex_dif]
  obtain ⟨k, u⟩ := d
  unfold exW
  by_cases h1 : u = 1
  · subst h1; simp
  · by_cases h4 : u = 4
    · subst h4; simp
    · by_cases h5 : u = 5
      · subst h5; simp
      · simp [h1, h4, h5]
theorem exS_all (i : Nat) : allT exL (exS i) = exW := by
  obtain ⟨h1, h2, _⟩ := exS_r i
  unfold allT; rw [h1, h2]; exact ex_all
theorem exA_chk : chkA exL exA = 0 := chkA_zero.2 ⟨by kernel_rfl, rfl⟩
theorem ex_rcv : rcvP exL exA exR = (exB, 0) := by
  have h1 : recE exR = 0 := by kernel_rfl
  have h2 : (gotR exA.nr exA.r exR.Number).2 = false := by kernel_rfl
  have h3 : agrB (allT exL (putR exA exR)) exA.na exA.a = true := rfl
  unfold rcvP; rw [if_neg (by simp [exA_chk]), if_neg (by simp [h1]), if_neg (by simp [h2]), if_neg (by simp [h3]), if_neg (by decide)]; rfl
theorem exS_chk {i : Nat} (hi : i ≤ 3) : chkA exL (exS i) = 0 := by
  refine chkA_zero.2 ⟨?_, ?_⟩
  · rcases (by omega : i = 0 ∨ i = 1 ∨ i = 2 ∨ i = 3) with rfl | rfl | rfl | rfl <;> kernel_rfl
  · rw [exS_all]
    rcases (by omega : i = 0 ∨ i = 1 ∨ i = 2 ∨ i = 3) with rfl | rfl | rfl | rfl <;> kernel_rfl
theorem ex_agr {i : Nat} (hi : i < 3) : agrP exL (exS i) (nth exW i) = (exS (i + 1), 0) := by
  obtain ⟨_, _, h3⟩ := exS_r i
  have h4 : hasD (exS i).na (exS i).a (nth exW i) = false := by
    rcases (by omega : i = 0 ∨ i = 1 ∨ i = 2) with rfl | rfl | rfl <;> kernel_rfl
  have h5 : nth exW i ∈ exW := nth_mem (by show i < 3; exact hi)
  unfold agrP; rw [if_neg (by simp [exS_chk (show i ≤ 3 by omega)]), if_neg (by rw [exS_all]; simp [h5]), if_neg (by simp [h4]), if_neg (by omega)]; rfl
theorem exB_chk : chkA exL exB = 0 := exS_chk (i := 0) (by omega)
theorem exB_opn : opnL exL exB = exW := by
  have h := exS_all 0
  have e : exS 0 = exB := rfl
  rw [e] at h
  unfold opnL
  rw [h]
  have h2 : kept (fun d => hasD exB.na exB.a d) (nth exW) exW.length = exW := by kernel_rfl
  exact h2
theorem ex_open : opnP exL exB = (exW, 0) := by
  unfold opnP; rw [if_pos exB_chk, exB_opn]
theorem ex_num0 : numP exL exB = ([], 0) := by
  unfold numP; rw [if_pos exB_chk]
  unfold numL; rw [exB_opn, if_neg (by decide)]
theorem ex_num3 : numP exL (exS 3) = ([1, 5], 0) := by
  have h2 : opnL exL (exS 3) = [] := by
    unfold opnL; rw [exS_all]; kernel_rfl
  have h3 : lst (exS 3).nr (fun i => ((exS 3).r i).Number) = [1, 5] := by kernel_rfl
  unfold numP; rw [if_pos (exS_chk (by omega))]
  unfold numL; rw [h2, if_pos (show ([] : List Dif).length = 0 from rfl), h3]
theorem ex_txt : txtP (nth exW 1) = (⟨#[110, 117, 109, 98, 101, 114, 32, 52, 32, 105, 115, 32, 109, 105, 115, 115, 105, 110, 103]⟩, 0) := by kernel_rfl
theorem ex_chk3 : chkA exL (exS 3) = 0 := exS_chk (by omega)
theorem ex_nth {i : Nat} (hi : i < 2) : (exL.g i).Title.size < 4294967281 := by
  rcases (by omega : i = 0 ∨ i = 1) with rfl | rfl <;> decide
theorem ex_eq1 : eqL (lst exW.length (nth exW)) (lst 3 (nth exW)) = true := eqL_iff.2 rfl
theorem ex_eq2 : eqL (lst ([1, 5] : List Int).length (nth ([1, 5] : List Int))) (lst 2 (nth ([1, 5] : List Int))) = true := eqL_iff.2 rfl


theorem law17_awake_cs (σ : List Blk) (hσ : σ[0]? = some (.loc 0)) (hσ1 : σ[1]? = some (.tab 1 powV)) : CSF Tryz.prog 10 [] σ (.d (B true)) := by
  refine CSF.of_body T.en10 Tryz.func10 rfl (by simp [Tryz.ntmps10]) (by simp [go_sem]) fun hwf => ?_
  refine awp_reg_seq fun K hK => ?_
  simp [go_sem, Tryz.ntmps10, hwf.one, hwf.zero, ex_chk3, ex_rcv, ex_open, ex_num0, ex_num3, ex_txt, ex_eq1, ex_eq2]
  repeat refine ⟨by omega, ?_⟩
  refine hK _ ?_; clear hK K
  refine awp_reg_seq fun K hK => ?_
  simp [go_sem, hwf.one, hwf.zero, ex_chk3, ex_rcv, ex_open, ex_num0, ex_num3, ex_txt, ex_eq1, ex_eq2]
  repeat refine ⟨by omega, ?_⟩
  refine CSk.mk (repeat_cs _ ⟨#[100]⟩ 32 (by omega) (by omega) (by decide) (by decide)) ?_
  simp [go_sem, hwf.one, hwf.zero, ex_chk3, ex_rcv, ex_open, ex_num0, ex_num3, ex_txt, ex_eq1, ex_eq2]
  repeat refine ⟨by omega, ?_⟩
  refine hK _ ?_; clear hK K
  refine awp_reg_seq fun K hK => ?_
  simp [go_sem, hwf.one, hwf.zero, ex_chk3, ex_rcv, ex_open, ex_num0, ex_num3, ex_txt, ex_eq1, ex_eq2]
  repeat refine ⟨by omega, ?_⟩
  refine hK _ ?_; clear hK K
  refine awp_toldV σ.length (exL.enc.map .d) (by simp [go_sem]; rfl) (by simp [go_sem, sameL0, sameA]; refine ⟨rfl, rfl, rfl, rfl, fun i hi => ?_⟩; rcases (by omega : i = 0 ∨ i = 1) with rfl | rfl <;> rfl) (by simp [go_sem]; rfl) ?_
  refine awp_reg_seq fun K hK => ?_
  simp [go_sem, hwf.one, hwf.zero, ex_chk3, ex_rcv, ex_open, ex_num0, ex_num3, ex_txt, ex_eq1, ex_eq2]
  repeat refine ⟨by omega, ?_⟩
  refine hK _ ?_; clear hK K
  refine awp_toldV (σ.length + 1) (exA.enc.map .d) (by simp [go_sem]; rfl) (by simp [go_sem, sameL0, sameA]; exact ⟨rfl, rfl, rfl, ⟨rfl, rfl, rfl, rfl⟩, rfl⟩) (by simp [go_sem]; rfl) ?_
  refine awp_reg_seq fun K hK => ?_
  simp [go_sem, hwf.one, hwf.zero, ex_chk3, ex_rcv, ex_open, ex_num0, ex_num3, ex_txt, ex_eq1, ex_eq2]
  repeat refine ⟨by omega, ?_⟩
  refine CSk.mk (accession_Receive_cs _ exL exA exR (by decide) (fun i hi => ex_nth hi) (loc_app hσ) (by decide) (by decide) (by decide)) ?_
  simp [go_sem, hwf.one, hwf.zero, ex_chk3, ex_rcv, ex_open, ex_num0, ex_num3, ex_txt, ex_eq1, ex_eq2]
  repeat refine ⟨by omega, ?_⟩
  refine hK _ ?_; clear hK K
  refine awp_reg_seq fun K hK => ?_
  simp [go_sem, hwf.one, hwf.zero, ex_chk3, ex_rcv, ex_open, ex_num0, ex_num3, ex_txt, ex_eq1, ex_eq2]
  repeat refine ⟨by omega, ?_⟩
  refine CSk.mk (accession_Open_cs _ exL exB (by decide) (fun i hi => ex_nth hi) (loc_app hσ) (by decide) (by decide)) ?_
  simp [go_sem, hwf.one, hwf.zero, ex_chk3, ex_rcv, ex_open, ex_num0, ex_num3, ex_txt, ex_eq1, ex_eq2]
  repeat refine ⟨by omega, ?_⟩
  refine hK _ ?_; clear hK K
  refine awp_reg_seq fun K hK => ?_
  simp [go_sem, hwf.one, hwf.zero, ex_chk3, ex_rcv, ex_open, ex_num0, ex_num3, ex_txt, ex_eq1, ex_eq2]
  repeat refine ⟨by omega, ?_⟩
  refine hK _ ?_; clear hK K
  refine awp_told 7 (.d (SL (some 3) 2 Dif.enc 3 (nth exW))) (by simp [go_sem]; rfl) (by refine sameA.same ⟨.inr rfl, rfl, rfl, fun i hi => ?_⟩; rcases (by omega : i = 0 ∨ i = 1 ∨ i = 2) with rfl | rfl | rfl <;> rfl) ?_
  refine awp_reg_seq fun K hK => ?_
  simp [go_sem, hwf.one, hwf.zero, ex_chk3, ex_rcv, ex_open, ex_num0, ex_num3, ex_txt, ex_eq1, ex_eq2]
  repeat refine ⟨by omega, ?_⟩
  refine CSk.mk (accession_Numbers_cs _ exL exB (by decide) (fun i hi => ex_nth hi) (loc_app hσ) (by decide) (by decide)) ?_
  simp [go_sem, hwf.one, hwf.zero, ex_chk3, ex_rcv, ex_open, ex_num0, ex_num3, ex_txt, ex_eq1, ex_eq2]
  repeat refine ⟨by omega, ?_⟩
  refine hK _ ?_; clear hK K
  refine awp_seq ?_
  refine awp_reg_seq fun K hK => ?_
  simp [go_sem, hwf.one, hwf.zero, ex_chk3, ex_rcv, ex_open, ex_num0, ex_num3, ex_txt, ex_eq1, ex_eq2]
  repeat refine ⟨by omega, ?_⟩
  refine CSm.mk (equalDif_cs _ none (some 3) exW.length 3 (nth exW) (nth exW) (by decide) (by decide)) ?_
  simp [go_sem, hwf.one, hwf.zero, ex_chk3, ex_rcv, ex_open, ex_num0, ex_num3, ex_txt, ex_eq1, ex_eq2]
  repeat refine ⟨by omega, ?_⟩
  refine hK _ ?_; clear hK K
  refine awp_forget [2, 3, 7, 71] (by simp only [restr, List.contains_cons, List.contains_nil, Nat.reduceBEq, Bool.or_false, Bool.or_true, Bool.true_or, Bool.false_or, if_true, if_false, Bool.false_eq_true]; rfl) ?_
  refine awp_cond rfl (fun c0 => ?_) (fun c0 => ?_)
  · have d0 := c0; try simp at d0
  · have d0 := c0; try simp at d0
    refine awp_skip ?_
    refine awp_seq ?_
    refine awp_reg_seq fun K hK => ?_
    simp [go_sem, hwf.one, hwf.zero, ex_chk3, ex_rcv, ex_open, ex_num0, ex_num3, ex_txt, ex_eq1, ex_eq2, c0, d0]
    repeat refine ⟨by omega, ?_⟩
    refine hK _ ?_; clear hK K
    refine awp_block ?_
    refine awp_forget [2, 3, 7, 72, 73, 74] (by simp [go_sem, restr]; rfl) ?_
    refine awp_loopU (α := Nat) (fun i => [(74, .d (I i))]) (fun i => σ ++ [.var (exL.enc.map .d), .var ((exS i).enc.map .d)]) (fun i => i ≤ 3) (fun i => 3 - i) 0 (by simp [go_sem, hwf.one, hwf.zero, ex_chk3, ex_rcv, ex_open, ex_num0, ex_num3, ex_txt, ex_eq1, ex_eq2]) (rfl) (by simp) ?_
    rintro i hi
    refine awp_reg_seq fun K hK => ?_
    simp [go_sem, hwf.one, hwf.zero, ex_chk3, ex_rcv, ex_open, ex_num0, ex_num3, ex_txt, ex_eq1, ex_eq2, c0, d0]
    repeat refine ⟨by omega, ?_⟩
    refine hK _ ?_; clear hK K
    refine awp_seq ?_
    refine awp_forget [2, 3, 7, 72, 73, 74, 75] (by simp only [restr, List.contains_cons, List.contains_nil, Nat.reduceBEq, Bool.or_false, Bool.or_true, Bool.true_or, Bool.false_or, if_true, if_false, Bool.false_eq_true]; rfl) ?_
    refine awp_cond rfl (fun c1 => ?_) (fun c1 => ?_)
    · have d1 := c1; try simp at d1
      have hi3 : i < 3 := by omega
      have hag := ex_agr hi3
      obtain ⟨hr1, hr2, hr3⟩ := exS_r i
      refine awp_skip ?_
      refine awp_seq ?_
      refine awp_block ?_
      refine awp_reg_seq fun K hK => ?_
      simp [go_sem, hwf.one, hwf.zero, ex_chk3, ex_rcv, ex_open, ex_num0, ex_num3, ex_txt, ex_eq1, ex_eq2, c0, d0, c1, d1, hag, hi3]
      repeat refine ⟨by omega, ?_⟩
      refine hK _ ?_; clear hK K
      refine awp_reg_seq fun K hK => ?_
      simp [go_sem, hwf.one, hwf.zero, ex_chk3, ex_rcv, ex_open, ex_num0, ex_num3, ex_txt, ex_eq1, ex_eq2, c0, d0, c1, d1, hag, hi3]
      repeat refine ⟨by omega, ?_⟩
      refine CSk.mk (accession_Agree_cs _ exL (exS i) (nth exW i) (by decide) (fun i hi => ex_nth hi) (loc_app hσ) (by omega) (by omega)) ?_
      simp [go_sem, hwf.one, hwf.zero, ex_chk3, ex_rcv, ex_open, ex_num0, ex_num3, ex_txt, ex_eq1, ex_eq2, c0, d0, c1, d1, hag, hi3]
      repeat refine ⟨by omega, ?_⟩
      refine hK _ ?_; clear hK K
      refine awp_reg_seq fun K hK => ?_
      simp [go_sem, hwf.one, hwf.zero, ex_chk3, ex_rcv, ex_open, ex_num0, ex_num3, ex_txt, ex_eq1, ex_eq2, c0, d0, c1, d1, hag, hi3]
      repeat refine ⟨by omega, ?_⟩
      refine hK _ ?_; clear hK K
      refine awp_forget [2, 3, 7, 72, 73, 74, 86] (by simp only [restr, List.contains_cons, List.contains_nil, Nat.reduceBEq, Bool.or_false, Bool.or_true, Bool.true_or, Bool.false_or, if_true, if_false, Bool.false_eq_true]; rfl) ?_
      refine awp_cond rfl (fun c2 => ?_) (fun c2 => ?_)
      · have d2 := c2; try simp at d2
      · have d2 := c2; try simp at d2
        refine awp_skip ?_
        refine awp_reg_end fun K hK => ?_
        simp [go_sem, hwf.one, hwf.zero, ex_chk3, ex_rcv, ex_open, ex_num0, ex_num3, ex_txt, ex_eq1, ex_eq2, c0, d0, c1, d1, hag, hi3, c2, d2]
        try simp (disch := omega) only [wrapI]
        repeat refine ⟨by omega, ?_⟩
        refine hK _ ?_; clear hK K
        refine ⟨i + 1, back_of' (by simp [go_sem, wrap_succ (i := i) (by omega), hwf.one, hwf.zero, ex_chk3, ex_rcv, ex_open, ex_num0, ex_num3, ex_txt, ex_eq1, ex_eq2, c0, d0, c1, d1, hag, hi3, c2, d2]) ((leaves_app (by simp [go_sem]))) (by (simp [go_sem, wrap_succ (i := i) (by omega), hwf.one, hwf.zero, ex_chk3, ex_rcv, ex_open, ex_num0, ex_num3, ex_txt, ex_eq1, ex_eq2, c0, d0, c1, d1, hag, hi3, c2, d2] <;> omega)), by omega, by first | omega | (dsimp only; omega)⟩
    · have d1 := c1; try simp at d1
      obtain rfl : i = 3 := by omega
      refine awp_exit ?_
      refine awp_reg_seq fun K hK => ?_
      simp [go_sem, hwf.one, hwf.zero, ex_chk3, ex_rcv, ex_open, ex_num0, ex_num3, ex_txt, ex_eq1, ex_eq2, c0, d0, c1, d1]
      repeat refine ⟨by omega, ?_⟩
      refine CSk.mk (accession_Numbers_cs _ exL (exS 3) (by decide) (fun i hi => ex_nth hi) (loc_app hσ) (by decide) (by decide)) ?_
      simp [go_sem, hwf.one, hwf.zero, ex_chk3, ex_rcv, ex_open, ex_num0, ex_num3, ex_txt, ex_eq1, ex_eq2, c0, d0, c1, d1]
      repeat refine ⟨by omega, ?_⟩
      refine hK _ ?_; clear hK K
      refine awp_reg_seq fun K hK => ?_
      simp [go_sem, hwf.one, hwf.zero, ex_chk3, ex_rcv, ex_open, ex_num0, ex_num3, ex_txt, ex_eq1, ex_eq2, c0, d0, c1, d1]
      repeat refine ⟨by omega, ?_⟩
      refine CSk.mk (accession_Text_cs _ (nth exW 1) (by first | exact loc_app hσ1 | simpa using loc_app hσ1)) ?_
      simp [go_sem, hwf.one, hwf.zero, ex_chk3, ex_rcv, ex_open, ex_num0, ex_num3, ex_txt, ex_eq1, ex_eq2, c0, d0, c1, d1]
      repeat refine ⟨by omega, ?_⟩
      refine hK _ ?_; clear hK K
      refine awp_reg_seq fun K hK => ?_
      simp [go_sem, hwf.one, hwf.zero, ex_chk3, ex_rcv, ex_open, ex_num0, ex_num3, ex_txt, ex_eq1, ex_eq2, c0, d0, c1, d1]
      repeat refine ⟨by omega, ?_⟩
      refine CSm.mk (((equalInt_cs _ none (some 2) ([1, 5] : List Int).length 2 (nth ([1, 5] : List Int)) (nth ([1, 5] : List Int)) (by decide) (by decide)).sub (by simp [go_sem, sameL, sameE, sameA]; intro i hi; rcases (by omega : i = 0 ∨ i = 1) with rfl | rfl <;> rfl))) ?_
      simp [go_sem, hwf.one, hwf.zero, ex_chk3, ex_rcv, ex_open, ex_num0, ex_num3, ex_txt, ex_eq1, ex_eq2, c0, d0, c1, d1]
      repeat refine ⟨by omega, ?_⟩
      refine CSm.mk (accession_Check_cs _ exL (exS 3) (by decide) (fun i hi => ex_nth hi) (loc_app hσ) (by decide) (by decide)) ?_
      simp [go_sem, hwf.one, hwf.zero, ex_chk3, ex_rcv, ex_open, ex_num0, ex_num3, ex_txt, ex_eq1, ex_eq2, c0, d0, c1, d1]
      repeat refine ⟨by omega, ?_⟩
      refine hK _ ?_; clear hK K
      refine awp_ret ?_
      simp [go_sem, Tryz.results10, hwf.one, hwf.zero, ex_chk3, ex_rcv, ex_open, ex_num0, ex_num3, ex_txt, ex_eq1, ex_eq2, c0, d0, c1, d1]; exact ex_eq2

end Go.Proofs.YtnbokgmimbeihaaGreatDoor

/-! Ct -/
namespace Go.Proofs.YtnbokgmimbeihaaGreatDoor
open Go.Abs Go.Arch
set_option linter.unusedVariables false
set_option linter.unusedSimpArgs false
set_option maxRecDepth 100000
set_option maxHeartbeats 1000000


theorem ref17_Agree_cs (σ : List Blk) (t : TL) (a : Acs) (d : Dif) (hn : t.n < 1000000000) (hN : ∀ i, i < t.n → (t.g i).Title.size < 4294967281) (hm : a.nr < 1000000000) (hk : a.na < 1000000000) : CSF Tryz.prog 24 [.agg (t.enc.map .d), .agg (a.enc.map .d), .agg (d.enc.map .d)] σ (.tup [.agg ((agrP t a d).1.enc.map .d), .d (I (agrP t a d).2)]) := by
  have hal := allD_len t.n t.g a.nr a.r
  have hb : hasD (allD t.n t.g a.nr a.r).length (nth (allD t.n t.g a.nr a.r)) d = decide (d ∈ allT t a) := by
    rw [Bool.eq_iff_iff, hasD_iff]; exact ⟨fun h => decide_eq_true h, fun h => of_decide_eq_true h⟩
  refine CSF.of_body T.en24 Tryz.func24 rfl (by simp [Tryz.ntmps24]) (by simp [go_sem]) fun hwf => ?_
  refine awp_reg_seq fun K hK => ?_
  simp [go_sem, Tryz.ntmps24, hb, hwf.one, hwf.zero]
  repeat refine ⟨by omega, ?_⟩
  refine hK _ ?_; clear hK K
  refine awp_seq ?_
  refine awp_reg_seq fun K hK => ?_
  simp [go_sem, hb, hwf.one, hwf.zero]
  repeat refine ⟨by omega, ?_⟩
  refine CSk.mk (ref17_Check_cs _ t a hn hN hm hk) ?_
  simp [go_sem, hb, hwf.one, hwf.zero]
  repeat refine ⟨by omega, ?_⟩
  refine hK _ ?_; clear hK K
  refine awp_block ?_
  refine awp_reg_seq fun K hK => ?_
  simp [go_sem, hb, hwf.one, hwf.zero]
  repeat refine ⟨by omega, ?_⟩
  refine hK _ ?_; clear hK K
  refine awp_forget [3, 4, 5, 6, 8, 13] (by simp only [restr, List.contains_cons, List.contains_nil, Nat.reduceBEq, Bool.or_false, Bool.or_true, Bool.true_or, Bool.false_or, if_true, if_false, Bool.false_eq_true]; rfl) ?_
  refine awp_cond rfl (fun c0 => ?_) (fun c0 => ?_)
  · have d0 := c0; try simp at d0
    have hz : agrP t a d = (acs0, chkA t a) := by unfold agrP; rw [if_pos d0]
    refine awp_reg_seq fun K hK => ?_
    simp [go_sem, hb, hwf.one, hwf.zero, c0, d0]
    repeat refine ⟨by omega, ?_⟩
    refine hK _ ?_; clear hK K
    refine awp_ret ?_
    rw [hz]; simp [go_sem, Tryz.results24, acs0]
  · have d0 := c0; try simp at d0
    have hc := chkH_zero (chkA_zero.1 d0).1
    have hag := (agrB_iff _ _ _).1 (chkA_zero.1 d0).2
    have hna := hc.2.2.2.2.2.2
    refine awp_draw_seq 8 T.mixed (by kernel_rfl) fun K hK => ?_
    simp [go_sem, hb, hwf.one, hwf.zero, c0, d0]
    repeat refine ⟨by omega, ?_⟩
    refine CSg.mk (ref17_differences_cs _ t none a.nr a.r hn hm) ?_
    simp [go_sem, hb, hwf.one, hwf.zero, c0, d0]
    repeat refine ⟨by omega, ?_⟩
    refine CSg.mk (ref17_has_cs _ none _ (nth (allD t.n t.g a.nr a.r)) d (by omega)) ?_
    simp [go_sem, hb, hwf.one, hwf.zero, c0, d0]
    repeat refine ⟨by omega, ?_⟩
    refine hK _ ?_; clear hK K
    refine awp_forget [4, 5, 6, 18] (by simp only [restr, List.contains_cons, List.contains_nil, Nat.reduceBEq, Bool.or_false, Bool.or_true, Bool.true_or, Bool.false_or, if_true, if_false, Bool.false_eq_true]; rfl) ?_
    refine awp_cond rfl (fun c1 => ?_) (fun c1 => ?_)
    · have d1 := c1; try simp at d1
      have hz : agrP t a d = (acs0, 7) := by unfold agrP; rw [if_neg (by simp [d0]), if_pos d1]
      refine awp_reg_seq fun K hK => ?_
      simp [go_sem, hb, hwf.one, hwf.zero, c0, d0, c1, d1]
      repeat refine ⟨by omega, ?_⟩
      refine hK _ ?_; clear hK K
      refine awp_ret ?_
      rw [hz]; simp [go_sem, Tryz.results24, acs0]
    · have d1 := c1; try simp at d1
      refine awp_reg_seq fun K hK => ?_
      simp [go_sem, hb, hwf.one, hwf.zero, c0, d0, c1, d1]
      repeat refine ⟨by omega, ?_⟩
      refine CSk.mk (ref17_has_cs _ none a.na a.a d hk) ?_
      simp [go_sem, hb, hwf.one, hwf.zero, c0, d0, c1, d1]
      repeat refine ⟨by omega, ?_⟩
      refine hK _ ?_; clear hK K
      refine awp_forget [4, 5, 6, 27] (by simp only [restr, List.contains_cons, List.contains_nil, Nat.reduceBEq, Bool.or_false, Bool.or_true, Bool.true_or, Bool.false_or, if_true, if_false, Bool.false_eq_true]; rfl) ?_
      refine awp_cond rfl (fun c2 => ?_) (fun c2 => ?_)
      · have d2 := c2; try simp at d2
        have hz : agrP t a d = (acs0, 6) := by unfold agrP; rw [if_neg (by simp [d0]), if_neg (by simp [d1]), if_pos d2]
        refine awp_reg_seq fun K hK => ?_
        simp [go_sem, hb, hwf.one, hwf.zero, c0, d0, c1, d1, c2, d2]
        repeat refine ⟨by omega, ?_⟩
        refine hK _ ?_; clear hK K
        refine awp_ret ?_
        rw [hz]; simp [go_sem, Tryz.results24, acs0]
      · have d2 := c2; try simp at d2
        refine awp_reg_seq fun K hK => ?_
        simp [go_sem, hb, hwf.one, hwf.zero, c0, d0, c1, d1, c2, d2]
        repeat refine ⟨by omega, ?_⟩
        refine hK _ ?_; clear hK K
        refine awp_forget [4, 5, 6, 33] (by simp only [restr, List.contains_cons, List.contains_nil, Nat.reduceBEq, Bool.or_false, Bool.or_true, Bool.true_or, Bool.false_or, if_true, if_false, Bool.false_eq_true]; rfl) ?_
        refine awp_cond rfl (fun c3 => ?_) (fun c3 => ?_)
        · have d3 := c3; try simp at d3
          have hz : agrP t a d = (acs0, 8) := by unfold agrP; rw [if_neg (by simp [d0]), if_neg (by simp [d1]), if_neg (by simp [d2]), if_pos (by omega)]
          refine awp_reg_seq fun K hK => ?_
          simp [go_sem, hb, hwf.one, hwf.zero, c0, d0, c1, d1, c2, d2, c3, d3]
          repeat refine ⟨by omega, ?_⟩
          refine hK _ ?_; clear hK K
          refine awp_ret ?_
          rw [hz]; simp [go_sem, Tryz.results24, acs0]
        · have d3 := c3; try simp at d3
          have hz : agrP t a d = (putD a d, 0) := by unfold agrP; rw [if_neg (by simp [d0]), if_neg (by simp [d1]), if_neg (by simp [d2]), if_neg (by omega)]
          refine awp_skip ?_
          refine awp_reg_seq fun K hK => ?_
          simp [go_sem, hb, hwf.one, hwf.zero, c0, d0, c1, d1, c2, d2, c3, d3]
          repeat refine ⟨by omega, ?_⟩
          refine hK _ ?_; clear hK K
          refine awp_seq ?_
          refine awp_block ?_
          refine awp_forget [4, 5, 6, 9] (by simp [go_sem, restr]; rfl) ?_
          refine awp_loopU (α := Nat) (fun i => [(9, .d (I i))]) (fun i => _) (fun i => i ≤ a.na ∧ ∀ q, q < i → lessD (a.a q) d = true) (fun i => a.na - i) 0 (by simp [go_sem, hb, hwf.one, hwf.zero]) (rfl) (by simp) ?_
          rintro i ⟨hi, hx⟩
          refine awp_seq ?_
          refine awp_draw_seq 14 T.mixed (by kernel_rfl) fun K hK => ?_
          simp [go_sem, hb, hwf.one, hwf.zero, c0, d0, c1, d1, c2, d2, c3, d3]
          repeat refine ⟨by omega, ?_⟩
          refine CSg.mk' (.d (B (lessD (a.a i) d))) (fun hg => ref17_less_cs _ _ _) ?_
          simp [go_sem, hb, hwf.one, hwf.zero, c0, d0, c1, d1, c2, d2, c3, d3]
          repeat refine ⟨by omega, ?_⟩
          refine hK _ ?_; clear hK K
          refine awp_forget [4, 5, 6, 9, 52] (by simp only [restr, List.contains_cons, List.contains_nil, Nat.reduceBEq, Bool.or_false, Bool.or_true, Bool.true_or, Bool.false_or, if_true, if_false, Bool.false_eq_true]; rfl) ?_
          refine awp_cond rfl (fun c4 => ?_) (fun c4 => ?_)
          · have d4 := c4; try simp at d4
            have hia : i < a.na := d4.1
            have heq : lessD (a.a i) d = true := d4.2
            refine awp_skip ?_
            refine awp_block ?_
            refine awp_reg_end fun K hK => ?_
            simp [go_sem, hb, hwf.one, hwf.zero, c0, d0, c1, d1, c2, d2, c3, d3, c4, d4]
            try simp (disch := omega) only [wrapI]
            repeat refine ⟨by omega, ?_⟩
            refine hK _ ?_; clear hK K
            refine ⟨i + 1, back_of' (by simp) (.refl _) (by (simp [go_sem, wrap_succ (i := i) (by omega), hb, hwf.one, hwf.zero, c0, d0, c1, d1, c2, d2, c3, d3, c4, d4] <;> omega)), ⟨by omega, fun q hq => by rcases Nat.lt_or_eq_of_le (Nat.le_of_lt_succ hq) with h | h; exact hx q h; rw [h]; exact heq⟩, by first | omega | (dsimp only; omega)⟩
          · have d4 := c4; try simp at d4
            have hpos : i = posD a.na a.a d := cut_uniq (p := fun q => lessD (a.a q) d) (posD_le _ _ _) hi (posD_cut hag d).1 (posD_cut hag d).2 hx d4
            have hln : i + 1 + (a.na - i) = a.na + 1 := by omega
            have hsu : ((a.na : Int) - (i : Int)).toNat = a.na - i := by omega
            refine awp_exit ?_
            apply awp_chain_seq 14 [(5, 60), (8, 63), (13, 68)] [(.ms (σ.length + 4) 2 0 i, [.arr 2 i (fun q => Dif.enc (a.a q))]), (.ms (σ.length + 4) 2 0 (i + 1), [.arr 2 (i + 1) (catRows i (fun q => Dif.enc (a.a q)) (rowsOf 2 (Dif.enc d)))]), (.ms (σ.length + 4) 2 0 (a.na + 1), [.arr 2 (a.na + 1) (catRows (i + 1) (catRows i (fun q => Dif.enc (a.a q)) (rowsOf 2 (Dif.enc d))) (fun q => Dif.enc (a.a (i + q))))])] T.mixed (by kernel_rfl)
            · intro τ K hK
              simp [go_sem, hb, hwf.one, hwf.zero, c0, d0, c1, d1, c2, d2, c3, d3, c4, d4, hln, hsu, hwf.one, hwf.zero]
              repeat refine ⟨by omega, ?_⟩
              exact hK _ _
            · decide
            · simp [go_sem, hb, hwf.one, hwf.zero, c0, d0, c1, d1, c2, d2, c3, d3, c4, d4, hln, hsu, hwf.one, hwf.zero]
            · simp [go_sem, hb, hwf.one, hwf.zero, c0, d0, c1, d1, c2, d2, c3, d3, c4, d4, hln, hsu, hwf.one, hwf.zero]
            · simp [go_sem, hb, hwf.one, hwf.zero, c0, d0, c1, d1, c2, d2, c3, d3, c4, d4, hln, hsu, hwf.one, hwf.zero]
              repeat refine ⟨by omega, ?_⟩
              omega
            intro K hK
            simp [go_sem, hb, hwf.one, hwf.zero, c0, d0, c1, d1, c2, d2, c3, d3, c4, d4, hln, hsu, hwf.one, hwf.zero]
            repeat refine ⟨by omega, ?_⟩
            refine hK _ ?_; clear hK K
            refine awp_reg_seq fun K hK => ?_
            simp [go_sem, hb, hwf.one, hwf.zero, c0, d0, c1, d1, c2, d2, c3, d3, c4, d4, hln, hsu, hwf.one, hwf.zero]
            repeat refine ⟨by omega, ?_⟩
            refine hK _ ?_; clear hK K
            refine awp_rows (σ.length + 4) (fun q => Dif.enc (insG a.a (posD a.na a.a d) d q)) (by simp [go_sem]; first | exact ⟨rfl, rfl, rfl⟩ | exact ⟨rfl, rfl⟩ | rfl) (by
              intro q hq
              simp only [catRows, ← hpos]
              rcases Nat.lt_trichotomy q i with h | h | h
              · rw [if_pos (by omega), if_pos h, ins_lt h]; rfl
              · rw [if_pos (by omega), if_neg (by omega), h, ins_at, Nat.sub_self]; simp [rowsOf, Dif.enc]
              · rw [if_neg (by omega), ins_gt h, show i + (q - (i + 1)) = q - 1 by omega]; rfl) (by simp [go_sem]; rfl) ?_
            refine awp_freeze (σ.length + 4) (by simp [go_sem]; first | exact ⟨rfl, rfl, rfl⟩ | exact ⟨rfl, rfl⟩ | rfl) (by simp [go_sem]; rfl) (by simp [go_sem, hwf.frz, hwf.frz0]; rfl) ?_
            refine awp_freeze (σ.length + 5) (by simp [go_sem]; first | exact ⟨rfl, rfl, rfl⟩ | exact ⟨rfl, rfl⟩ | rfl) (by simp [go_sem]; rfl) (by simp [go_sem, hwf.frz, hwf.frz0]; rfl) ?_
            refine awp_reg_seq fun K hK => ?_
            simp [go_sem, hb, hwf.one, hwf.zero, c0, d0, c1, d1, c2, d2, c3, d3, c4, d4, hln, hsu]
            repeat refine ⟨by omega, ?_⟩
            refine hK _ ?_; clear hK K
            refine awp_ret ?_
            rw [hz]; simp [go_sem, Tryz.results24, putD]

theorem ref17_Receive_cs (σ : List Blk) (t : TL) (a : Acs) (r : Rec) (hn : t.n < 1000000000) (hN : ∀ i, i < t.n → (t.g i).Title.size < 4294967281) (hm : a.nr < 1000000000) (hk : a.na < 1000000000) : CSF Tryz.prog 26 [.agg (t.enc.map .d), .agg (a.enc.map .d), .agg (r.enc.map .d)] σ (.tup [.agg ((rcvP t a r).1.enc.map .d), .d (I (rcvP t a r).2)]) := by
  refine CSF.of_body T.en26 Tryz.func26 rfl (by simp [Tryz.ntmps26]) (by simp [go_sem]) fun hwf => ?_
  refine awp_reg_seq fun K hK => ?_
  simp [go_sem, Tryz.ntmps26, hwf.one, hwf.zero]
  repeat refine ⟨by omega, ?_⟩
  refine hK _ ?_; clear hK K
  refine awp_seq ?_
  refine awp_reg_seq fun K hK => ?_
  simp [go_sem, hwf.one, hwf.zero]
  repeat refine ⟨by omega, ?_⟩
  refine CSk.mk (ref17_Check_cs _ t a hn hN hm hk) ?_
  simp [go_sem, hwf.one, hwf.zero]
  repeat refine ⟨by omega, ?_⟩
  refine hK _ ?_; clear hK K
  refine awp_reg_seq fun K hK => ?_
  simp [go_sem, hwf.one, hwf.zero]
  repeat refine ⟨by omega, ?_⟩
  refine hK _ ?_; clear hK K
  refine awp_forget [3, 4, 5, 6, 8, 17] (by simp only [restr, List.contains_cons, List.contains_nil, Nat.reduceBEq, Bool.or_false, Bool.or_true, Bool.true_or, Bool.false_or, if_true, if_false, Bool.false_eq_true]; rfl) ?_
  refine awp_cond rfl (fun c0 => ?_) (fun c0 => ?_)
  · have d0 := c0; try simp at d0
    have hz : rcvP t a r = (acs0, chkA t a) := by unfold rcvP; rw [if_pos d0]
    refine awp_reg_seq fun K hK => ?_
    simp [go_sem, hwf.one, hwf.zero, c0, d0]
    repeat refine ⟨by omega, ?_⟩
    refine hK _ ?_; clear hK K
    refine awp_ret ?_
    rw [hz]; simp [go_sem, Tryz.results26, acs0]
  · have d0 := c0; try simp at d0
    have hc := chkH_zero (chkA_zero.1 d0).1
    have ho := (ordR_iff _ _).1 hc.2.2.2.2.2.1
    have hag := (agrB_iff _ _ _).1 (chkA_zero.1 d0).2
    refine awp_skip ?_
    refine awp_seq ?_
    refine awp_reg_seq fun K hK => ?_
    simp [go_sem, hwf.one, hwf.zero, c0, d0]
    repeat refine ⟨by omega, ?_⟩
    refine CSk.mk (ref17_formed_cs _ r) ?_
    simp [go_sem, hwf.one, hwf.zero, c0, d0]
    repeat refine ⟨by omega, ?_⟩
    refine hK _ ?_; clear hK K
    refine awp_reg_seq fun K hK => ?_
    simp [go_sem, hwf.one, hwf.zero, c0, d0]
    repeat refine ⟨by omega, ?_⟩
    refine hK _ ?_; clear hK K
    refine awp_forget [3, 4, 5, 6, 9, 23] (by simp only [restr, List.contains_cons, List.contains_nil, Nat.reduceBEq, Bool.or_false, Bool.or_true, Bool.true_or, Bool.false_or, if_true, if_false, Bool.false_eq_true]; rfl) ?_
    refine awp_cond rfl (fun c1 => ?_) (fun c1 => ?_)
    · have d1 := c1; try simp at d1
      have hz : rcvP t a r = (acs0, recE r) := by unfold rcvP; rw [if_neg (by simp [d0]), if_pos d1]
      refine awp_reg_seq fun K hK => ?_
      simp [go_sem, hwf.one, hwf.zero, c0, d0, c1, d1]
      repeat refine ⟨by omega, ?_⟩
      refine hK _ ?_; clear hK K
      refine awp_ret ?_
      rw [hz]; simp [go_sem, Tryz.results26, acs0]
    · have d1 := c1; try simp at d1
      refine awp_skip ?_
      refine awp_seq ?_
      refine awp_reg_seq fun K hK => ?_
      simp [go_sem, hwf.one, hwf.zero, c0, d0, c1, d1]
      repeat refine ⟨by omega, ?_⟩
      refine CSk.mk (ref17_find_cs _ none a.nr a.r r.Number hm) ?_
      simp [go_sem, hwf.one, hwf.zero, c0, d0, c1, d1]
      repeat refine ⟨by omega, ?_⟩
      refine hK _ ?_; clear hK K
      refine awp_reg_seq fun K hK => ?_
      simp [go_sem, hwf.one, hwf.zero, c0, d0, c1, d1]
      repeat refine ⟨by omega, ?_⟩
      refine hK _ ?_; clear hK K
      refine awp_forget [3, 4, 5, 6, 34] (by simp only [restr, List.contains_cons, List.contains_nil, Nat.reduceBEq, Bool.or_false, Bool.or_true, Bool.true_or, Bool.false_or, if_true, if_false, Bool.false_eq_true]; rfl) ?_
      refine awp_cond rfl (fun c2 => ?_) (fun c2 => ?_)
      · have d2 := c2; try simp at d2
        have hz : rcvP t a r = (acs0, 6) := by unfold rcvP; rw [if_neg (by simp [d0]), if_neg (by simp [d1]), if_pos d2]
        refine awp_reg_seq fun K hK => ?_
        simp [go_sem, hwf.one, hwf.zero, c0, d0, c1, d1, c2, d2]
        repeat refine ⟨by omega, ?_⟩
        refine hK _ ?_; clear hK K
        refine awp_ret ?_
        rw [hz]; simp [go_sem, Tryz.results26, acs0]
      · have d2 := c2; try simp at d2
        have hno : (gotR a.nr a.r r.Number).2 = false := by simpa using d2
        refine awp_skip ?_
        refine awp_reg_seq fun K hK => ?_
        simp [go_sem, hwf.one, hwf.zero, c0, d0, c1, d1, c2, d2]
        repeat refine ⟨by omega, ?_⟩
        refine hK _ ?_; clear hK K
        refine awp_seq ?_
        refine awp_block ?_
        refine awp_forget [3, 4, 5, 6, 12] (by simp [go_sem, restr]; rfl) ?_
        refine awp_loopU (α := Nat) (fun i => [(12, .d (I i))]) (fun i => _) (fun i => i ≤ a.nr ∧ ∀ q, q < i → decide ((a.r q).Number < r.Number) = true) (fun i => a.nr - i) 0 (by simp [go_sem, hwf.one, hwf.zero]) (rfl) (by simp) ?_
        rintro i ⟨hi, hx⟩
        refine awp_seq ?_
        refine awp_draw_seq 16 T.mixed (by kernel_rfl) fun K hK => ?_
        simp [go_sem, hwf.one, hwf.zero, c0, d0, c1, d1, c2, d2]
        repeat refine ⟨by omega, ?_⟩
        refine hK _ ?_; clear hK K
        refine awp_forget [3, 4, 5, 6, 12, 51] (by simp only [restr, List.contains_cons, List.contains_nil, Nat.reduceBEq, Bool.or_false, Bool.or_true, Bool.true_or, Bool.false_or, if_true, if_false, Bool.false_eq_true]; rfl) ?_
        refine awp_cond rfl (fun c3 => ?_) (fun c3 => ?_)
        · have d3 := c3; try simp at d3
          have hia : i < a.nr := d3.1
          have heq : decide ((a.r i).Number < r.Number) = true := decide_eq_true d3.2
          refine awp_skip ?_
          refine awp_block ?_
          refine awp_reg_end fun K hK => ?_
          simp [go_sem, hwf.one, hwf.zero, c0, d0, c1, d1, c2, d2, c3, d3]
          try simp (disch := omega) only [wrapI]
          repeat refine ⟨by omega, ?_⟩
          refine hK _ ?_; clear hK K
          refine ⟨i + 1, back_of' (by simp) (.refl _) (by (simp [go_sem, wrap_succ (i := i) (by omega), hwf.one, hwf.zero, c0, d0, c1, d1, c2, d2, c3, d3] <;> omega)), ⟨by omega, fun q hq => by rcases Nat.lt_or_eq_of_le (Nat.le_of_lt_succ hq) with h | h; exact hx q h; rw [h]; exact heq⟩, by first | omega | (dsimp only; omega)⟩
        · have d3 := c3; try simp at d3
          have hpc := posR_cut ho.2 r.Number
          have hpos : i = posR a.nr a.r r.Number := cut_uniq (p := fun q => decide ((a.r q).Number < r.Number)) (posR_le _ _ _) hi (fun q hq => decide_eq_true (hpc.1 q hq)) (fun q h1 h2 => decide_eq_false (by have := hpc.2 q h1 h2; omega)) hx (fun h => decide_eq_false (by have := d3 h; omega))
          have hln : i + 1 + (a.nr - i) = a.nr + 1 := by omega
          have hsu : ((a.nr : Int) - (i : Int)).toNat = a.nr - i := by omega
          refine awp_exit ?_
          apply awp_chain_seq 14 [(5, 59), (8, 62), (13, 67)] [(.ms (σ.length + 5) 3 0 i, [.arr 3 i (fun q => Rec.enc (a.r q))]), (.ms (σ.length + 5) 3 0 (i + 1), [.arr 3 (i + 1) (catRows i (fun q => Rec.enc (a.r q)) (rowsOf 3 (Rec.enc r)))]), (.ms (σ.length + 5) 3 0 (a.nr + 1), [.arr 3 (a.nr + 1) (catRows (i + 1) (catRows i (fun q => Rec.enc (a.r q)) (rowsOf 3 (Rec.enc r))) (fun q => Rec.enc (a.r (i + q))))])] T.mixed (by kernel_rfl)
          · intro τ K hK
            simp [go_sem, hwf.one, hwf.zero, c0, d0, c1, d1, c2, d2, c3, d3, hln, hsu, hwf.one, hwf.zero]
            repeat refine ⟨by omega, ?_⟩
            exact hK _ _
          · decide
          · simp [go_sem, hwf.one, hwf.zero, c0, d0, c1, d1, c2, d2, c3, d3, hln, hsu, hwf.one, hwf.zero]
          · simp [go_sem, hwf.one, hwf.zero, c0, d0, c1, d1, c2, d2, c3, d3, hln, hsu, hwf.one, hwf.zero]
          · simp [go_sem, hwf.one, hwf.zero, c0, d0, c1, d1, c2, d2, c3, d3, hln, hsu, hwf.one, hwf.zero]
            repeat refine ⟨by omega, ?_⟩
            omega
          intro K hK
          simp [go_sem, hwf.one, hwf.zero, c0, d0, c1, d1, c2, d2, c3, d3, hln, hsu, hwf.one, hwf.zero]
          repeat refine ⟨by omega, ?_⟩
          refine hK _ ?_; clear hK K
          refine awp_reg_seq fun K hK => ?_
          simp [go_sem, hwf.one, hwf.zero, c0, d0, c1, d1, c2, d2, c3, d3, hln, hsu, hwf.one, hwf.zero]
          repeat refine ⟨by omega, ?_⟩
          refine hK _ ?_; clear hK K
          refine awp_seq ?_
          refine awp_rows (σ.length + 5) (fun q => Rec.enc (insG a.r (posR a.nr a.r r.Number) r q)) (by simp [go_sem]; first | exact ⟨rfl, rfl, rfl⟩ | exact ⟨rfl, rfl⟩ | rfl) (by
            intro q hq
            simp only [catRows, ← hpos]
            rcases Nat.lt_trichotomy q i with h | h | h
            · rw [if_pos (by omega), if_pos h, ins_lt h]; rfl
            · rw [if_pos (by omega), if_neg (by omega), h, ins_at, Nat.sub_self]; simp [rowsOf, Rec.enc]
            · rw [if_neg (by omega), ins_gt h, show i + (q - (i + 1)) = q - 1 by omega]; rfl) (by simp [go_sem]; rfl) ?_
          refine awp_freeze (σ.length + 5) (by simp [go_sem]; first | exact ⟨rfl, rfl, rfl⟩ | exact ⟨rfl, rfl⟩ | rfl) (by simp [go_sem]; rfl) (by simp [go_sem, hwf.frz, hwf.frz0]; rfl) ?_
          refine awp_freeze (σ.length + 6) (by simp [go_sem]; first | exact ⟨rfl, rfl, rfl⟩ | exact ⟨rfl, rfl⟩ | rfl) (by simp [go_sem]; rfl) (by simp [go_sem, hwf.frz, hwf.frz0]; rfl) ?_
          refine awp_reg_seq fun K hK => ?_
          simp [go_sem, hwf.one, hwf.zero, c0, d0, c1, d1, c2, d2, c3, d3, hln, hsu]
          repeat refine ⟨by omega, ?_⟩
          refine CSk.mk (ref17_agreed_cs _ t (putR a r) hn (by simp only [putR]; omega) hk) ?_
          simp [go_sem, hwf.one, hwf.zero, c0, d0, c1, d1, c2, d2, c3, d3, hln, hsu]
          repeat refine ⟨by omega, ?_⟩
          refine hK _ ?_; clear hK K
          refine awp_forget [4, 6, 77] (by simp only [restr, List.contains_cons, List.contains_nil, Nat.reduceBEq, Bool.or_false, Bool.or_true, Bool.true_or, Bool.false_or, if_true, if_false, Bool.false_eq_true]; rfl) ?_
          refine awp_cond rfl (fun c4 => ?_) (fun c4 => ?_)
          · have d4 := c4; try simp at d4
            have hz : rcvP t a r = (acs0, 11) := by unfold rcvP; rw [if_neg (by simp [d0]), if_neg (by simp [d1]), if_neg (by simp [hno]), if_pos (by simpa [putR] using d4)]
            refine awp_reg_seq fun K hK => ?_
            simp [go_sem, hwf.one, hwf.zero, c0, d0, c1, d1, c2, d2, c3, d3, hln, hsu, c4, d4]
            repeat refine ⟨by omega, ?_⟩
            refine hK _ ?_; clear hK K
            refine awp_ret ?_
            rw [hz]; simp [go_sem, Tryz.results26, acs0]
          · have d4 := c4; try simp at d4
            have hag2 : agrB (allT t (putR a r)) a.na a.a = true := by simpa [putR] using d4
            refine awp_skip ?_
            refine awp_seq ?_
            refine awp_reg_seq fun K hK => ?_
            simp [go_sem, hwf.one, hwf.zero, c0, d0, c1, d1, c2, d2, c3, d3, hln, hsu, c4, d4]
            repeat refine ⟨by omega, ?_⟩
            refine hK _ ?_; clear hK K
            refine awp_forget [4, 6, 82] (by simp only [restr, List.contains_cons, List.contains_nil, Nat.reduceBEq, Bool.or_false, Bool.or_true, Bool.true_or, Bool.false_or, if_true, if_false, Bool.false_eq_true]; rfl) ?_
            refine awp_cond rfl (fun c5 => ?_) (fun c5 => ?_)
            · have d5 := c5; try simp at d5
              have hz : rcvP t a r = (acs0, 8) := by unfold rcvP; rw [if_neg (by simp [d0]), if_neg (by simp [d1]), if_neg (by simp [hno]), if_neg (by simp [hag2]), if_pos (by omega)]
              refine awp_reg_seq fun K hK => ?_
              simp [go_sem, hwf.one, hwf.zero, c0, d0, c1, d1, c2, d2, c3, d3, hln, hsu, c4, d4, c5, d5]
              repeat refine ⟨by omega, ?_⟩
              refine hK _ ?_; clear hK K
              refine awp_ret ?_
              rw [hz]; simp [go_sem, Tryz.results26, acs0]
            · have d5 := c5; try simp at d5
              have hz : rcvP t a r = (putR a r, 0) := by unfold rcvP; rw [if_neg (by simp [d0]), if_neg (by simp [d1]), if_neg (by simp [hno]), if_neg (by simp [hag2]), if_neg (by omega)]
              refine awp_skip ?_
              refine awp_reg_seq fun K hK => ?_
              simp [go_sem, hwf.one, hwf.zero, c0, d0, c1, d1, c2, d2, c3, d3, hln, hsu, c4, d4, c5, d5]
              repeat refine ⟨by omega, ?_⟩
              refine hK _ ?_; clear hK K
              refine awp_ret ?_
              rw [hz]; simp [go_sem, Tryz.results26, putR]

end Go.Proofs.YtnbokgmimbeihaaGreatDoor

/-! Cv -/
namespace Go.Proofs.YtnbokgmimbeihaaGreatDoor
open Go.Abs Go.Arch
set_option linter.unusedVariables false
set_option linter.unusedSimpArgs false
set_option maxRecDepth 100000
set_option maxHeartbeats 1000000

theorem few_t {t : TL} (h : few16 t = true) : t.n ≤ 129 ∧ ∀ i, i < t.n → (t.g i).Title.size < 4294967281 := by
  obtain ⟨h1, h2⟩ := (few16_iff t).1 h
  exact ⟨by omega, fun i hi => by have := (h2 i hi).1; omega⟩
theorem few_a {a : Acs} (h : fewA a = true) : a.nr ≤ 129 ∧ a.na ≤ 129 := by
  obtain ⟨h1, h2, _⟩ := (fewA_iff a).1 h
  exact ⟨by omega, by omega⟩
theorem sameA_self (x : Acs) : YtnbokgmimbeihaaGreatDoor.sameA x x = true := (sameA_iff x x).2 ⟨rfl, rfl, rfl, rfl, rfl⟩
theorem agrP_le (t : TL) (a : Acs) (d : Dif) : (agrP t a d).1.nr ≤ a.nr ∧ (agrP t a d).1.na ≤ a.na + 1 := by
  unfold agrP
  split; exact ⟨Nat.zero_le _, Nat.zero_le _⟩
  split; exact ⟨Nat.zero_le _, Nat.zero_le _⟩
  split; exact ⟨Nat.zero_le _, Nat.zero_le _⟩
  split; exact ⟨Nat.zero_le _, Nat.zero_le _⟩
  exact ⟨Nat.le_refl _, Nat.le_refl _⟩
theorem rcvP_le (t : TL) (a : Acs) (r : Rec) : (rcvP t a r).1.nr ≤ a.nr + 1 ∧ (rcvP t a r).1.na ≤ a.na := by
  unfold rcvP
  split; exact ⟨Nat.zero_le _, Nat.zero_le _⟩
  split; exact ⟨Nat.zero_le _, Nat.zero_le _⟩
  split; exact ⟨Nat.zero_le _, Nat.zero_le _⟩
  split; exact ⟨Nat.zero_le _, Nat.zero_le _⟩
  split; exact ⟨Nat.zero_le _, Nat.zero_le _⟩
  exact ⟨Nat.le_refl _, Nat.le_refl _⟩
theorem cmpP_le (t : TL) (m : Nat) (g : Nat → Rec) : (cmpP t m g).1.length ≤ 20000 := by
  have h := allD_len t.n t.g m g
  unfold cmpP
  generalize allD t.n t.g m g = L at *
  split
  · exact h
  · exact Nat.zero_le _
theorem opnP_le (t : TL) (a : Acs) : (opnP t a).1.length ≤ 20000 := by
  have h := opnL_len t a
  unfold opnP
  generalize opnL t a = L at *
  split
  · exact h
  · exact Nat.zero_le _
theorem numL_le (t : TL) (a : Acs) : (numL t a).length ≤ a.nr := by
  unfold numL
  by_cases h : (opnL t a).length = 0
  · rw [if_pos h, lst_length]; exact Nat.le_refl _
  · rw [if_neg h]; exact Nat.zero_le _
theorem numP_le (t : TL) (a : Acs) : (numP t a).1.length ≤ a.nr := by
  have h := numL_le t a
  unfold numP
  generalize numL t a = L at *
  by_cases hc : chkA t a = 0
  · rw [if_pos hc]; exact h
  · rw [if_neg hc]; exact Nat.zero_le _


theorem law17_AccessionCompares_cs (σ : List Blk) (t : TL) (a : Acs) (hn : t.n ≤ 9223372036854775807) (h1 : a.nr ≤ 9223372036854775807) (h2 : a.na ≤ 9223372036854775807) (hσ : σ[0]? = some (.loc 0)) (hσ1 : σ[1]? = some (.tab 1 powV)) : CSF Tryz.prog 6 [.agg (t.enc.map .d), .agg (a.enc.map .d)] σ (.d (B true)) := by
  have hl := cmpP_le t a.nr a.r
  refine CSF.of_body T.en6 Tryz.func6 rfl (by simp [Tryz.ntmps6]) (by simp [go_sem]) fun hwf => ?_
  refine awp_reg_seq fun K hK => ?_
  simp [go_sem, Tryz.ntmps6, eqL_self]
  repeat refine ⟨by omega, ?_⟩
  refine hK _ ?_; clear hK K
  refine awp_seq ?_
  refine awp_reg_seq fun K hK => ?_
  simp [go_sem, eqL_self]
  repeat refine ⟨by omega, ?_⟩
  refine CSk.mk (law17_awake_cs _ (loc_app hσ) (loc_app hσ1)) ?_
  simp [go_sem, eqL_self]
  repeat refine ⟨by omega, ?_⟩
  refine CSm.mk (law17_few_cs _ t a hn h1 h2) ?_
  simp [go_sem, eqL_self]
  repeat refine ⟨by omega, ?_⟩
  refine hK _ ?_; clear hK K
  refine awp_forget [2, 3, 16] (by simp only [restr, List.contains_cons, List.contains_nil, Nat.reduceBEq, Bool.or_false, Bool.or_true, Bool.true_or, Bool.false_or, if_true, if_false, Bool.false_eq_true]; rfl) ?_
  refine awp_cond rfl (fun c0 => ?_) (fun c0 => ?_)
  · have d0 := c0; try simp at d0
    refine awp_reg_seq fun K hK => ?_
    simp [go_sem, eqL_self, c0, d0]
    repeat refine ⟨by omega, ?_⟩
    refine CSk.mk (law17_awake_cs _ (loc_app hσ) (loc_app hσ1)) ?_
    simp [go_sem, eqL_self, c0, d0]
    repeat refine ⟨by omega, ?_⟩
    refine hK _ ?_; clear hK K
    refine awp_ret ?_
    simp [go_sem, Tryz.results6, eqL_self, c0, d0] <;> omega
  · have d0 := c0; try simp at d0
    obtain ⟨hn9, hN⟩ := few_t d0.1
    obtain ⟨hr9, ha9⟩ := few_a d0.2
    refine awp_skip ?_
    refine awp_draw_seq 9 T.mixed (by kernel_rfl) fun K hK => ?_
    simp [go_sem, eqL_self, c0, d0]
    repeat refine ⟨by omega, ?_⟩
    refine CSg.mk (cloneRec_cs _ none a.nr a.r (by omega)) ?_
    simp [go_sem, eqL_self, c0, d0]
    repeat refine ⟨by omega, ?_⟩
    refine CSg.mk (accession_Compare_cs _ t none a.nr a.r (by omega) hN (by omega) (loc_app hσ)) ?_
    simp [go_sem, eqL_self, c0, d0]
    repeat refine ⟨by omega, ?_⟩
    refine hK _ ?_; clear hK K
    refine awp_reg_seq fun K hK => ?_
    simp [go_sem, eqL_self, c0, d0]
    repeat refine ⟨by omega, ?_⟩
    refine CSk.mk (ref17_Compare_cs _ t none a.nr a.r (by omega) hN (by omega)) ?_
    simp [go_sem, eqL_self, c0, d0]
    repeat refine ⟨by omega, ?_⟩
    refine hK _ ?_; clear hK K
    refine awp_reg_seq fun K hK => ?_
    simp [go_sem, eqL_self, c0, d0]
    repeat refine ⟨by omega, ?_⟩
    refine CSk.mk (equalDif_cs _ none none _ _ (nth (cmpP t a.nr a.r).1) (nth (cmpP t a.nr a.r).1) (by omega) (by omega)) ?_
    simp [go_sem, eqL_self, c0, d0]
    repeat refine ⟨by omega, ?_⟩
    refine hK _ ?_; clear hK K
    refine awp_ret ?_
    simp [go_sem, Tryz.results6, eqL_self, c0, d0] <;> omega

theorem law17_AccessionChecks_cs (σ : List Blk) (t : TL) (a : Acs) (d : Dif) (hn : t.n ≤ 9223372036854775807) (h1 : a.nr ≤ 9223372036854775807) (h2 : a.na ≤ 9223372036854775807) (hσ : σ[0]? = some (.loc 0)) (hσ1 : σ[1]? = some (.tab 1 powV)) : CSF Tryz.prog 3 [.agg (t.enc.map .d), .agg (a.enc.map .d), .agg (d.enc.map .d)] σ (.d (B true)) := by
  have hl := opnP_le t a
  have hl2 := numP_le t a
  refine CSF.of_body T.en3 Tryz.func3 rfl (by simp [Tryz.ntmps3]) (by simp [go_sem]) fun hwf => ?_
  refine awp_reg_seq fun K hK => ?_
  simp [go_sem, Tryz.ntmps3, eqL_self]
  repeat refine ⟨by omega, ?_⟩
  refine hK _ ?_; clear hK K
  refine awp_seq ?_
  refine awp_reg_seq fun K hK => ?_
  simp [go_sem, eqL_self]
  repeat refine ⟨by omega, ?_⟩
  refine CSk.mk (law17_awake_cs _ (loc_app hσ) (loc_app hσ1)) ?_
  simp [go_sem, eqL_self]
  repeat refine ⟨by omega, ?_⟩
  refine CSm.mk (law17_few_cs _ t a hn h1 h2) ?_
  simp [go_sem, eqL_self]
  repeat refine ⟨by omega, ?_⟩
  refine hK _ ?_; clear hK K
  refine awp_forget [3, 4, 5, 26] (by simp only [restr, List.contains_cons, List.contains_nil, Nat.reduceBEq, Bool.or_false, Bool.or_true, Bool.true_or, Bool.false_or, if_true, if_false, Bool.false_eq_true]; rfl) ?_
  refine awp_cond rfl (fun c0 => ?_) (fun c0 => ?_)
  · have d0 := c0; try simp at d0
    refine awp_reg_seq fun K hK => ?_
    simp [go_sem, eqL_self, c0, d0]
    repeat refine ⟨by omega, ?_⟩
    refine CSk.mk (law17_awake_cs _ (loc_app hσ) (loc_app hσ1)) ?_
    simp [go_sem, eqL_self, c0, d0]
    repeat refine ⟨by omega, ?_⟩
    refine hK _ ?_; clear hK K
    refine awp_ret ?_
    simp [go_sem, Tryz.results3, eqL_self, c0, d0] <;> omega
  · have d0 := c0; try simp at d0
    obtain ⟨hn9, hN⟩ := few_t d0.1
    obtain ⟨hr9, ha9⟩ := few_a d0.2
    refine awp_skip ?_
    refine awp_draw_seq 8 T.mixed (by kernel_rfl) fun K hK => ?_
    simp [go_sem, eqL_self, c0, d0]
    repeat refine ⟨by omega, ?_⟩
    refine CSg.mk (law17_cp_cs _ a (by omega) (by omega)) ?_
    simp [go_sem, eqL_self, c0, d0]
    repeat refine ⟨by omega, ?_⟩
    refine CSg.mk (accession_Open_cs _ t a (by omega) hN (loc_app hσ) (by omega) (by omega)) ?_
    simp [go_sem, eqL_self, c0, d0]
    repeat refine ⟨by omega, ?_⟩
    refine hK _ ?_; clear hK K
    refine awp_reg_seq fun K hK => ?_
    simp [go_sem, eqL_self, c0, d0]
    repeat refine ⟨by omega, ?_⟩
    refine CSk.mk (ref17_Open_cs _ t a (by omega) hN (by omega) (by omega)) ?_
    simp [go_sem, eqL_self, c0, d0]
    repeat refine ⟨by omega, ?_⟩
    refine hK _ ?_; clear hK K
    refine awp_draw_seq 8 T.mixed (by kernel_rfl) fun K hK => ?_
    simp [go_sem, eqL_self, c0, d0]
    repeat refine ⟨by omega, ?_⟩
    refine CSg.mk (law17_cp_cs _ a (by omega) (by omega)) ?_
    simp [go_sem, eqL_self, c0, d0]
    repeat refine ⟨by omega, ?_⟩
    refine CSg.mk (accession_Numbers_cs _ t a (by omega) hN (loc_app hσ) (by omega) (by omega)) ?_
    simp [go_sem, eqL_self, c0, d0]
    repeat refine ⟨by omega, ?_⟩
    refine hK _ ?_; clear hK K
    refine awp_reg_seq fun K hK => ?_
    simp [go_sem, eqL_self, c0, d0]
    repeat refine ⟨by omega, ?_⟩
    refine CSk.mk (ref17_Numbers_cs _ t a (by omega) hN (by omega) (by omega)) ?_
    simp [go_sem, eqL_self, c0, d0]
    repeat refine ⟨by omega, ?_⟩
    refine hK _ ?_; clear hK K
    refine awp_reg_seq fun K hK => ?_
    simp [go_sem, eqL_self, c0, d0]
    repeat refine ⟨by omega, ?_⟩
    refine CSk.mk (accession_Text_cs _ d (loc_app hσ1)) ?_
    simp [go_sem, eqL_self, c0, d0]
    repeat refine ⟨by omega, ?_⟩
    refine hK _ ?_; clear hK K
    refine awp_reg_seq fun K hK => ?_
    simp [go_sem, eqL_self, c0, d0]
    repeat refine ⟨by omega, ?_⟩
    refine CSk.mk (ref17_Text_cs _ d) ?_
    simp [go_sem, eqL_self, c0, d0]
    repeat refine ⟨by omega, ?_⟩
    refine hK _ ?_; clear hK K
    refine awp_draw_seq 38 T.mixed (by kernel_rfl) fun K hK => ?_
    simp [go_sem, eqL_self, c0, d0]
    repeat refine ⟨by omega, ?_⟩
    refine CSg.mk (law17_cp_cs _ a (by omega) (by omega)) ?_
    simp [go_sem, eqL_self, c0, d0]
    repeat refine ⟨by omega, ?_⟩
    refine CSg.mk (accession_Check_cs _ t a (by omega) hN (loc_app hσ) (by omega) (by omega)) ?_
    simp [go_sem, eqL_self, c0, d0]
    repeat refine ⟨by omega, ?_⟩
    refine CSg.mk (ref17_Check_cs _ t a (by omega) hN (by omega) (by omega)) ?_
    simp [go_sem, eqL_self, c0, d0]
    repeat refine ⟨by omega, ?_⟩
    refine CSg.mk (equalDif_cs _ none none _ _ (nth (opnP t a).1) (nth (opnP t a).1) (by omega) (by omega)) ?_
    simp [go_sem, eqL_self, c0, d0]
    repeat refine ⟨by omega, ?_⟩
    refine CSg.mk (equalInt_cs _ none none _ _ (nth (numP t a).1) (nth (numP t a).1) (by omega) (by omega)) ?_
    simp [go_sem, eqL_self, c0, d0]
    repeat refine ⟨by omega, ?_⟩
    refine hK _ ?_; clear hK K
    refine awp_ret ?_
    simp [go_sem, Tryz.results3, eqL_self, c0, d0] <;> omega

theorem law17_AccessionChanges_cs (σ : List Blk) (t : TL) (a : Acs) (d : Dif) (r : Rec) (hn : t.n ≤ 9223372036854775807) (h1 : a.nr ≤ 9223372036854775807) (h2 : a.na ≤ 9223372036854775807) (hσ : σ[0]? = some (.loc 0)) (hσ1 : σ[1]? = some (.tab 1 powV)) : CSF Tryz.prog 4 [.agg (t.enc.map .d), .agg (a.enc.map .d), .agg (d.enc.map .d), .agg (r.enc.map .d)] σ (.d (B true)) := by
  have hl := agrP_le t a d
  have hl2 := rcvP_le t a r
  refine CSF.of_body T.en4 Tryz.func4 rfl (by simp [Tryz.ntmps4]) (by simp [go_sem]) fun hwf => ?_
  refine awp_reg_seq fun K hK => ?_
  simp [go_sem, Tryz.ntmps4, sameA_self]
  repeat refine ⟨by omega, ?_⟩
  refine hK _ ?_; clear hK K
  refine awp_seq ?_
  refine awp_reg_seq fun K hK => ?_
  simp [go_sem, sameA_self]
  repeat refine ⟨by omega, ?_⟩
  refine CSk.mk (law17_awake_cs _ (loc_app hσ) (loc_app hσ1)) ?_
  simp [go_sem, sameA_self]
  repeat refine ⟨by omega, ?_⟩
  refine CSm.mk (law17_few_cs _ t a hn h1 h2) ?_
  simp [go_sem, sameA_self]
  repeat refine ⟨by omega, ?_⟩
  refine hK _ ?_; clear hK K
  refine awp_forget [4, 5, 6, 7, 30] (by simp only [restr, List.contains_cons, List.contains_nil, Nat.reduceBEq, Bool.or_false, Bool.or_true, Bool.true_or, Bool.false_or, if_true, if_false, Bool.false_eq_true]; rfl) ?_
  refine awp_cond rfl (fun c0 => ?_) (fun c0 => ?_)
  · have d0 := c0; try simp at d0
    refine awp_reg_seq fun K hK => ?_
    simp [go_sem, sameA_self, c0, d0]
    repeat refine ⟨by omega, ?_⟩
    refine CSk.mk (law17_awake_cs _ (loc_app hσ) (loc_app hσ1)) ?_
    simp [go_sem, sameA_self, c0, d0]
    repeat refine ⟨by omega, ?_⟩
    refine hK _ ?_; clear hK K
    refine awp_ret ?_
    simp [go_sem, Tryz.results4, sameA_self, c0, d0] <;> omega
  · have d0 := c0; try simp at d0
    obtain ⟨hn9, hN⟩ := few_t d0.1.1
    obtain ⟨hr9, ha9⟩ := few_a d0.1.2
    refine awp_skip ?_
    apply awp_own_seq 10 8 9 T.mixed (by kernel_rfl)
    · intro τ K hK
      simp [go_sem, sameA_self, c0, d0]
      repeat refine ⟨by omega, ?_⟩
      refine CSg.mk (law17_cp_cs _ a (by omega) (by omega)) ?_
      simp [go_sem, sameA_self, c0, d0]
      repeat refine ⟨by omega, ?_⟩
      refine CSg.mk (accession_Agree_cs _ t a d (by omega) hN (loc_app hσ) (by omega) (by omega)) ?_
      simp [go_sem, sameA_self, c0, d0]
      repeat refine ⟨by omega, ?_⟩
      exact hK _ _
    intro K hK
    simp [go_sem, sameA_self, c0, d0]
    repeat refine ⟨by omega, ?_⟩
    refine hK _ ?_; clear hK K
    refine awp_reg_seq fun K hK => ?_
    simp [go_sem, sameA_self, c0, d0]
    repeat refine ⟨by omega, ?_⟩
    refine CSk.mk (ref17_Agree_cs _ t a d (by omega) hN (by omega) (by omega)) ?_
    simp [go_sem, sameA_self, c0, d0]
    repeat refine ⟨by omega, ?_⟩
    refine hK _ ?_; clear hK K
    apply awp_own_seq 10 8 9 T.mixed (by kernel_rfl)
    · intro τ K hK
      simp [go_sem, sameA_self, c0, d0]
      repeat refine ⟨by omega, ?_⟩
      refine CSg.mk (law17_cp_cs _ a (by omega) (by omega)) ?_
      simp [go_sem, sameA_self, c0, d0]
      repeat refine ⟨by omega, ?_⟩
      refine CSg.mk (accession_Receive_cs _ t a r (by omega) hN (loc_app hσ) (by omega) (by omega) (by omega)) ?_
      simp [go_sem, sameA_self, c0, d0]
      repeat refine ⟨by omega, ?_⟩
      exact hK _ _
    intro K hK
    simp [go_sem, sameA_self, c0, d0]
    repeat refine ⟨by omega, ?_⟩
    refine hK _ ?_; clear hK K
    refine awp_reg_seq fun K hK => ?_
    simp [go_sem, sameA_self, c0, d0]
    repeat refine ⟨by omega, ?_⟩
    refine CSk.mk (ref17_Receive_cs _ t a r (by omega) hN (by omega) (by omega)) ?_
    simp [go_sem, sameA_self, c0, d0]
    repeat refine ⟨by omega, ?_⟩
    refine hK _ ?_; clear hK K
    refine awp_reg_seq fun K hK => ?_
    simp [go_sem, sameA_self, c0, d0]
    repeat refine ⟨by omega, ?_⟩
    refine CSk.mk (ref17_Same_cs _ (agrP t a d).1 (agrP t a d).1 (by omega) (by omega) (by omega) (by omega)) ?_
    simp [go_sem, sameA_self, c0, d0]
    repeat refine ⟨by omega, ?_⟩
    refine CSm.mk (ref17_Same_cs _ (rcvP t a r).1 (rcvP t a r).1 (by omega) (by omega) (by omega) (by omega)) ?_
    simp [go_sem, sameA_self, c0, d0]
    repeat refine ⟨by omega, ?_⟩
    refine hK _ ?_; clear hK K
    refine awp_ret ?_
    simp [go_sem, Tryz.results4, sameA_self, c0, d0] <;> omega

end Go.Proofs.YtnbokgmimbeihaaGreatDoor
