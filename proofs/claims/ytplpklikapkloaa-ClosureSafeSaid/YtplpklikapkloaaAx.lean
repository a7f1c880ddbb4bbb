/- Abstract values: a region that draws its order, with one variable that it makes itself. -/
import Derived.Test.YtplpklikapkloaaAw
namespace Go.Abs
set_option linter.unusedVariables false
set_option linter.unusedSimpArgs false

/-- the operations that compute; the variable's making and its first store are passed over -/
def evalO (P : Program) (all : List Oper) (ia ist n : Nat) : List Oper → Nat → St → (St → Prop) → Prop
  | [], _, s, K => K s
  | o :: os, i, s, K => if Nat.beq i ia then evalO P all ia ist n os (i + 1) (s.put o.dst (.ptr n 0)) K
    else if Nat.beq i ist then evalO P all ia ist n os (i + 1) s K
    else guardA all s o fun gd g => opA P true gd g o s fun s' => evalO P all ia ist n os (i + 1) s' K

def isAllocB (o : Oper) : Bool := match o.op, o.guard, o.dst with
  | .alloc _, none, some _ => true
  | _, _, _ => false
def isStoreB (d : Option Tmp) (o : Oper) : Bool := match o.op, o.guard, o.dst, d with
  | .store _ (.tmp p) _, none, none, some d => Nat.beq p d
  | _, _, _, _ => false
def ownOk (ops : List Oper) (m ia ist : Nat) : Bool :=
  match ops[ia]? with
  | some oa => isAllocB oa && Nat.blt ia m && !Nat.beq ia ist && (List.range m).all (fun i => Nat.beq i ia || (if Nat.beq i ist then (match ops[i]? with
      | some o => isStoreB oa.dst o && depB o ia && (List.range m).all (fun q => Nat.ble q i || (match ops[q]? with
        | some oq => (match oq.dst with
          | some d => !(looks ops o).contains d
          | none => true)
        | none => true))
      | none => false) else (match ops[i]?, oa.dst with
      | some o, some d => !(looks ops o).contains d
      | _, _ => false))) && (Nat.blt ist m || Nat.beq ist ops.length)
  | none => false

/-- the variable's cells behind the part that computes -/
def ownA (P : Program) (ops : List Oper) (ia ist : Nat) (s : St) (K : List AV → Prop) : Prop :=
  match nthOp ops ia with
  | some oa => (match oa.dst with
    | some d => Nat.blt d s.N = true
    | none => False) ∧ (match oa.op with
    | .alloc t => (match zeroA P t with
      | some z => (match nthOp ops ist with
        | some os => (match os.op with
          | .store t' _ v => arg true s v fun av => (match tyA P t' with
            | some (_, m) => allOne (cellsOf av) = true ∧ (cellsOf av).length = m ∧ z.length = m ∧ K (cellsOf av)
            | none => False)
          | _ => False)
        | none => K (z.map fun v => .d (.v v)))
      | none => False)
    | _ => False)
  | none => False

theorem unrollO {P : Program} {all : List Oper} {ia ist n : Nat} : ∀ {os : List Oper} {i0 : Nat} {s : St} {K : St → Prop}, evalO P all ia ist n os i0 s K →
    (∀ i o, os[i]? = some o → i0 + i = ist → o.dst = none) →
    ∃ xs : Nat → AV, K (stAt s os xs os.length) ∧ (∀ i, i0 + i = ia → xs i = .ptr n 0) ∧ ∀ i o, os[i]? = some o → i0 + i ≠ ia → i0 + i ≠ ist → Local P all o (stAt s os xs i) (xs i)
  | [], i0, s, K, h, _ => ⟨fun _ => .ptr n 0, h, fun _ _ => rfl, by simp⟩
  | o :: os, i0, s, K, h, hd => by
    have key : ∀ x : AV, evalO P all ia ist n os (i0 + 1) (s.put o.dst x) K → (i0 = ia → x = .ptr n 0) → (i0 ≠ ia → i0 ≠ ist → Local P all o s x) →
        ∃ xs : Nat → AV, K (stAt s (o :: os) xs (o :: os).length) ∧ (∀ i, i0 + i = ia → xs i = .ptr n 0) ∧ ∀ i o', (o :: os)[i]? = some o' → i0 + i ≠ ia → i0 + i ≠ ist → Local P all o' (stAt s (o :: os) xs i) (xs i) := by
      intro x h hx hl
      obtain ⟨xs, hK, hia, hloc⟩ := unrollO h (fun i o' hi he => hd (i + 1) o' (by simpa using hi) (by omega))
      have hst : ∀ i, stAt s (o :: os) (fun | 0 => x | i + 1 => xs i) (i + 1) = stAt (s.put o.dst x) os xs i := by
        intro i
        induction i with
        | zero => rfl
        | succ i ih =>
          show (match (o :: os)[i + 1]? with | some o' => (stAt s (o :: os) (fun | 0 => x | i + 1 => xs i) (i + 1)).put o'.dst (xs i) | none => stAt s (o :: os) (fun | 0 => x | i + 1 => xs i) (i + 1)) = _
          rw [ih]
          simp only [List.getElem?_cons_succ]
          rfl
      refine ⟨fun | 0 => x | i + 1 => xs i, ?_, fun i hi => ?_, fun i o' hi h1 h2 => ?_⟩
      · rw [List.length_cons, hst]; exact hK
      · cases i with
        | zero => exact hx (by simpa using hi)
        | succ i => exact hia i (by omega)
      · cases i with
        | zero => simp at hi; subst hi; exact hl (by simpa using h1) (by simpa using h2)
        | succ i => rw [hst]; exact hloc i o' (by simpa using hi) (by omega) (by omega)
    simp only [evalO] at h
    by_cases h1 : i0 = ia
    · rw [if_pos (by simpa using h1)] at h
      exact key _ h (fun _ => rfl) (fun h2 => absurd h1 h2)
    · rw [if_neg (by simpa using h1)] at h
      by_cases h2 : i0 = ist
      · rw [if_pos (by simpa using h2)] at h
        have hdn := hd 0 o (by simp) (by simpa using h2)
        refine key (.ptr n 0) (by rw [hdn]; exact h) (fun _ => rfl) (fun _ h3 => absurd h2 h3)
      · rw [if_neg (by simpa using h2)] at h
        obtain ⟨x, hl, h⟩ := local_of h
        exact key x h (fun h3 => absurd h3 h1) (fun _ _ => hl)

/-- the variable, as far as it is -/
def tau (ia ist : Nat) (z c : List AV) (listed : Array Bool) : List Blk := if listed.getD ia false then [.var (if listed.getD ist false then c else z)] else []

structure InvO (s : St) (ops : List Oper) (m ia ist : Nat) (z c : List AV) (t1 : List (Nat × AV)) (j0 : J0) (listed : Array Bool) (j : Js) (a : Act) (w : World) : Prop where
  defers : Marks j0.n0 w j a.defers
  rdok : ∀ l, j0.rd = some l → ∃ r, w.heap[l]? = some (.loop r)
  size : a.tmps.size = s.N
  sto : RelS w j (s.σ ++ tau ia ist z c listed)
  len0 : j0.js.length ≤ j.length
  ag : Ag j0.js j s.mv
  lsize : listed.size = ops.length
  lB : ∀ k, m ≤ k → k < ops.length → ∀ b, listed.getD k b = false
  cl : ∀ q oq, q < m → ops[q]? = some oq → listed.getD q true = true → ∀ e ∈ oq.after, Region.binds .any e = true → listed.getD e.on false = true
  c1 : ∀ q oq k av, q < m → ops[q]? = some oq → oq.dst = some k → listed.getD q true = true → get t1 k = some av → k < s.N ∧ R w j av (a.tmps.getD k Go.undef)
  c2 : ∀ k av, (∀ q oq, q < m → ops[q]? = some oq → oq.dst = some k → listed.getD q true = false) → get s.t k = some av → k < s.N ∧ R w j av (a.tmps.getD k Go.undef)

section
variable {P : Program} {ops : List Oper} {m ia ist : Nat}

theorem getD_tf {listed : Array Bool} {n q : Nat} (hs : listed.size = n) (hq : q < n) : listed.getD q false = listed.getD q true := by
  have hsz : q < listed.size := by omega
  simp [hsz]

theorem stAt_ext (s : St) (τ : List Blk) (os : List Oper) (xs : Nat → AV) : ∀ i, stAt ⟨s.N, s.t, s.σ ++ τ, s.mv⟩ os xs i = ⟨s.N, (stAt s os xs i).t, s.σ ++ τ, s.mv⟩
  | 0 => rfl
  | i + 1 => by
    simp only [stAt, stAt_ext s τ os xs i]
    have hf := stAt_fields s os xs i
    split
    · rename_i o _
      cases o.dst with
      | none => rfl
      | some d =>
        simp only [St.put, hf.1]
        split <;> rfl
    · rfl

/-- what the operations of the part that computes come to, whatever the variable is -/
structure PureO (P : Program) (s : St) (ops : List Oper) (m ia ist : Nat) (t1 : List (Nat × AV)) : Prop where
  at_ : ∀ τ : List Blk, ∃ xs : Nat → AV, (stAt s (ops.take m) xs m).t = t1 ∧ (xs ia = .ptr s.σ.length 0) ∧
    ∀ i o, i < m → ops[i]? = some o → i ≠ ia → i ≠ ist → Local P ops o ⟨s.N, (stAt s (ops.take m) xs i).t, s.σ ++ τ, s.mv⟩ (xs i)

theorem get_writ (hok : drawOk ops m = true) (hmn : m ≤ ops.length) {s : St} {xs : Nat → AV} {q : Nat} {oq : Oper} {k : Nat} (hq : q < m) (hqo : ops[q]? = some oq) (hqd : oq.dst = some k) {i : Nat} (hqi : q < i) (him : i ≤ m) :
    get (stAt s (ops.take m) xs i).t k = if k < s.N then some (xs q) else none :=
  get_stAt_some (oq := oq) (by rw [take_get hq]; exact hqo) hqd hqi (fun p o h1 h2 h3 => by
    rw [take_get (by omega)] at h3
    exact (okA_spec ((drawOk_spec hok hqo).2.1 hq)).2 p o k (by omega) (by omega) h3 hqd)

theorem get_unwrit {s : St} {xs : Nat → AV} {k : Nat} {i : Nat} (him : i ≤ m) (hw : ¬ ∃ q oq, q < i ∧ ops[q]? = some oq ∧ oq.dst = some k) :
    get (stAt s (ops.take m) xs i).t k = get s.t k :=
  get_stAt_none (fun p o h1 h2 => by
    rw [take_get (by omega)] at h2
    exact fun hd => hw ⟨p, o, h1, h2, hd⟩)

/-- the state as the text has it fits what an operation looks at -/
theorem InvO.looks_rel (hok : drawOk ops m = true) (hmn : m ≤ ops.length) {s : St} {z c : List AV} {t1 : List (Nat × AV)} {j0 : J0} {listed : Array Bool} {j : Js} {a : Act} {w : World}
    (hI : InvO s ops m ia ist z c t1 j0 listed j a w) {xs : Nat → AV} (hxs : (stAt s (ops.take m) xs m).t = t1) {i : Nat} {o : Oper} (him : i < m) (ho : ops[i]? = some o) (h0 : listed.getD i true = false)
    (hall : ∀ e ∈ o.after, Region.binds .any e = true → listed.getD e.on false = true) {k : Nat} {av : AV} (hkl : k ∈ looks ops o) (hk : get (stAt s (ops.take m) xs i).t k = some av) : k < s.N ∧ R w j av (a.tmps.getD k Go.undef) := by
  have hokA := okA_spec ((drawOk_spec hok ho).2.1 him)
  have hil : i < ops.length := by omega
  by_cases hw : ∃ q oq, q < i ∧ ops[q]? = some oq ∧ oq.dst = some k
  · obtain ⟨q, oq, hq, hqo, hqd⟩ := hw
    have hdep := (hokA.1 k hkl q oq hqo hqd).1 hq
    obtain ⟨e, he1, he2, he3⟩ := depB_spec hdep
    have hlq := hall e he1 he3
    rw [he2, getD_tf hI.lsize (by omega)] at hlq
    rw [get_writ hok hmn (by omega) hqo hqd hq (by omega)] at hk
    have hk1 : get t1 k = some av := by
      rw [← hxs, get_writ hok hmn (by omega) hqo hqd (by omega) (Nat.le_refl _)]; exact hk
    exact hI.c1 q oq k av (by omega) hqo hqd hlq hk1
  · rw [get_unwrit (by omega) hw] at hk
    refine hI.c2 k av (fun q oq h1 h2 h3 => ?_) hk
    rcases Nat.lt_trichotomy q i with h | h | h
    · exact absurd ⟨q, oq, h, h2, h3⟩ hw
    · subst h; exact h0
    · have hdep := (hokA.1 k hkl q oq h2 h3).2 h
      obtain ⟨e, he1, he2, he3⟩ := depB_spec hdep
      by_cases hb : listed.getD q true = true
      · have := hI.cl q oq h1 h2 hb e he1 he3
        rw [he2, getD_tf hI.lsize hil, h0] at this; cases this
      · simpa using hb

structure OwnS (P : Program) (ops : List Oper) (m ia ist : Nat) (s : St) (t1 : List (Nat × AV)) (d : Tmp) (z c : List AV) : Prop where
  lt : ia < m
  lN : d < s.N
  ne : ia ≠ ist
  al : ∃ oa t zz i, ops[ia]? = some oa ∧ oa.op = .alloc t ∧ oa.guard = none ∧ oa.dst = some d ∧ P.info? t = some i ∧ i.zero = some zz ∧ z = zz.cells.toList.map fun v => .d (.v v)
  st : ist < m → ∃ os t v agg av, ops[ist]? = some os ∧ os.op = .store t (.tmp d) v ∧ os.guard = none ∧ os.dst = none ∧ depB os ia = true ∧ (∀ q oq k, ist < q → q < m → ops[q]? = some oq → oq.dst = some k → k ∉ looks ops os) ∧
    tyA P t = some (agg, z.length) ∧ c = cellsOf av ∧ allOne (cellsOf av) = true ∧ (cellsOf av).length = z.length ∧ Arg true ((⟨s.N, t1, s.σ ++ [.var z], s.mv⟩ : St).restr (looks ops os)) v av
  no : ist < m ∨ (ist = ops.length ∧ c = z)
  pure : ∀ i o, i < m → i ≠ ia → i ≠ ist → ops[i]? = some o → d ∉ looks ops o

theorem tau_none {z c : List AV} {listed : Array Bool} (h : listed.getD ia false = false) : tau ia ist z c listed = [] := by simp only [tau, h]; rfl

theorem setRange_all {z v : List AV} (h : v.length = z.length) : setRange z 0 v = v := by
  simp [setRange, h]

theorem phaseO (hok : drawOk ops m = true) (hmn : m ≤ ops.length) {Q : Exit → St → Prop} {j0 : J0} {j1 : Js} {w1 : World} {s : St} {t1 : List (Nat × AV)} {d : Tmp} {z c : List AV}
    (hW : OwnS P ops m ia ist s t1 d z c) (hP : PureO P s ops m ia ist t1)
    (hK : evalOps P false ops (ops.drop m) ⟨s.N, t1, s.σ ++ [.var c], s.mv⟩ (Q .normal)) :
    ∀ (fuel : Nat) (j : Js) (a : Act) (w : World) (listed : Array Bool), left listed ops.length = fuel → InvO s ops m ia ist z c t1 j0 listed j a w → Ev j1 w1 j w → wpAnyIn (FW j0.rd) 0 P .any ops.toArray (APost j0 j1 w1 Q) fuel listed a w := by
  have fin : ∀ (j : Js) (a : Act) (w : World) (listed : Array Bool), (∀ q, q < m → listed.getD q true = true) → InvO s ops m ia ist z c t1 j0 listed j a w → Rel j0 ⟨s.N, t1, s.σ ++ [.var c], s.mv⟩ j a w := by
    intro j a w listed hdone hI
    have hia : listed.getD ia false = true := by rw [getD_tf hI.lsize (by have := hW.lt; omega)]; exact hdone ia hW.lt
    have htau : tau ia ist z c listed = [.var c] := by
      simp only [tau, hia, if_true]
      rcases hW.no with h | ⟨h, h2⟩
      · have : listed.getD ist false = true := by rw [getD_tf hI.lsize (by omega)]; exact hdone ist h
        simp only [this, if_true]
      · subst h2; split <;> rfl
    refine ⟨hI.defers, hI.rdok, hI.size, fun k av hk => ?_, by have := hI.sto; rw [htau] at this; exact this, hI.len0, hI.ag⟩
    by_cases hw : ∃ q oq, q < m ∧ ops[q]? = some oq ∧ oq.dst = some k
    · obtain ⟨q, oq, hq, hqo, hqd⟩ := hw
      exact hI.c1 q oq k av hq hqo hqd (hdone q hq) hk
    · obtain ⟨xs, hxs, _, _⟩ := hP.at_ []
      have hk' : get t1 k = some av := hk
      rw [← hxs, get_unwrit (Nat.le_refl _) hw] at hk'
      exact hI.c2 k av (fun q oq h1 h2 h3 => absurd ⟨q, oq, h1, h2, h3⟩ hw) hk'
  intro fuel
  induction fuel with
  | zero =>
    intro j a w listed hf hI he
    have hall : ∀ k, k < ops.length → listed.getD k true = true := by
      intro k hk
      by_cases hb : listed.getD k true = true
      · exact hb
      · have : k ∈ (List.range ops.length).filter fun k => !listed.getD k true := by
          rw [List.mem_filter]; exact ⟨by simpa using hk, by simpa using hb⟩
        have h0 : (List.range ops.length).filter (fun k => !listed.getD k true) = [] := List.length_eq_zero_iff.1 hf
        rw [h0] at this; simp at this
    have hme : m = ops.length := by
      rcases Nat.lt_or_ge m ops.length with h | h
      · have := hall m h; rw [hI.lB m (Nat.le_refl _) h] at this; simp at this
      · omega
    exact phaseB hok 0 m _ j a w listed (by omega) (Nat.le_refl _) (by omega) hI.lsize (fun k hk b => by
      have h1 := hall k hk
      have hsz : k < listed.size := by rw [hI.lsize]; exact hk
      have h2 : listed[k] = true := by simpa [hsz] using h1
      simp [hsz, h2, show k < m by omega]) (fin j a w listed (fun q hq => hall q (by omega)) hI) he hK
  | succ fuel ih =>
    intro j a w listed hf hI he
    by_cases hdone : ∀ q, q < m → listed.getD q true = true
    · have hL : ∀ k, k < ops.length → ∀ b, listed.getD k b = decide (k < m) := by
        intro k hk b
        rcases Nat.lt_or_ge k m with h | h
        · have h1 := hdone k h
          have hsz : k < listed.size := by rw [hI.lsize]; exact hk
          have h2 : listed[k] = true := by simpa [hsz] using h1
          simp [hsz, h2, h]
        · rw [hI.lB k h hk]; simp; omega
      have hfuel : fuel + 1 = ops.length - m := by
        rw [← hf]
        unfold left
        have gen : ∀ n, n ≤ ops.length → ((List.range n).filter fun k => !listed.getD k true).length = n - m := by
          intro n
          induction n with
          | zero => simp
          | succ n ihn =>
            intro hn
            rw [List.range_succ, List.filter_append, List.length_append, ihn (by omega)]
            have h1 := hL n (by omega) true
            by_cases hnm : n < m
            · have : (List.filter (fun k => !listed.getD k true) [n]).length = 0 := by
                rw [List.filter_cons_of_neg (by rw [h1]; simp [hnm])]; simp
              omega
            · have : (List.filter (fun k => !listed.getD k true) [n]).length = 1 := by
                rw [List.filter_cons_of_pos (by rw [h1]; simp; omega)]; simp
              omega
        exact gen _ (Nat.le_refl _)
      exact phaseB hok (fuel + 1) m _ j a w listed hfuel.symm (Nat.le_refl _) (by omega) hI.lsize hL (fin j a w listed hdone hI) he hK
    · have hex : ∃ q, q < m ∧ listed.getD q true = false ∧ ∀ p, p < q → listed.getD p true = true := by
        have hex0 : ∃ q, q < m ∧ listed.getD q true = false := by
          apply Classical.byContradiction
          intro hne
          apply hdone
          intro q hq
          by_cases hb : listed.getD q true = true
          · exact hb
          · exact absurd ⟨q, hq, by simpa using hb⟩ hne
        obtain ⟨q, hq1, hq2⟩ := hex0
        induction q using Nat.strongRecOn with
        | _ q ihq =>
          by_cases hall : ∀ p, p < q → listed.getD p true = true
          · exact ⟨q, hq1, hq2, hall⟩
          · have : ∃ p, p < q ∧ listed.getD p true = false := by
              apply Classical.byContradiction
              intro hne
              apply hall
              intro p hp
              by_cases hb : listed.getD p true = true
              · exact hb
              · exact absurd ⟨p, hp, by simpa using hb⟩ hne
            obtain ⟨p, hp1, hp2⟩ := this
            exact ihq p hp1 (by omega) hp2
      obtain ⟨q0, hq0, hq0l, hq0all⟩ := hex
      have hlt0 : q0 < ops.length := by omega
      have hready : q0 ∈ Region.ready .any ops.toArray listed := by
        rw [mem_ready]
        refine ⟨hq0l, ops[q0], by simp [hlt0], fun e he hb => ?_⟩
        have h1 := (drawOk_spec hok (i := q0) (o := ops[q0]) (by simp [hlt0])).1 e he hb
        rw [getD_tf hI.lsize (by omega)]
        exact hq0all e.on h1
      refine ⟨fun h0 => by rw [h0] at hready; simp at hready, fun i hi => ?_⟩
      rw [mem_ready] at hi
      obtain ⟨h0, o, ho, hall⟩ := hi
      have ho' : ops[i]? = some o := by simpa using ho
      have hil : i < ops.length := lt_of_getElem? ho'
      have him : i < m := by
        rcases Nat.lt_or_ge i m with h | h
        · exact h
        · obtain ⟨e, he1, he2, he3⟩ := depB_spec ((drawOk_spec hok ho').2.2 h q0 (by omega))
          have := hall e he1 he3
          rw [he2, getD_tf hI.lsize hlt0, hq0l] at this; cases this
      have hokA := okA_spec ((drawOk_spec hok ho').2.1 him)
      have hset0 : left (listed.setIfInBounds i true) ops.length = fuel := by
        have := left_set hI.lsize hil h0; omega
      have hszi : i < listed.size := by rw [hI.lsize]; exact hil
      have hseti : ∀ b, (listed.setIfInBounds i true).getD i b = true := by intro b; simp [hszi]
      -- the step, whatever it was
      have step : ∀ (j' : Js) (w' : World) (v : Value), RelS w' j' (s.σ ++ tau ia ist z c (listed.setIfInBounds i true)) → Ev j w j' w' → Ag j j' [] → j.length ≤ j'.length →
          (∀ k av, o.dst = some k → get t1 k = some av → k < s.N ∧ R w' j' av v) → wpAnyIn (FW j0.rd) 0 P .any ops.toArray (APost j0 j1 w1 Q) fuel (listed.setIfInBounds i true) (a.put o.dst v) w' := by
        intro j' w' v hsto hev hagj hlj hv
        have oth : ∀ {k}, o.dst ≠ some k → (a.put o.dst v).tmps.getD k Go.undef = a.tmps.getD k Go.undef := by
          intro k hne
          cases hd : o.dst with
          | none => rfl
          | some d =>
            have hdk : d ≠ k := fun h => hne (by rw [hd, h])
            simp [Act.put, Array.getD_eq_getD_getElem?, Array.getElem?_setIfInBounds, hdk]
        refine ih j' _ w' _ hset0 ⟨?_, fun l hl => (by obtain ⟨r, hr⟩ := hI.rdok l hl; exact hev.lps l r hr), ?_, hsto, Nat.le_trans hI.len0 hlj, ?_, by simpa using hI.lsize, ?_, ?_, ?_, ?_⟩ (he.trans hev)
        · have := hI.defers.mono hev
          cases hd : o.dst <;> simpa [Act.put] using this
        · cases hd : o.dst <;> simp [Act.put, hI.size]
        · intro b hb hn
          rw [hagj b (by have := hI.len0; omega) (by simp)]
          exact hI.ag b hb hn
        · intro k hk1 hk2 b
          rw [getD_set_ne b (by omega)]; exact hI.lB k hk1 hk2 b
        · intro q oq hq hqo hl e he1 he2
          by_cases hqi : i = q
          · subst hqi
            have : oq = o := by rw [ho'] at hqo; exact (Option.some.inj hqo).symm
            subst this
            exact getD_set_true (hall e he1 he2)
          · rw [getD_set_ne true hqi] at hl
            exact getD_set_true (hI.cl q oq hq hqo hl e he1 he2)
        · intro q oq k av hq hqo hqd hl hk
          by_cases hqi : i = q
          · subst hqi
            have : oq = o := by rw [ho'] at hqo; exact (Option.some.inj hqo).symm
            subst this
            have h1 := hv k av hqd hk
            simp only [Act.put, hqd]
            rw [R_setIfInBounds (w := w) (j := j) (by rw [hI.size]; exact h1.1), if_pos rfl]; exact h1
          · rw [getD_set_ne true hqi] at hl
            have h1 := hI.c1 q oq k av hq hqo hqd hl hk
            rw [oth (fun hd => hokA.2 q oq k hq (fun h => hqi h.symm) hqo hd hqd)]
            exact ⟨h1.1, h1.2.mono0 hev hI.sto.lt hagj⟩
        · intro k av hk hg
          have hne : o.dst ≠ some k := fun hd => by
            have := hk i o him ho' hd
            rw [hseti] at this; cases this
          have h1 := hI.c2 k av (fun q oq h1 h2 h3 => by
            have hqi : i ≠ q := fun h => by subst h; rw [ho'] at h2; cases h2; exact hne h3
            have := hk q oq h1 h2 h3
            rwa [getD_set_ne true hqi] at this) hg
          rw [oth hne]; exact ⟨h1.1, h1.2.mono0 hev hI.sto.lt hagj⟩
      simp only [wpOpIn, ho]
      by_cases hia : i = ia
      · -- the variable is made
        subst hia
        obtain ⟨oa, t, zz, inf, hoa, hop, hgd, hdst, hinf, hzz, hz⟩ := hW.al
        obtain rfl : o = oa := by rw [ho'] at hoa; exact Option.some.inj hoa
        have hnl : listed.getD i false = false := by rw [getD_tf hI.lsize hil]; exact h0
        have htau : tau i ist z c listed = [] := tau_none hnl
        have hsto := hI.sto
        rw [htau, List.append_nil] at hsto
        have hr : Rel j0 ⟨s.N, [], s.σ, s.mv⟩ j a w := ⟨hI.defers, hI.rdok, hI.size, fun k av hk => by simp [Abs.get] at hk, hsto, hI.len0, hI.ag⟩
        have hnv := hr.newVar (cs := z) zz.cells t (by rw [hz]; simp) (fun k hk => by
          rw [hz] at hk ⊢
          simp only [List.length_map, Array.length_toList] at hk
          have e1 : (zz.cells.toList.map fun v => AV.d (.v v)).getD k .undef = .d (.v (zz.cells.getD k Go.undef)) := by
            simp [List.getD_eq_getElem?_getD, Array.getD_eq_getD_getElem?, hk]
          rw [e1]; exact .d (.v _))
        obtain ⟨g1, g2, g3⟩ := hnv
        have hrun : (execOp a.eval o).run P w = .ok (.value (.pointer (some ⟨w.heap.size, 0, none⟩))) (w.alloc (.cells zz.cells t)) := by
          simp [execOp, hop, Instr.alloc, zeroValue, typeInfo, hinf, hzz, Go.newVar, newRow]
        have hw : Region.wanted o (yielded ops.toArray a.tmps) = true := by simp [Region.wanted, hgd]
        rw [if_pos hw]
        refine opw (by simp [hop]) hrun ?_
        have hist : listed.getD ist false = false := by
          rcases hW.no with h | ⟨h, _⟩
          · obtain ⟨os, t', v, agg, av, hos, h1, h2, h3, h4, _⟩ := hW.st h
            by_cases hb : listed.getD ist true = true
            · obtain ⟨e, he1, he2, he3⟩ := depB_spec h4
              have := hI.cl ist os h hos hb e he1 he3
              rw [he2, hnl] at this; cases this
            · rw [getD_tf hI.lsize (by omega)]; simpa using hb
          · rw [h]; simp [hI.lsize]
        have hist' : (listed.setIfInBounds i true).getD ist false = false := by rw [getD_set_ne false hW.ne]; exact hist
        refine step _ _ _ ?_ g2 (ag_append j _) (by simp) ?_
        · have : tau i ist z c (listed.setIfInBounds i true) = [.var z] := by simp only [tau, hseti, hist', if_true]; rfl
          rw [this]; exact g1.sto
        · intro k av hk hgt
          rw [hdst] at hk
          obtain rfl : d = k := Option.some.inj hk
          obtain ⟨xs, hxs, hxa, _⟩ := hP.at_ []
          rw [← hxs, get_writ hok hmn him ho' hdst him (Nat.le_refl _)] at hgt
          split at hgt
          · rename_i hlt
            obtain rfl : xs i = av := Option.some.inj hgt
            rw [hxa]; exact ⟨hlt, g3⟩
          · simp at hgt
      · by_cases his : i = ist
        · -- it is stored
          subst his
          obtain ⟨os, t, v, agg, av, hos, hop, hgd, hdst, hdep, hlate, hty, hc, hone, hlen, hv⟩ := hW.st him
          obtain rfl : o = os := by rw [ho'] at hos; exact Option.some.inj hos
          have hla : listed.getD ia false = true := by
            obtain ⟨e, he1, he2, he3⟩ := depB_spec hdep
            have := hall e he1 he3
            rw [he2] at this; exact this
          have hni : listed.getD i false = false := by rw [getD_tf hI.lsize hil]; exact h0
          have hsto := hI.sto
          have htau : tau ia i z c listed = [.var z] := by simp only [tau, hla, hni, if_true]; rfl
          rw [htau] at hsto
          have hr : Rel j0 ((⟨s.N, t1, s.σ ++ [.var z], s.mv⟩ : St).restr (looks ops o)) j a w := by
            refine ⟨hI.defers, hI.rdok, hI.size, fun k av hk => ?_, hsto, hI.len0, hI.ag⟩
            simp only [St.restr, get_restr] at hk
            split at hk
            · rename_i hkl
              have hkl : k ∈ looks ops o := by simpa using hkl
              by_cases hw : ∃ q oq, q < m ∧ ops[q]? = some oq ∧ oq.dst = some k
              · obtain ⟨q, oq, hq, hqo, hqd⟩ := hw
                have hqi : q < i := by
                  rcases Nat.lt_trichotomy q i with h | h | h
                  · exact h
                  · subst h; rw [ho'] at hqo; cases hqo; rw [hdst] at hqd; cases hqd
                  · exact absurd hkl (hlate q oq k h hq hqo hqd)
                obtain ⟨e, he1, he2, he3⟩ := depB_spec ((hokA.1 k hkl q oq hqo hqd).1 hqi)
                have hlq := hall e he1 he3
                rw [he2, getD_tf hI.lsize (by omega)] at hlq
                exact hI.c1 q oq k av hq hqo hqd hlq hk
              · obtain ⟨xs, hxs, _, _⟩ := hP.at_ []
                rw [← hxs, get_unwrit (Nat.le_refl _) hw] at hk
                exact hI.c2 k av (fun q oq h1 h2 h3 => absurd ⟨q, oq, h1, h2, h3⟩ hw) hk
            · simp at hk
          obtain ⟨oa, ta, zz, inf, hoa, hopa, _, hdsta, _⟩ := hW.al
          obtain ⟨xs, hxs, hxa, _⟩ := hP.at_ []
          have hgd' : d < s.N → get t1 d = some (.ptr s.σ.length 0) := by
            intro hlt
            rw [← hxs, get_writ hok hmn hW.lt hoa hdsta hW.lt (Nat.le_refl _), if_pos hlt, hxa]
          have hdN : d < s.N := hW.lN
          have hp : R w j (.ptr s.σ.length 0) (a.eval (.tmp d)) := by
            have hlq : listed.getD ia true = true := by rw [← getD_tf hI.lsize (by have := hW.lt; omega)]; exact hla
            exact (hI.c1 ia oa d _ hW.lt hoa hdsta hlq (hgd' hdN)).2
          have hst : storeBlk (s.σ ++ [.var z]) (.ptr s.σ.length 0) (cellsOf av) = some (True, (s.σ ++ [Blk.var z]).set s.σ.length (Blk.var (setRange z 0 (cellsOf av)))) := by
            simp [storeBlk, hlen]
          obtain ⟨w', h1, h2, h3⟩ := store_sound (P := P) hsto hty hp (hv rfl j0 j a w hr) hone hlen hst trivial
          have hrun : (execOp a.eval o).run P w = .ok .skip w' := by simp [execOp, hop, h1]
          have hw : Region.wanted o (yielded ops.toArray a.tmps) = true := by simp [Region.wanted, hgd]
          rw [if_pos hw]
          refine opw (by simp [hop]) hrun ?_
          refine step j w' _ ?_ h3 (.refl _ _) (Nat.le_refl _) (fun k av hk => by rw [hdst] at hk; cases hk)
          have hla' : (listed.setIfInBounds i true).getD ia false = true := by rw [getD_set_ne false (fun h => hia h)]; exact hla
          have : tau ia i z c (listed.setIfInBounds i true) = [.var c] := by simp only [tau, hseti, hla', if_true]
          rw [this]
          rw [setRange_all hlen, ← hc] at h2
          simpa using h2
        · -- one that computes
          obtain ⟨xs, hxs, hxa, hloc⟩ := hP.at_ (tau ia ist z c listed)
          have hL := hloc i o him ho' hia his
          have hrel : Rel j0 ((⟨s.N, (stAt s (ops.take m) xs i).t, s.σ ++ tau ia ist z c listed, s.mv⟩ : St).restr (looks ops o)) j a w := by
            refine ⟨hI.defers, hI.rdok, hI.size, fun k av hk => ?_, hI.sto, hI.len0, hI.ag⟩
            simp only [St.restr, get_restr] at hk
            split at hk
            · rename_i hkl
              exact hI.looks_rel hok hmn hxs him ho' h0 hall (by simpa using hkl) hk
            · simp at hk
          have htau : tau ia ist z c (listed.setIfInBounds i true) = tau ia ist z c listed := by
            simp only [tau, getD_set_ne false hia, getD_set_ne false his]
          have hval : ∀ (w' : World) (v : Value), R w' j (xs i) v → ∀ k av, o.dst = some k → get t1 k = some av → k < s.N ∧ R w' j av v := by
            intro w' v hr k av hk hgt
            rw [← hxs, get_writ hok hmn him ho' hk him (Nat.le_refl _)] at hgt
            split at hgt
            · rename_i hlt
              obtain rfl : xs i = av := Option.some.inj hgt
              exact ⟨hlt, hr⟩
            · simp at hgt
          by_cases hw : Region.wanted o (yielded ops.toArray a.tmps) = true
          · rw [if_pos hw]
            exact hL.run j0 j a w _ _ hrel hw fun w' v h1 h2 h3 => step j w' v (by rw [htau]; exact h1) h2 (.refl _ _) (Nat.le_refl _) (hval w' v h3)
          · rw [if_neg hw]
            exact ⟨fun _ _ => trivial, step j w Go.undef (by rw [htau]; exact hI.sto) (.refl _ _) (.refl _ _) (Nat.le_refl _) (hval w _ (hL.skip j0 j a w hrel (by simpa using hw)))⟩

end

theorem ownOk_spec {ops : List Oper} {m ia ist : Nat} (h : ownOk ops m ia ist = true) : ∃ oa t d, ops[ia]? = some oa ∧ oa.op = .alloc t ∧ oa.guard = none ∧ oa.dst = some d ∧ ia < m ∧ ia ≠ ist ∧ (ist < m ∨ ist = ops.length) ∧
    (∀ i o, i < m → i ≠ ia → i ≠ ist → ops[i]? = some o → d ∉ looks ops o) ∧
    (ist < m → ∃ os t' v, ops[ist]? = some os ∧ os.op = .store t' (.tmp d) v ∧ os.guard = none ∧ os.dst = none ∧ depB os ia = true ∧ (∀ q oq k, ist < q → q < m → ops[q]? = some oq → oq.dst = some k → k ∉ looks ops os)) := by
  unfold ownOk at h
  split at h
  · rename_i oa hoa
    simp only [Bool.and_eq_true, Nat.blt_eq, Bool.not_eq_true', List.all_eq_true, List.mem_range, Bool.or_eq_true, Nat.beq_eq] at h
    obtain ⟨⟨⟨⟨h1, h2⟩, h3⟩, h4⟩, h5⟩ := h
    have h1' : ∃ t d, oa.op = .alloc t ∧ oa.guard = none ∧ oa.dst = some d := by
      unfold isAllocB at h1
      split at h1
      · rename_i t d e1 e2 e3; exact ⟨t, d, e1, e2, e3⟩
      · cases h1
    obtain ⟨t, d, e1, e2, e3⟩ := h1'
    have hne : ia ≠ ist := fun h => by subst h; simp at h3
    refine ⟨oa, t, d, hoa, e1, e2, e3, h2, hne, by simpa using h5, fun i o hi hia his ho hd => ?_, fun hlt => ?_⟩
    · rcases h4 i hi with h | h
      · exact hia (by simpa using h)
      · rw [if_neg (by simpa using his)] at h
        simp only [ho, e3, Bool.not_eq_true', List.contains_eq_mem, decide_eq_false_iff_not] at h
        exact h hd
    · rcases h4 ist hlt with h | h
      · exact absurd (by simpa using h) (fun h : ist = ia => hne h.symm)
      · rw [if_pos (by simp)] at h
        split at h
        · rename_i os hos
          simp only [Bool.and_eq_true, List.all_eq_true, List.mem_range, Bool.or_eq_true, Nat.ble_eq] at h
          obtain ⟨⟨g1, g2⟩, g3⟩ := h
          have g1' : ∃ t' v, os.op = .store t' (.tmp d) v ∧ os.guard = none ∧ os.dst = none := by
            unfold isStoreB at g1
            split at g1
            · rename_i t' p v dd e4 e5 e6 e7
              rw [e3] at e7
              obtain rfl : d = dd := Option.some.inj e7
              have : p = d := by simpa using g1
              subst this
              exact ⟨t', v, e4, e5, e6⟩
            · cases g1
          obtain ⟨t', v, e4, e5, e6⟩ := g1'
          refine ⟨os, t', v, hos, e4, e5, e6, g2, fun q oq k hq hqm hqo hqd hkl => ?_⟩
          rcases g3 q hqm with h | h
          · omega
          · simp only [hqo, hqd, Bool.not_eq_true', List.contains_eq_mem, decide_eq_false_iff_not] at h
            exact h hkl
        · cases h
  · cases h

theorem awp_own {P : Program} {Q : Exit → St → Prop} {N : Nat} {t : List (Nat × AV)} {σ : List Blk} {mv : List Nat} {id : Nat} {ops : List Oper} (m ia ist : Nat) (hm : P.follows .mixedOrders = true) (hok : (drawOk ops m && Nat.ble m ops.length && ownOk ops m ia ist) = true) {t1 : List (Nat × AV)}
    (h1 : ∀ (τ : List Blk) (K : St → Prop), (∀ σ' mv', K ⟨N, t1, σ', mv'⟩) → evalO P ops ia ist σ.length (ops.take m) 0 ⟨N, t, σ ++ τ, mv⟩ K)
    (h2 : ownA P ops ia ist ⟨N, t1, σ, mv⟩ fun c => evalOps P false ops (ops.drop m) ⟨N, t1, σ ++ [.var c], mv⟩ (Q .normal)) : AWP P (.region id ops.toArray true) Q ⟨N, t, σ, mv⟩ := by
  intro j0 j a w hr
  simp only [Bool.and_eq_true, Nat.ble_eq] at hok
  obtain ⟨⟨hok, hmn⟩, hown⟩ := hok
  obtain ⟨oa, ta, d, hoa, hopa, hga, hda, hlt, hne, hor, hpure, hst⟩ := ownOk_spec hown
  have hP : PureO P ⟨N, t, σ, mv⟩ ops m ia ist t1 := ⟨fun τ => by
    have h := h1 τ (fun s' => s'.t = t1) (fun _ _ => rfl)
    have hlen : (ops.take m).length = m := by simp; omega
    obtain ⟨xs, hK, hia, hloc⟩ := unrollO h (fun i o hi he => by
      have him : i < m := by have := lt_of_getElem? hi; omega
      rw [take_get him] at hi
      have he : i = ist := by omega
      subst he
      obtain ⟨os, t', v, g1, g2, g3, g4, _⟩ := hst him
      rw [g1] at hi; cases hi; exact g4)
    have hext := stAt_ext ⟨N, t, σ, mv⟩ τ (ops.take m) xs
    refine ⟨xs, ?_, hia ia (by omega), fun i o him ho h3 h4 => ?_⟩
    · rw [hlen, hext] at hK; exact hK
    · have := hloc i o (by rw [take_get him]; exact ho) (by omega) (by omega)
      rw [hext] at this; exact this⟩
  have hr' : Rel j0 ⟨N, t, σ, mv⟩ j a w.drew := hr.after (ev_drew j w) hr.sto.drew (Nat.le_refl _) (.refl _ [])
  have hf : ∀ k b, k < ops.length → (Array.replicate ops.toArray.size false).getD k b = false := by
    intro k b hk; simp [hk]
  -- the variable
  unfold ownA at h2
  rw [nthOp_eq, hoa] at h2
  simp only [hda, hopa] at h2
  obtain ⟨hdN, h2⟩ := h2
  have hdN : d < N := by simpa using hdN
  split at h2
  · rename_i zl hz
    have hz' : ∃ i zz, P.info? ta = some i ∧ i.zero = some zz ∧ zz.cells.toList = zl := by
      unfold zeroA at hz
      split at hz
      · rename_i i hi
        split at hz
        · rename_i zz hzz
          simp only [Option.some.injEq] at hz
          exact ⟨i, zz, hi, hzz, hz⟩
        · simp at hz
      · simp at hz
    obtain ⟨inf, zz, hi, hzz, hzl⟩ := hz'
    have main : ∃ c, OwnS P ops m ia ist ⟨N, t, σ, mv⟩ t1 d (zl.map fun v => .d (.v v)) c ∧ evalOps P false ops (ops.drop m) ⟨N, t1, σ ++ [.var c], mv⟩ (Q .normal) := by
      rw [nthOp_eq] at h2
      rcases hor with hlt' | hge
      · obtain ⟨os, t', v, g1, g2, g3, g4, g5, g6⟩ := hst hlt'
        rw [g1] at h2
        simp only [g2] at h2
        have hmem : ∀ t, v = .tmp t → t ∈ looks ops os := fun t ht => List.mem_append.2 (.inl (mem_opTmps (x := v) (by simp [g2, Op.operands]) ht))
        have h2' : arg true ((⟨N, t1, σ ++ [.var (zl.map fun v => .d (.v v))], mv⟩ : St).restr (looks ops os)) v fun av => (match tyA P t' with
            | some (_, m_1) => allOne (cellsOf av) = true ∧ (cellsOf av).length = m_1 ∧ zl.length = m_1 ∧ evalOps P false ops (ops.drop m) ⟨N, t1, σ ++ [.var (cellsOf av)], mv⟩ (Q .normal)
            | none => False) := by
          rw [arg_restr hmem]; exact h2
        obtain ⟨av, h3, h4⟩ := arg_sound h2'
        split at h3
        · rename_i agg mm hty
          obtain ⟨k1, k2, k3, k4⟩ := h3
          subst k3
          refine ⟨cellsOf av, ⟨hlt, hdN, hne, ⟨oa, ta, zz, inf, hoa, hopa, hga, hda, hi, hzz, by rw [hzl]⟩, fun _ => ⟨os, t', v, agg, av, g1, g2, g3, g4, g5, g6, by simpa using hty, rfl, k1, by simpa using k2, h4⟩, .inl hlt', hpure⟩, k4⟩
        · exact h3.elim
      · have : ops[ist]? = none := by rw [hge]; simp
        rw [this] at h2
        exact ⟨_, ⟨hlt, hdN, hne, ⟨oa, ta, zz, inf, hoa, hopa, hga, hda, hi, hzz, by rw [hzl]⟩, fun h => by omega, .inr ⟨hge, rfl⟩, hpure⟩, h2⟩
    obtain ⟨c, hW, hK⟩ := main
    refine wpIn_region_any hm ?_
    refine phaseO hok hmn hW hP hK _ j a w.drew _ ?_ ⟨hr'.defers, hr'.rdok, hr'.size, ?_, hr'.len0, hr'.ag, by simp, fun k _ hk b => hf k b hk, fun q oq hq hqo hl => ?_, fun q oq k av hq hqo hd hl => ?_, fun k av _ hk => hr'.tmp k av hk⟩ (ev_drew j w)
    · unfold left
      have : (List.range ops.length).filter (fun k => !(Array.replicate ops.toArray.size false).getD k true) = List.range ops.length := by
        apply List.filter_eq_self.2
        intro k hk
        rw [hf k true (by simpa using hk)]; rfl
      rw [this]; simp
    · rw [tau_none (hf ia false (by omega)), List.append_nil]; exact hr'.sto
    · rw [hf q true (by omega)] at hl; cases hl
    · rw [hf q true (by omega)] at hl; cases hl
  · exact h2.elim

theorem awp_own_seq {P : Program} {Q : Exit → St → Prop} {N : Nat} {t : List (Nat × AV)} {σ : List Blk} {mv : List Nat} {id : Nat} {ops : List Oper} {y : Code} (m ia ist : Nat) (hm : P.follows .mixedOrders = true) (hok : (drawOk ops m && Nat.ble m ops.length && ownOk ops m ia ist) = true) {t1 : List (Nat × AV)}
    (h1 : ∀ (τ : List Blk) (K : St → Prop), (∀ σ' mv', K ⟨N, t1, σ', mv'⟩) → evalO P ops ia ist σ.length (ops.take m) 0 ⟨N, t, σ ++ τ, mv⟩ K)
    (h2 : ∀ K : St → Prop, (∀ s', AWP P y Q s' → K s') → ownA P ops ia ist ⟨N, t1, σ, mv⟩ fun c => evalOps P false ops (ops.drop m) ⟨N, t1, σ ++ [.var c], mv⟩ K) : AWP P (.seq (.region id ops.toArray true) y) Q ⟨N, t, σ, mv⟩ :=
  awp_seq (awp_own m ia ist hm hok h1 (h2 _ fun s' h => h))
theorem awp_own_end {P : Program} {Q : Exit → St → Prop} {N : Nat} {t : List (Nat × AV)} {σ : List Blk} {mv : List Nat} {id : Nat} {ops : List Oper} (m ia ist : Nat) (hm : P.follows .mixedOrders = true) (hok : (drawOk ops m && Nat.ble m ops.length && ownOk ops m ia ist) = true) {t1 : List (Nat × AV)}
    (h1 : ∀ (τ : List Blk) (K : St → Prop), (∀ σ' mv', K ⟨N, t1, σ', mv'⟩) → evalO P ops ia ist σ.length (ops.take m) 0 ⟨N, t, σ ++ τ, mv⟩ K)
    (h2 : ∀ K : St → Prop, (∀ s', Q .normal s' → K s') → ownA P ops ia ist ⟨N, t1, σ, mv⟩ fun c => evalOps P false ops (ops.drop m) ⟨N, t1, σ ++ [.var c], mv⟩ K) : AWP P (.region id ops.toArray true) Q ⟨N, t, σ, mv⟩ :=
  awp_own m ia ist hm hok h1 (h2 _ fun s' h => h)

def RestO (P : Program) (all : List Oper) (ia ist n : Nat) (os : List Oper) (i : Nat) (K : St → Prop) (s : St) : Prop := evalO P all ia ist n os i s K
theorem evalO_nil (P : Program) (all : List Oper) (ia ist n i : Nat) (s : St) (K : St → Prop) : evalO P all ia ist n [] i s K = K s := rfl
theorem evalO_cons (P : Program) (all os : List Oper) (ia ist n i : Nat) (o : Oper) (s : St) (K : St → Prop) : evalO P all ia ist n (o :: os) i s K = if Nat.beq i ia then RestO P all ia ist n os (i + 1) K (s.put o.dst (.ptr n 0))
    else if Nat.beq i ist then evalO P all ia ist n os (i + 1) s K
    else guardA all s o fun gd g => opA P true gd g o s (RestO P all ia ist n os (i + 1) K) := rfl
theorem RestO_mk (P : Program) (all os : List Oper) (ia ist n i : Nat) (K : St → Prop) (N : Nat) (t : List (Nat × AV)) (σ : List Blk) (mv : List Nat) : RestO P all ia ist n os i K ⟨N, t, σ, mv⟩ = evalO P all ia ist n os i ⟨N, t, σ, mv⟩ K := rfl
attribute [go_sem ↓] evalO_nil evalO_cons RestO_mk ownA
attribute [go_sem] RestO_mk
end Go.Abs
