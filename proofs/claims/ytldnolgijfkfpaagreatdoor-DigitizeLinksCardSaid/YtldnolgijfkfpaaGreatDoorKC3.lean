/- Contracts and lemmas (Ax, Ay, Az, Oa, Axl, Ob, Od, Azs, Azt, Ba, Bb, Ca, Azw, Cb), joined out of smaller texts by a program; no conditions. -/
import Derived.Test.YtldnolgijfkfpaaGreatDoorKC2
import Derived.ProofKit
import Derived.OpenShut
import Derived.ShutString
import Derived.ChangeOld
import Derived.Below
import Derived.Carry
import Derived.Deep.Slices
import Derived.Shelf.SlSortCmp.WholeK
import Derived.Test.YtldnolgijfkfpaaGreatDoorProg
import Derived.KernelRfl
/-! Ax -/
namespace Go.Abs
set_option linter.unusedVariables false
set_option linter.unusedSimpArgs false
def evalO (P : Program) (all : List Oper) (ia ist n : Nat) : List Oper → Nat → St → (St → Prop) → Prop
  | [], _, s, K => K s
  | o :: os, i, s, K => if Nat.beq i ia then evalO P all ia ist n os (i + 1) (s.put o.dst (.ptr n 0)) K
    else if Nat.beq i ist then evalO P all ia ist n os (i + 1) s K
    else guardA all s o fun gd g => opA P true gd g o s fun s' => evalO P all ia ist n os (i + 1) s' K
def isAllocB (o : Oper) : Bool := match o.op, o.guard, o.dst with
  | .alloc _, none, some _ => true
  | _, _, _ => false
def isStoreB (d : Option Tmp) (o : Oper) : Bool := match o.op, o.guard, o.dst, d with
  | .store _ (.tmp p) _, none, none, some d => Nat.beq p d
  | _, _, _, _ => false
def ownOk (ops : List Oper) (m ia ist : Nat) : Bool :=
  match ops[ia]? with
  | some oa => isAllocB oa && Nat.blt ia m && !Nat.beq ia ist && (List.range m).all (fun i => Nat.beq i ia || (if Nat.beq i ist then (match ops[i]? with
      | some o => isStoreB oa.dst o && depB o ia && (List.range m).all (fun q => Nat.ble q i || (match ops[q]? with
        | some oq => (match oq.dst with
          | some d => !(looks ops o).contains d
          | none => true)
        | none => true))
      | none => false) else (match ops[i]?, oa.dst with
      | some o, some d => !(looks ops o).contains d
      | _, _ => false))) && (Nat.blt ist m || Nat.beq ist ops.length)
  | none => false
def ownA (P : Program) (ops : List Oper) (ia ist : Nat) (s : St) (K : List AV → Prop) : Prop :=
  match nthOp ops ia with
  | some oa => (match oa.dst with
    | some d => Nat.blt d s.N = true
    | none => False) ∧ (match oa.op with
    | .alloc t => (match zeroA P t with
      | some z => (match nthOp ops ist with
        | some os => (match os.op with
          | .store t' _ v => arg true s v fun av => (match tyA P t' with
            | some (_, m) => allOne (cellsOf av) = true ∧ (cellsOf av).length = m ∧ z.length = m ∧ K (cellsOf av)
            | none => False)
          | _ => False)
        | none => K (z.map fun v => .d (.v v)))
      | none => False)
    | _ => False)
  | none => False
theorem unrollO {P : Program} {all : List Oper} {ia ist n : Nat} : ∀ {os : List Oper} {i0 : Nat} {s : St} {K : St → Prop}, evalO P all ia ist n os i0 s K →
    (∀ i o, os[i]? = some o → i0 + i = ist → o.dst = none) →
    ∃ xs : Nat → AV, K (stAt s os xs os.length) ∧ (∀ i, i0 + i = ia → xs i = .ptr n 0) ∧ ∀ i o, os[i]? = some o → i0 + i ≠ ia → i0 + i ≠ ist → Local P all o (stAt s os xs i) (xs i)
  | [], i0, s, K, h, _ => ⟨fun _ => .ptr n 0, h, fun _ _ => rfl, by simp⟩
  | o :: os, i0, s, K, h, hd => by
    have key : ∀ x : AV, evalO P all ia ist n os (i0 + 1) (s.put o.dst x) K → (i0 = ia → x = .ptr n 0) → (i0 ≠ ia → i0 ≠ ist → Local P all o s x) →
        ∃ xs : Nat → AV, K (stAt s (o :: os) xs (o :: os).length) ∧ (∀ i, i0 + i = ia → xs i = .ptr n 0) ∧ ∀ i o', (o :: os)[i]? = some o' → i0 + i ≠ ia → i0 + i ≠ ist → Local P all o' (stAt s (o :: os) xs i) (xs i) := by
      intro x h hx hl
      obtain ⟨xs, hK, hia, hloc⟩ := unrollO h (fun i o' hi he => hd (i + 1) o' (by simpa using hi) (by omega))
      have hst : ∀ i, stAt s (o :: os) (fun | 0 => x | i + 1 => xs i) (i + 1) = stAt (s.put o.dst x) os xs i := by
        intro i
        induction i with
        | zero => rfl
        | succ i ih =>
          show (match (o :: os)[i + 1]? with | some o' => (stAt s (o :: os) (fun | 0 => x | i + 1 => xs i) (i + 1)).put o'.dst (xs i) | none => stAt s (o :: os) (fun | 0 => x | i + 1 => xs i) (i + 1)) = _
          rw [ih]
          simp only [List.getElem?_cons_succ]
          rfl
      refine ⟨fun | 0 => x | i + 1 => xs i, ?_, fun i hi => ?_, fun i o' hi h1 h2 => ?_⟩
      · rw [List.length_cons, hst]; exact hK
      · cases i with
        | zero => exact hx (by simpa using hi)
        | succ i => exact hia i (by omega)
      · cases i with
        | zero => simp at hi; subst hi; exact hl (by simpa using h1) (by simpa using h2)
        | succ i => rw [hst]; exact hloc i o' (by simpa using hi) (by omega) (by omega)
    simp only [evalO] at h
    by_cases h1 : i0 = ia
    · rw [if_pos (by simpa using h1)] at h
      exact key _ h (fun _ => rfl) (fun h2 => absurd h1 h2)
    · rw [if_neg (by simpa using h1)] at h
      by_cases h2 : i0 = ist
      · rw [if_pos (by simpa using h2)] at h
        have hdn := hd 0 o (by simp) (by simpa using h2)
        refine key (.ptr n 0) (by rw [hdn]; exact h) (fun _ => rfl) (fun _ h3 => absurd h2 h3)
      · rw [if_neg (by simpa using h2)] at h
        obtain ⟨x, hl, h⟩ := local_of h
        exact key x h (fun h3 => absurd h3 h1) (fun _ _ => hl)
def tau (ia ist : Nat) (z c : List AV) (listed : Array Bool) : List Blk := if listed.getD ia false then [.var (if listed.getD ist false then c else z)] else []
structure InvO (s : St) (ops : List Oper) (m ia ist : Nat) (z c : List AV) (t1 : List (Nat × AV)) (j0 : J0) (listed : Array Bool) (j : Js) (a : Act) (w : World) : Prop where
  defers : Marks j0.n0 w j a.defers
  rdok : ∀ l, j0.rd = some l → ∃ r, w.heap[l]? = some (.loop r)
  size : a.tmps.size = s.N
  sto : RelS w j (s.σ ++ tau ia ist z c listed)
  len0 : j0.js.length ≤ j.length
  ag : Ag j0.js j s.mv
  lsize : listed.size = ops.length
  lB : ∀ k, m ≤ k → k < ops.length → ∀ b, listed.getD k b = false
  cl : ∀ q oq, q < m → ops[q]? = some oq → listed.getD q true = true → ∀ e ∈ oq.after, Region.binds .any e = true → listed.getD e.on false = true
  c1 : ∀ q oq k av, q < m → ops[q]? = some oq → oq.dst = some k → listed.getD q true = true → get t1 k = some av → k < s.N ∧ R w j av (a.tmps.getD k Go.undef)
  c2 : ∀ k av, (∀ q oq, q < m → ops[q]? = some oq → oq.dst = some k → listed.getD q true = false) → get s.t k = some av → k < s.N ∧ R w j av (a.tmps.getD k Go.undef)
section
variable {P : Program} {ops : List Oper} {m ia ist : Nat}
theorem getD_tf {listed : Array Bool} {n q : Nat} (hs : listed.size = n) (hq : q < n) : listed.getD q false = listed.getD q true := by
  have hsz : q < listed.size := by omega
  simp [hsz]
theorem stAt_ext (s : St) (τ : List Blk) (os : List Oper) (xs : Nat → AV) : ∀ i, stAt ⟨s.N, s.t, s.σ ++ τ, s.mv⟩ os xs i = ⟨s.N, (stAt s os xs i).t, s.σ ++ τ, s.mv⟩
  | 0 => rfl
  | i + 1 => by
    simp only [stAt, stAt_ext s τ os xs i]
    have hf := stAt_fields s os xs i
    split
    · rename_i o _
      cases o.dst with
      | none => rfl
      | some d =>
        simp only [St.put, hf.1]
        split <;> rfl
    · rfl
structure PureO (P : Program) (s : St) (ops : List Oper) (m ia ist : Nat) (t1 : List (Nat × AV)) : Prop where
  at_ : ∀ τ : List Blk, ∃ xs : Nat → AV, (stAt s (ops.take m) xs m).t = t1 ∧ (xs ia = .ptr s.σ.length 0) ∧
    ∀ i o, i < m → ops[i]? = some o → i ≠ ia → i ≠ ist → Local P ops o ⟨s.N, (stAt s (ops.take m) xs i).t, s.σ ++ τ, s.mv⟩ (xs i)
theorem get_writ (hok : drawOk ops m = true) (hmn : m ≤ ops.length) {s : St} {xs : Nat → AV} {q : Nat} {oq : Oper} {k : Nat} (hq : q < m) (hqo : ops[q]? = some oq) (hqd : oq.dst = some k) {i : Nat} (hqi : q < i) (him : i ≤ m) :
    get (stAt s (ops.take m) xs i).t k = if k < s.N then some (xs q) else none :=
  get_stAt_some (oq := oq) (by rw [take_get hq]; exact hqo) hqd hqi (fun p o h1 h2 h3 => by
    rw [take_get (by omega)] at h3
    exact (okA_spec ((drawOk_spec hok hqo).2.1 hq)).2 p o k (by omega) (by omega) h3 hqd)
theorem get_unwrit {s : St} {xs : Nat → AV} {k : Nat} {i : Nat} (him : i ≤ m) (hw : ¬ ∃ q oq, q < i ∧ ops[q]? = some oq ∧ oq.dst = some k) :
    get (stAt s (ops.take m) xs i).t k = get s.t k :=
  get_stAt_none (fun p o h1 h2 => by
    rw [take_get (by omega)] at h2
    exact fun hd => hw ⟨p, o, h1, h2, hd⟩)
theorem InvO.looks_rel (hok : drawOk ops m = true) (hmn : m ≤ ops.length) {s : St} {z c : List AV} {t1 : List (Nat × AV)} {j0 : J0} {listed : Array Bool} {j : Js} {a : Act} {w : World}
    (hI : InvO s ops m ia ist z c t1 j0 listed j a w) {xs : Nat → AV} (hxs : (stAt s (ops.take m) xs m).t = t1) {i : Nat} {o : Oper} (him : i < m) (ho : ops[i]? = some o) (h0 : listed.getD i true = false)
    (hall : ∀ e ∈ o.after, Region.binds .any e = true → listed.getD e.on false = true) {k : Nat} {av : AV} (hkl : k ∈ looks ops o) (hk : get (stAt s (ops.take m) xs i).t k = some av) : k < s.N ∧ R w j av (a.tmps.getD k Go.undef) := by
  have hokA := okA_spec ((drawOk_spec hok ho).2.1 him)
  have hil : i < ops.length := by omega
  by_cases hw : ∃ q oq, q < i ∧ ops[q]? = some oq ∧ oq.dst = some k
  · obtain ⟨q, oq, hq, hqo, hqd⟩ := hw
    have hdep := (hokA.1 k hkl q oq hqo hqd).1 hq
    obtain ⟨e, he1, he2, he3⟩ := depB_spec hdep
    have hlq := hall e he1 he3
    rw [he2, getD_tf hI.lsize (by omega)] at hlq
    rw [get_writ hok hmn (by omega) hqo hqd hq (by omega)] at hk
    have hk1 : get t1 k = some av := by
      rw [← hxs, get_writ hok hmn (by omega) hqo hqd (by omega) (Nat.le_refl _)]; exact hk
    exact hI.c1 q oq k av (by omega) hqo hqd hlq hk1
  · rw [get_unwrit (by omega) hw] at hk
    refine hI.c2 k av (fun q oq h1 h2 h3 => ?_) hk
    rcases Nat.lt_trichotomy q i with h | h | h
    · exact absurd ⟨q, oq, h, h2, h3⟩ hw
    · subst h; exact h0
    · have hdep := (hokA.1 k hkl q oq h2 h3).2 h
      obtain ⟨e, he1, he2, he3⟩ := depB_spec hdep
      by_cases hb : listed.getD q true = true
      · have := hI.cl q oq h1 h2 hb e he1 he3
        rw [he2, getD_tf hI.lsize hil, h0] at this; cases this
      · simpa using hb
structure OwnS (P : Program) (ops : List Oper) (m ia ist : Nat) (s : St) (t1 : List (Nat × AV)) (d : Tmp) (z c : List AV) : Prop where
  lt : ia < m
  lN : d < s.N
  ne : ia ≠ ist
  al : ∃ oa t zz i, ops[ia]? = some oa ∧ oa.op = .alloc t ∧ oa.guard = none ∧ oa.dst = some d ∧ P.info? t = some i ∧ i.zero = some zz ∧ z = zz.cells.toList.map fun v => .d (.v v)
  st : ist < m → ∃ os t v agg av, ops[ist]? = some os ∧ os.op = .store t (.tmp d) v ∧ os.guard = none ∧ os.dst = none ∧ depB os ia = true ∧ (∀ q oq k, ist < q → q < m → ops[q]? = some oq → oq.dst = some k → k ∉ looks ops os) ∧
    tyA P t = some (agg, z.length) ∧ c = cellsOf av ∧ allOne (cellsOf av) = true ∧ (cellsOf av).length = z.length ∧ Arg true ((⟨s.N, t1, s.σ ++ [.var z], s.mv⟩ : St).restr (looks ops os)) v av
  no : ist < m ∨ (ist = ops.length ∧ c = z)
  pure : ∀ i o, i < m → i ≠ ia → i ≠ ist → ops[i]? = some o → d ∉ looks ops o
theorem tau_none {z c : List AV} {listed : Array Bool} (h : listed.getD ia false = false) : tau ia ist z c listed = [] := by simp only [tau, h]; rfl
theorem setRange_all {z v : List AV} (h : v.length = z.length) : setRange z 0 v = v := by
  simp [setRange, h]
theorem phaseO (hok : drawOk ops m = true) (hmn : m ≤ ops.length) {Q : Exit → St → Prop} {j0 : J0} {j1 : Js} {w1 : World} {s : St} {t1 : List (Nat × AV)} {d : Tmp} {z c : List AV}
    (hW : OwnS P ops m ia ist s t1 d z c) (hP : PureO P s ops m ia ist t1)
    (hK : evalOps P false ops (ops.drop m) ⟨s.N, t1, s.σ ++ [.var c], s.mv⟩ (Q .normal)) :
    ∀ (fuel : Nat) (j : Js) (a : Act) (w : World) (listed : Array Bool), left listed ops.length = fuel → InvO s ops m ia ist z c t1 j0 listed j a w → Ev j1 w1 j w → wpAnyIn (FW j0.rd) 0 P .any ops.toArray (APost j0 j1 w1 Q) fuel listed a w := by
  have fin : ∀ (j : Js) (a : Act) (w : World) (listed : Array Bool), (∀ q, q < m → listed.getD q true = true) → InvO s ops m ia ist z c t1 j0 listed j a w → Rel j0 ⟨s.N, t1, s.σ ++ [.var c], s.mv⟩ j a w := by
    intro j a w listed hdone hI
    have hia : listed.getD ia false = true := by rw [getD_tf hI.lsize (by have := hW.lt; omega)]; exact hdone ia hW.lt
    have htau : tau ia ist z c listed = [.var c] := by
      simp only [tau, hia, if_true]
      rcases hW.no with h | ⟨h, h2⟩
      · have : listed.getD ist false = true := by rw [getD_tf hI.lsize (by omega)]; exact hdone ist h
        simp only [this, if_true]
      · subst h2; split <;> rfl
    refine ⟨hI.defers, hI.rdok, hI.size, fun k av hk => ?_, by have := hI.sto; rw [htau] at this; exact this, hI.len0, hI.ag⟩
    by_cases hw : ∃ q oq, q < m ∧ ops[q]? = some oq ∧ oq.dst = some k
    · obtain ⟨q, oq, hq, hqo, hqd⟩ := hw
      exact hI.c1 q oq k av hq hqo hqd (hdone q hq) hk
    · obtain ⟨xs, hxs, _, _⟩ := hP.at_ []
      have hk' : get t1 k = some av := hk
      rw [← hxs, get_unwrit (Nat.le_refl _) hw] at hk'
      exact hI.c2 k av (fun q oq h1 h2 h3 => absurd ⟨q, oq, h1, h2, h3⟩ hw) hk'
  intro fuel
  induction fuel with
  | zero =>
    intro j a w listed hf hI he
    have hall : ∀ k, k < ops.length → listed.getD k true = true := by
      intro k hk
      by_cases hb : listed.getD k true = true
      · exact hb
      · have : k ∈ (List.range ops.length).filter fun k => !listed.getD k true := by
          rw [List.mem_filter]; exact ⟨by simpa using hk, by simpa using hb⟩
        have h0 : (List.range ops.length).filter (fun k => !listed.getD k true) = [] := List.length_eq_zero_iff.1 hf
        rw [h0] at this; simp at this
    have hme : m = ops.length := by
      rcases Nat.lt_or_ge m ops.length with h | h
      · have := hall m h; rw [hI.lB m (Nat.le_refl _) h] at this; simp at this
      · omega
    exact phaseB hok 0 m _ j a w listed (by omega) (Nat.le_refl _) (by omega) hI.lsize (fun k hk b => by
      have h1 := hall k hk
      have hsz : k < listed.size := by rw [hI.lsize]; exact hk
      have h2 : listed[k] = true := by simpa [hsz] using h1
      simp [hsz, h2, show k < m by omega]) (fin j a w listed (fun q hq => hall q (by omega)) hI) he hK
  | succ fuel ih =>
    intro j a w listed hf hI he
    by_cases hdone : ∀ q, q < m → listed.getD q true = true
    · have hL : ∀ k, k < ops.length → ∀ b, listed.getD k b = decide (k < m) := by
        intro k hk b
        rcases Nat.lt_or_ge k m with h | h
        · have h1 := hdone k h
          have hsz : k < listed.size := by rw [hI.lsize]; exact hk
          have h2 : listed[k] = true := by simpa [hsz] using h1
          simp [hsz, h2, h]
        · rw [hI.lB k h hk]; simp; omega
      have hfuel : fuel + 1 = ops.length - m := by
        rw [← hf]
        unfold left
        have gen : ∀ n, n ≤ ops.length → ((List.range n).filter fun k => !listed.getD k true).length = n - m := by
          intro n
          induction n with
          | zero => simp
          | succ n ihn =>
            intro hn
            rw [List.range_succ, List.filter_append, List.length_append, ihn (by omega)]
            have h1 := hL n (by omega) true
            by_cases hnm : n < m
            · have : (List.filter (fun k => !listed.getD k true) [n]).length = 0 := by
                rw [List.filter_cons_of_neg (by rw [h1]; simp [hnm])]; simp
              omega
            · have : (List.filter (fun k => !listed.getD k true) [n]).length = 1 := by
                rw [List.filter_cons_of_pos (by rw [h1]; simp; omega)]; simp
              omega
        exact gen _ (Nat.le_refl _)
      exact phaseB hok (fuel + 1) m _ j a w listed hfuel.symm (Nat.le_refl _) (by omega) hI.lsize hL (fin j a w listed hdone hI) he hK
    · have hex : ∃ q, q < m ∧ listed.getD q true = false ∧ ∀ p, p < q → listed.getD p true = true := by
        have hex0 : ∃ q, q < m ∧ listed.getD q true = false := by
          apply Classical.byContradiction
          intro hne
          apply hdone
          intro q hq
          by_cases hb : listed.getD q true = true
          · exact hb
          · exact absurd ⟨q, hq, by simpa using hb⟩ hne
        obtain ⟨q, hq1, hq2⟩ := hex0
        induction q using Nat.strongRecOn with
        | _ q ihq =>
          by_cases hall : ∀ p, p < q → listed.getD p true = true
          · exact ⟨q, hq1, hq2, hall⟩
          · have : ∃ p, p < q ∧ listed.getD p true = false := by
              apply Classical.byContradiction
              intro hne
              apply hall
              intro p hp
              by_cases hb : listed.getD p true = true
              · exact hb
              · exact absurd ⟨p, hp, by simpa using hb⟩ hne
            obtain ⟨p, hp1, hp2⟩ := this
            exact ihq p hp1 (by omega) hp2
      obtain ⟨q0, hq0, hq0l, hq0all⟩ := hex
      have hlt0 : q0 < ops.length := by omega
      have hready : q0 ∈ Region.ready .any ops.toArray listed := by
        rw [mem_ready]
        refine ⟨hq0l, ops[q0], by simp [hlt0], fun e he hb => ?_⟩
        have h1 := (drawOk_spec hok (i := q0) (o := ops[q0]) (by simp [hlt0])).1 e he hb
        rw [getD_tf hI.lsize (by omega)]
        exact hq0all e.on h1
      refine ⟨fun h0 => by rw [h0] at hready; simp at hready, fun i hi => ?_⟩
      rw [mem_ready] at hi
      obtain ⟨h0, o, ho, hall⟩ := hi
      have ho' : ops[i]? = some o := by simpa using ho
      have hil : i < ops.length := lt_of_getElem? ho'
      have him : i < m := by
        rcases Nat.lt_or_ge i m with h | h
        · exact h
        · have := depT_near (L := fun q => listed.getD q false) (fun q h1 h2 => hI.lB q h1 h2 false) (fun q oq h1 h2 h3 e he1 he2 => hI.cl q oq h1 h2 (by
            have hsz : q < listed.size := by rw [hI.lsize]; omega
            have h4 : listed[q] = true := by simpa [hsz] using h3
            simp [hsz, h4]) e he1 he2) ((drawOk_spec hok ho').2.2 h q0 (by omega)) hall
          simp only [getD_tf hI.lsize hlt0, hq0l] at this; cases this
      have hokA := okA_spec ((drawOk_spec hok ho').2.1 him)
      have hset0 : left (listed.setIfInBounds i true) ops.length = fuel := by
        have := left_set hI.lsize hil h0; omega
      have hszi : i < listed.size := by rw [hI.lsize]; exact hil
      have hseti : ∀ b, (listed.setIfInBounds i true).getD i b = true := by intro b; simp [hszi]
      have step : ∀ (j' : Js) (w' : World) (v : Value), RelS w' j' (s.σ ++ tau ia ist z c (listed.setIfInBounds i true)) → Ev j w j' w' → Ag j j' [] → j.length ≤ j'.length →
          (∀ k av, o.dst = some k → get t1 k = some av → k < s.N ∧ R w' j' av v) → wpAnyIn (FW j0.rd) 0 P .any ops.toArray (APost j0 j1 w1 Q) fuel (listed.setIfInBounds i true) (a.put o.dst v) w' := by
        intro j' w' v hsto hev hagj hlj hv
        have oth : ∀ {k}, o.dst ≠ some k → (a.put o.dst v).tmps.getD k Go.undef = a.tmps.getD k Go.undef := by
          intro k hne
          cases hd : o.dst with
          | none => rfl
          | some d =>
            have hdk : d ≠ k := fun h => hne (by rw [hd, h])
            simp [Act.put, Array.getD_eq_getD_getElem?, Array.getElem?_setIfInBounds, hdk]
        refine ih j' _ w' _ hset0 ⟨?_, fun l hl => (by obtain ⟨r, hr⟩ := hI.rdok l hl; exact hev.lps l r hr), ?_, hsto, Nat.le_trans hI.len0 hlj, ?_, by simpa using hI.lsize, ?_, ?_, ?_, ?_⟩ (he.trans hev)
        · have := hI.defers.mono hev
          cases hd : o.dst <;> simpa [Act.put] using this
        · cases hd : o.dst <;> simp [Act.put, hI.size]
        · intro b hb hn
          rw [hagj b (by have := hI.len0; omega) (by simp)]
          exact hI.ag b hb hn
        · intro k hk1 hk2 b
          rw [getD_set_ne b (by omega)]; exact hI.lB k hk1 hk2 b
        · intro q oq hq hqo hl e he1 he2
          by_cases hqi : i = q
          · subst hqi
            have : oq = o := by rw [ho'] at hqo; exact (Option.some.inj hqo).symm
            subst this
            exact getD_set_true (hall e he1 he2)
          · rw [getD_set_ne true hqi] at hl
            exact getD_set_true (hI.cl q oq hq hqo hl e he1 he2)
        · intro q oq k av hq hqo hqd hl hk
          by_cases hqi : i = q
          · subst hqi
            have : oq = o := by rw [ho'] at hqo; exact (Option.some.inj hqo).symm
            subst this
            have h1 := hv k av hqd hk
            simp only [Act.put, hqd]
            rw [R_setIfInBounds (w := w) (j := j) (by rw [hI.size]; exact h1.1), if_pos rfl]; exact h1
          · rw [getD_set_ne true hqi] at hl
            have h1 := hI.c1 q oq k av hq hqo hqd hl hk
            rw [oth (fun hd => hokA.2 q oq k hq (fun h => hqi h.symm) hqo hd hqd)]
            exact ⟨h1.1, h1.2.mono0 hev hI.sto.lt hagj⟩
        · intro k av hk hg
          have hne : o.dst ≠ some k := fun hd => by
            have := hk i o him ho' hd
            rw [hseti] at this; cases this
          have h1 := hI.c2 k av (fun q oq h1 h2 h3 => by
            have hqi : i ≠ q := fun h => by subst h; rw [ho'] at h2; cases h2; exact hne h3
            have := hk q oq h1 h2 h3
            rwa [getD_set_ne true hqi] at this) hg
          rw [oth hne]; exact ⟨h1.1, h1.2.mono0 hev hI.sto.lt hagj⟩
      simp only [wpOpIn, ho]
      by_cases hia : i = ia
      · -- the variable is made
        subst hia
        obtain ⟨oa, t, zz, inf, hoa, hop, hgd, hdst, hinf, hzz, hz⟩ := hW.al
        obtain rfl : o = oa := by rw [ho'] at hoa; exact Option.some.inj hoa
        have hnl : listed.getD i false = false := by rw [getD_tf hI.lsize hil]; exact h0
        have htau : tau i ist z c listed = [] := tau_none hnl
        have hsto := hI.sto
        rw [htau, List.append_nil] at hsto
        have hr : Rel j0 ⟨s.N, [], s.σ, s.mv⟩ j a w := ⟨hI.defers, hI.rdok, hI.size, fun k av hk => by simp [Abs.get] at hk, hsto, hI.len0, hI.ag⟩
        have hnv := hr.newVar (cs := z) zz.cells t (by rw [hz]; simp) (fun k hk => by
          rw [hz] at hk ⊢
          simp only [List.length_map, Array.length_toList] at hk
          have e1 : (zz.cells.toList.map fun v => AV.d (.v v)).getD k .undef = .d (.v (zz.cells.getD k Go.undef)) := by
            simp [List.getD_eq_getElem?_getD, Array.getD_eq_getD_getElem?, hk]
          rw [e1]; exact .d (.v _))
        obtain ⟨g1, g2, g3⟩ := hnv
        have hrun : (execOp a.eval o).run P w = .ok (.value (.pointer (some ⟨w.heap.size, 0, none⟩))) (w.alloc (.cells zz.cells t)) := by
          simp [execOp, hop, Instr.alloc, zeroValue, typeInfo, hinf, hzz, Go.newVar, newRow]
        have hw : Region.wanted o (yielded ops.toArray a.tmps) = true := by simp [Region.wanted, hgd]
        rw [if_pos hw]
        refine opw (by simp [hop]) hrun ?_
        have hist : listed.getD ist false = false := by
          rcases hW.no with h | ⟨h, _⟩
          · obtain ⟨os, t', v, agg, av, hos, h1, h2, h3, h4, _⟩ := hW.st h
            by_cases hb : listed.getD ist true = true
            · obtain ⟨e, he1, he2, he3⟩ := depB_spec h4
              have := hI.cl ist os h hos hb e he1 he3
              rw [he2, hnl] at this; cases this
            · rw [getD_tf hI.lsize (by omega)]; simpa using hb
          · rw [h]; simp [hI.lsize]
        have hist' : (listed.setIfInBounds i true).getD ist false = false := by rw [getD_set_ne false hW.ne]; exact hist
        refine step _ _ _ ?_ g2 (ag_append j _) (by simp) ?_
        · have : tau i ist z c (listed.setIfInBounds i true) = [.var z] := by simp only [tau, hseti, hist', if_true]; rfl
          rw [this]; exact g1.sto
        · intro k av hk hgt
          rw [hdst] at hk
          obtain rfl : d = k := Option.some.inj hk
          obtain ⟨xs, hxs, hxa, _⟩ := hP.at_ []
          rw [← hxs, get_writ hok hmn him ho' hdst him (Nat.le_refl _)] at hgt
          split at hgt
          · rename_i hlt
            obtain rfl : xs i = av := Option.some.inj hgt
            rw [hxa]; exact ⟨hlt, g3⟩
          · simp at hgt
      · by_cases his : i = ist
        · -- it is stored
          subst his
          obtain ⟨os, t, v, agg, av, hos, hop, hgd, hdst, hdep, hlate, hty, hc, hone, hlen, hv⟩ := hW.st him
          obtain rfl : o = os := by rw [ho'] at hos; exact Option.some.inj hos
          have hla : listed.getD ia false = true := by
            obtain ⟨e, he1, he2, he3⟩ := depB_spec hdep
            have := hall e he1 he3
            rw [he2] at this; exact this
          have hni : listed.getD i false = false := by rw [getD_tf hI.lsize hil]; exact h0
          have hsto := hI.sto
          have htau : tau ia i z c listed = [.var z] := by simp only [tau, hla, hni, if_true]; rfl
          rw [htau] at hsto
          have hr : Rel j0 ((⟨s.N, t1, s.σ ++ [.var z], s.mv⟩ : St).restr (looks ops o)) j a w := by
            refine ⟨hI.defers, hI.rdok, hI.size, fun k av hk => ?_, hsto, hI.len0, hI.ag⟩
            simp only [St.restr, get_restr] at hk
            split at hk
            · rename_i hkl
              have hkl : k ∈ looks ops o := by simpa using hkl
              by_cases hw : ∃ q oq, q < m ∧ ops[q]? = some oq ∧ oq.dst = some k
              · obtain ⟨q, oq, hq, hqo, hqd⟩ := hw
                have hqi : q < i := by
                  rcases Nat.lt_trichotomy q i with h | h | h
                  · exact h
                  · subst h; rw [ho'] at hqo; cases hqo; rw [hdst] at hqd; cases hqd
                  · exact absurd hkl (hlate q oq k h hq hqo hqd)
                obtain ⟨e, he1, he2, he3⟩ := depB_spec ((hokA.1 k hkl q oq hqo hqd).1 hqi)
                have hlq := hall e he1 he3
                rw [he2, getD_tf hI.lsize (by omega)] at hlq
                exact hI.c1 q oq k av hq hqo hqd hlq hk
              · obtain ⟨xs, hxs, _, _⟩ := hP.at_ []
                rw [← hxs, get_unwrit (Nat.le_refl _) hw] at hk
                exact hI.c2 k av (fun q oq h1 h2 h3 => absurd ⟨q, oq, h1, h2, h3⟩ hw) hk
            · simp at hk
          obtain ⟨oa, ta, zz, inf, hoa, hopa, _, hdsta, _⟩ := hW.al
          obtain ⟨xs, hxs, hxa, _⟩ := hP.at_ []
          have hgd' : d < s.N → get t1 d = some (.ptr s.σ.length 0) := by
            intro hlt
            rw [← hxs, get_writ hok hmn hW.lt hoa hdsta hW.lt (Nat.le_refl _), if_pos hlt, hxa]
          have hdN : d < s.N := hW.lN
          have hp : R w j (.ptr s.σ.length 0) (a.eval (.tmp d)) := by
            have hlq : listed.getD ia true = true := by rw [← getD_tf hI.lsize (by have := hW.lt; omega)]; exact hla
            exact (hI.c1 ia oa d _ hW.lt hoa hdsta hlq (hgd' hdN)).2
          have hst : storeBlk (s.σ ++ [.var z]) (.ptr s.σ.length 0) (cellsOf av) = some (True, (s.σ ++ [Blk.var z]).set s.σ.length (Blk.var (setRange z 0 (cellsOf av)))) := by
            simp [storeBlk, hlen]
          obtain ⟨w', h1, h2, h3⟩ := store_sound (P := P) hsto hty hp (hv rfl j0 j a w hr) hone hlen hst trivial
          have hrun : (execOp a.eval o).run P w = .ok .skip w' := by simp [execOp, hop, h1]
          have hw : Region.wanted o (yielded ops.toArray a.tmps) = true := by simp [Region.wanted, hgd]
          rw [if_pos hw]
          refine opw (by simp [hop]) hrun ?_
          refine step j w' _ ?_ h3 (.refl _ _) (Nat.le_refl _) (fun k av hk => by rw [hdst] at hk; cases hk)
          have hla' : (listed.setIfInBounds i true).getD ia false = true := by rw [getD_set_ne false (fun h => hia h)]; exact hla
          have : tau ia i z c (listed.setIfInBounds i true) = [.var c] := by simp only [tau, hseti, hla', if_true]
          rw [this]
          rw [setRange_all hlen, ← hc] at h2
          simpa using h2
        · -- one that computes
          obtain ⟨xs, hxs, hxa, hloc⟩ := hP.at_ (tau ia ist z c listed)
          have hL := hloc i o him ho' hia his
          have hrel : Rel j0 ((⟨s.N, (stAt s (ops.take m) xs i).t, s.σ ++ tau ia ist z c listed, s.mv⟩ : St).restr (looks ops o)) j a w := by
            refine ⟨hI.defers, hI.rdok, hI.size, fun k av hk => ?_, hI.sto, hI.len0, hI.ag⟩
            simp only [St.restr, get_restr] at hk
            split at hk
            · rename_i hkl
              exact hI.looks_rel hok hmn hxs him ho' h0 hall (by simpa using hkl) hk
            · simp at hk
          have htau : tau ia ist z c (listed.setIfInBounds i true) = tau ia ist z c listed := by
            simp only [tau, getD_set_ne false hia, getD_set_ne false his]
          have hval : ∀ (w' : World) (v : Value), R w' j (xs i) v → ∀ k av, o.dst = some k → get t1 k = some av → k < s.N ∧ R w' j av v := by
            intro w' v hr k av hk hgt
            rw [← hxs, get_writ hok hmn him ho' hk him (Nat.le_refl _)] at hgt
            split at hgt
            · rename_i hlt
              obtain rfl : xs i = av := Option.some.inj hgt
              exact ⟨hlt, hr⟩
            · simp at hgt
          by_cases hw : Region.wanted o (yielded ops.toArray a.tmps) = true
          · rw [if_pos hw]
            exact hL.run j0 j a w _ _ hrel hw fun w' v h1 h2 h3 => step j w' v (by rw [htau]; exact h1) h2 (.refl _ _) (Nat.le_refl _) (hval w' v h3)
          · rw [if_neg hw]
            exact ⟨fun _ _ => trivial, step j w Go.undef (by rw [htau]; exact hI.sto) (.refl _ _) (.refl _ _) (Nat.le_refl _) (hval w _ (hL.skip j0 j a w hrel (by simpa using hw)))⟩
end
theorem ownOk_spec {ops : List Oper} {m ia ist : Nat} (h : ownOk ops m ia ist = true) : ∃ oa t d, ops[ia]? = some oa ∧ oa.op = .alloc t ∧ oa.guard = none ∧ oa.dst = some d ∧ ia < m ∧ ia ≠ ist ∧ (ist < m ∨ ist = ops.length) ∧
    (∀ i o, i < m → i ≠ ia → i ≠ ist → ops[i]? = some o → d ∉ looks ops o) ∧
    (ist < m → ∃ os t' v, ops[ist]? = some os ∧ os.op = .store t' (.tmp d) v ∧ os.guard = none ∧ os.dst = none ∧ depB os ia = true ∧ (∀ q oq k, ist < q → q < m → ops[q]? = some oq → oq.dst = some k → k ∉ looks ops os)) := by
  unfold ownOk at h
  split at h
  · rename_i oa hoa
    simp only [Bool.and_eq_true, Nat.blt_eq, Bool.not_eq_true', List.all_eq_true, List.mem_range, Bool.or_eq_true, Nat.beq_eq] at h
    obtain ⟨⟨⟨⟨h1, h2⟩, h3⟩, h4⟩, h5⟩ := h
    have h1' : ∃ t d, oa.op = .alloc t ∧ oa.guard = none ∧ oa.dst = some d := by
      unfold isAllocB at h1
      split at h1
      · rename_i t d e1 e2 e3; exact ⟨t, d, e1, e2, e3⟩
      · cases h1
    obtain ⟨t, d, e1, e2, e3⟩ := h1'
    have hne : ia ≠ ist := fun h => by subst h; simp at h3
    refine ⟨oa, t, d, hoa, e1, e2, e3, h2, hne, by simpa using h5, fun i o hi hia his ho hd => ?_, fun hlt => ?_⟩
    · rcases h4 i hi with h | h
      · exact hia (by simpa using h)
      · rw [if_neg (by simpa using his)] at h
        simp only [ho, e3, Bool.not_eq_true', List.contains_eq_mem, decide_eq_false_iff_not] at h
        exact h hd
    · rcases h4 ist hlt with h | h
      · exact absurd (by simpa using h) (fun h : ist = ia => hne h.symm)
      · rw [if_pos (by simp)] at h
        split at h
        · rename_i os hos
          simp only [Bool.and_eq_true, List.all_eq_true, List.mem_range, Bool.or_eq_true, Nat.ble_eq] at h
          obtain ⟨⟨g1, g2⟩, g3⟩ := h
          have g1' : ∃ t' v, os.op = .store t' (.tmp d) v ∧ os.guard = none ∧ os.dst = none := by
            unfold isStoreB at g1
            split at g1
            · rename_i t' p v dd e4 e5 e6 e7
              rw [e3] at e7
              obtain rfl : d = dd := Option.some.inj e7
              have : p = d := by simpa using g1
              subst this
              exact ⟨t', v, e4, e5, e6⟩
            · cases g1
          obtain ⟨t', v, e4, e5, e6⟩ := g1'
          refine ⟨os, t', v, hos, e4, e5, e6, g2, fun q oq k hq hqm hqo hqd hkl => ?_⟩
          rcases g3 q hqm with h | h
          · omega
          · simp only [hqo, hqd, Bool.not_eq_true', List.contains_eq_mem, decide_eq_false_iff_not] at h
            exact h hkl
        · cases h
  · cases h
theorem awp_own {P : Program} {Q : Exit → St → Prop} {N : Nat} {t : List (Nat × AV)} {σ : List Blk} {mv : List Nat} {id : Nat} {ops : List Oper} (m ia ist : Nat) (hm : P.follows .mixedOrders = true) (hok : (drawOk ops m && Nat.ble m ops.length && ownOk ops m ia ist) = true) {t1 : List (Nat × AV)}
    (h1 : ∀ (τ : List Blk) (K : St → Prop), (∀ σ' mv', K ⟨N, t1, σ', mv'⟩) → evalO P ops ia ist σ.length (ops.take m) 0 ⟨N, t, σ ++ τ, mv⟩ K)
    (h2 : ownA P ops ia ist ⟨N, t1, σ, mv⟩ fun c => evalOps P false ops (ops.drop m) ⟨N, t1, σ ++ [.var c], mv⟩ (Q .normal)) : AWP P (.region id ops.toArray true) Q ⟨N, t, σ, mv⟩ := by
  intro j0 j a w hr
  simp only [Bool.and_eq_true, Nat.ble_eq] at hok
  obtain ⟨⟨hok, hmn⟩, hown⟩ := hok
  obtain ⟨oa, ta, d, hoa, hopa, hga, hda, hlt, hne, hor, hpure, hst⟩ := ownOk_spec hown
  have hP : PureO P ⟨N, t, σ, mv⟩ ops m ia ist t1 := ⟨fun τ => by
    have h := h1 τ (fun s' => s'.t = t1) (fun _ _ => rfl)
    have hlen : (ops.take m).length = m := by simp; omega
    obtain ⟨xs, hK, hia, hloc⟩ := unrollO h (fun i o hi he => by
      have him : i < m := by have := lt_of_getElem? hi; omega
      rw [take_get him] at hi
      have he : i = ist := by omega
      subst he
      obtain ⟨os, t', v, g1, g2, g3, g4, _⟩ := hst him
      rw [g1] at hi; cases hi; exact g4)
    have hext := stAt_ext ⟨N, t, σ, mv⟩ τ (ops.take m) xs
    refine ⟨xs, ?_, hia ia (by omega), fun i o him ho h3 h4 => ?_⟩
    · rw [hlen, hext] at hK; exact hK
    · have := hloc i o (by rw [take_get him]; exact ho) (by omega) (by omega)
      rw [hext] at this; exact this⟩
  have hr' : Rel j0 ⟨N, t, σ, mv⟩ j a w.drew := hr.after (ev_drew j w) hr.sto.drew (Nat.le_refl _) (.refl _ [])
  have hf : ∀ k b, k < ops.length → (Array.replicate ops.toArray.size false).getD k b = false := by
    intro k b hk; simp [hk]
  unfold ownA at h2
  rw [nthOp_eq, hoa] at h2
  simp only [hda, hopa] at h2
  obtain ⟨hdN, h2⟩ := h2
  have hdN : d < N := by simpa using hdN
  split at h2
  · rename_i zl hz
    have hz' : ∃ i zz, P.info? ta = some i ∧ i.zero = some zz ∧ zz.cells.toList = zl := by
      unfold zeroA at hz
      split at hz
      · rename_i i hi
        split at hz
        · rename_i zz hzz
          simp only [Option.some.injEq] at hz
          exact ⟨i, zz, hi, hzz, hz⟩
        · simp at hz
      · simp at hz
    obtain ⟨inf, zz, hi, hzz, hzl⟩ := hz'
    have main : ∃ c, OwnS P ops m ia ist ⟨N, t, σ, mv⟩ t1 d (zl.map fun v => .d (.v v)) c ∧ evalOps P false ops (ops.drop m) ⟨N, t1, σ ++ [.var c], mv⟩ (Q .normal) := by
      rw [nthOp_eq] at h2
      rcases hor with hlt' | hge
      · obtain ⟨os, t', v, g1, g2, g3, g4, g5, g6⟩ := hst hlt'
        rw [g1] at h2
        simp only [g2] at h2
        have hmem : ∀ t, v = .tmp t → t ∈ looks ops os := fun t ht => List.mem_append.2 (.inl (mem_opTmps (x := v) (by simp [g2, Op.operands]) ht))
        have h2' : arg true ((⟨N, t1, σ ++ [.var (zl.map fun v => .d (.v v))], mv⟩ : St).restr (looks ops os)) v fun av => (match tyA P t' with
            | some (_, m_1) => allOne (cellsOf av) = true ∧ (cellsOf av).length = m_1 ∧ zl.length = m_1 ∧ evalOps P false ops (ops.drop m) ⟨N, t1, σ ++ [.var (cellsOf av)], mv⟩ (Q .normal)
            | none => False) := by
          rw [arg_restr hmem]; exact h2
        obtain ⟨av, h3, h4⟩ := arg_sound h2'
        split at h3
        · rename_i agg mm hty
          obtain ⟨k1, k2, k3, k4⟩ := h3
          subst k3
          refine ⟨cellsOf av, ⟨hlt, hdN, hne, ⟨oa, ta, zz, inf, hoa, hopa, hga, hda, hi, hzz, by rw [hzl]⟩, fun _ => ⟨os, t', v, agg, av, g1, g2, g3, g4, g5, g6, by simpa using hty, rfl, k1, by simpa using k2, h4⟩, .inl hlt', hpure⟩, k4⟩
        · exact h3.elim
      · have : ops[ist]? = none := by rw [hge]; simp
        rw [this] at h2
        exact ⟨_, ⟨hlt, hdN, hne, ⟨oa, ta, zz, inf, hoa, hopa, hga, hda, hi, hzz, by rw [hzl]⟩, fun h => by omega, .inr ⟨hge, rfl⟩, hpure⟩, h2⟩
    obtain ⟨c, hW, hK⟩ := main
    refine wpIn_region_any hm ?_
    refine phaseO hok hmn hW hP hK _ j a w.drew _ ?_ ⟨hr'.defers, hr'.rdok, hr'.size, ?_, hr'.len0, hr'.ag, by simp, fun k _ hk b => hf k b hk, fun q oq hq hqo hl => ?_, fun q oq k av hq hqo hd hl => ?_, fun k av _ hk => hr'.tmp k av hk⟩ (ev_drew j w)
    · unfold left
      have : (List.range ops.length).filter (fun k => !(Array.replicate ops.toArray.size false).getD k true) = List.range ops.length := by
        apply List.filter_eq_self.2
        intro k hk
        rw [hf k true (by simpa using hk)]; rfl
      rw [this]; simp
    · rw [tau_none (hf ia false (by omega)), List.append_nil]; exact hr'.sto
    · rw [hf q true (by omega)] at hl; cases hl
    · rw [hf q true (by omega)] at hl; cases hl
  · exact h2.elim
theorem awp_own_seq {P : Program} {Q : Exit → St → Prop} {N : Nat} {t : List (Nat × AV)} {σ : List Blk} {mv : List Nat} {id : Nat} {ops : List Oper} {y : Code} (m ia ist : Nat) (hm : P.follows .mixedOrders = true) (hok : (drawOk ops m && Nat.ble m ops.length && ownOk ops m ia ist) = true) {t1 : List (Nat × AV)}
    (h1 : ∀ (τ : List Blk) (K : St → Prop), (∀ σ' mv', K ⟨N, t1, σ', mv'⟩) → evalO P ops ia ist σ.length (ops.take m) 0 ⟨N, t, σ ++ τ, mv⟩ K)
    (h2 : ∀ K : St → Prop, (∀ s', AWP P y Q s' → K s') → ownA P ops ia ist ⟨N, t1, σ, mv⟩ fun c => evalOps P false ops (ops.drop m) ⟨N, t1, σ ++ [.var c], mv⟩ K) : AWP P (.seq (.region id ops.toArray true) y) Q ⟨N, t, σ, mv⟩ :=
  awp_seq (awp_own m ia ist hm hok h1 (h2 _ fun s' h => h))
theorem awp_own_end {P : Program} {Q : Exit → St → Prop} {N : Nat} {t : List (Nat × AV)} {σ : List Blk} {mv : List Nat} {id : Nat} {ops : List Oper} (m ia ist : Nat) (hm : P.follows .mixedOrders = true) (hok : (drawOk ops m && Nat.ble m ops.length && ownOk ops m ia ist) = true) {t1 : List (Nat × AV)}
    (h1 : ∀ (τ : List Blk) (K : St → Prop), (∀ σ' mv', K ⟨N, t1, σ', mv'⟩) → evalO P ops ia ist σ.length (ops.take m) 0 ⟨N, t, σ ++ τ, mv⟩ K)
    (h2 : ∀ K : St → Prop, (∀ s', Q .normal s' → K s') → ownA P ops ia ist ⟨N, t1, σ, mv⟩ fun c => evalOps P false ops (ops.drop m) ⟨N, t1, σ ++ [.var c], mv⟩ K) : AWP P (.region id ops.toArray true) Q ⟨N, t, σ, mv⟩ :=
  awp_own m ia ist hm hok h1 (h2 _ fun s' h => h)
def RestO (P : Program) (all : List Oper) (ia ist n : Nat) (os : List Oper) (i : Nat) (K : St → Prop) (s : St) : Prop := evalO P all ia ist n os i s K
theorem evalO_nil (P : Program) (all : List Oper) (ia ist n i : Nat) (s : St) (K : St → Prop) : evalO P all ia ist n [] i s K = K s := rfl
theorem evalO_cons (P : Program) (all os : List Oper) (ia ist n i : Nat) (o : Oper) (s : St) (K : St → Prop) : evalO P all ia ist n (o :: os) i s K = if Nat.beq i ia then RestO P all ia ist n os (i + 1) K (s.put o.dst (.ptr n 0))
    else if Nat.beq i ist then evalO P all ia ist n os (i + 1) s K
    else guardA all s o fun gd g => opA P true gd g o s (RestO P all ia ist n os (i + 1) K) := rfl
theorem RestO_mk (P : Program) (all os : List Oper) (ia ist n i : Nat) (K : St → Prop) (N : Nat) (t : List (Nat × AV)) (σ : List Blk) (mv : List Nat) : RestO P all ia ist n os i K ⟨N, t, σ, mv⟩ = evalO P all ia ist n os i ⟨N, t, σ, mv⟩ K := rfl
attribute [go_sem ↓] evalO_nil evalO_cons RestO_mk ownA
attribute [go_sem] RestO_mk
end Go.Abs

/-! Ay -/
namespace Go.Abs
set_option linter.unusedVariables false
set_option linter.unusedSimpArgs false
abbrev I (n : Int) : D := .v (.int .i64 n)
abbrev B (b : Bool) : D := .v (.bool b)
theorem wrapI {n : Int} (h1 : -9223372036854775808 ≤ n) (h2 : n ≤ 9223372036854775807) : IntKind.i64.wrap n = n := by
  rw [IntKind.wrap_i64]; omega
theorem tdivI {a b : Int} (h : 0 ≤ a) : a.tdiv b = a / b := Int.tdiv_eq_ediv_of_nonneg h
theorem tmodI {a b : Int} (h : 0 ≤ a) : a.tmod b = a % b := Int.tmod_eq_emod_of_nonneg h
theorem wrap_succ {i : Nat} (h : i < 1000000000) : IntKind.i64.wrap ((i : Int) + 1) = ((i + 1 : Nat) : Int) := by
  rw [IntKind.wrap_i64]; omega
theorem wrap_pred {i : Nat} (h : i < 1000000000) : IntKind.i64.wrap ((i : Int) - 1) = (i : Int) - 1 := by
  rw [IntKind.wrap_i64]; omega
def idxFrom {α : Type} (p : α → Bool) : List α → Nat → Int
  | [], _ => -1
  | x :: xs, i => if p x then i else idxFrom p xs (i + 1)
theorem drop_lst {α : Type} {n i : Nat} {f : Nat → α} (h : i < n) : (lst n f).drop i = f i :: (lst n f).drop (i + 1) := by
  rw [List.drop_eq_getElem_cons (by rw [lst_length]; exact h)]; simp [lst]
theorem drop_all {α : Type} {n i : Nat} {f : Nat → α} (h : n ≤ i) : (lst n f).drop i = [] := by
  rw [List.drop_eq_nil_iff, lst_length]; omega
theorem idx_any {α : Type} (p : α → Bool) : ∀ (l : List α) (i : Nat), decide (0 ≤ idxFrom p l i) = l.any p
  | [], i => by simp [idxFrom]
  | x :: xs, i => by
    rw [idxFrom, List.any_cons]
    by_cases h : p x = true
    · simp [h]
    · simp only [h]; simpa using idx_any p xs (i + 1)
theorem idx_spec {α : Type} (p : α → Bool) : ∀ (l : List α) (i : Nat), (idxFrom p l i = -1 ∧ ∀ x ∈ l, p x = false) ∨ ∃ q, q < l.length ∧ idxFrom p l i = ((i + q : Nat) : Int) ∧ ∃ x, l[q]? = some x ∧ p x = true ∧ ∀ r y, r < q → l[r]? = some y → p y = false
  | [], i => .inl ⟨rfl, by simp⟩
  | x :: xs, i => by
    rw [idxFrom]
    by_cases h : p x = true
    · refine .inr ⟨0, by simp, by simp [h], x, by simp, h, fun r y hr => by omega⟩
    · rw [if_neg h]
      have h : p x = false := by simpa using h
      rcases idx_spec p xs (i + 1) with ⟨h1, h2⟩ | ⟨q, h1, h2, y, h3, h4, h5⟩
      · exact .inl ⟨h1, by simpa [h] using h2⟩
      · refine .inr ⟨q + 1, by simpa using h1, by rw [h2]; congr 1; omega, y, by simpa using h3, h4, fun r z hr hz => ?_⟩
        cases r with
        | zero => simp at hz; subst hz; exact h
        | succ r => exact h5 r z (by omega) (by simpa using hz)
end Go.Abs

/-! Az -/
namespace Go.Abs
set_option linter.unusedVariables false
set_option linter.unusedSimpArgs false
mutual
def frzA (b sz n' : Nat) (row : Nat → List D) : AV → AV
  | .iff g x => .iff g (frzA b sz n' row x)
  | .agg cs => .agg (frzL b sz n' row cs)
  | .tup cs => .tup (frzL b sz n' row cs)
  | .ms b' sz' lo n => if Nat.beq b' b then (if sz' = sz ∧ lo + n ≤ n' then .d (.sl none sz n fun i => row (lo + i)) else .undef) else .ms b' sz' lo n
  | .clo fn fs cs => .clo fn (frzL b sz n' row fs) (frzL b sz n' row cs)
  | .ptr b' o => if Nat.beq b' b then .undef else .ptr b' o
  | .pe b' s i k => if Nat.beq b' b then .undef else .pe b' s i k
  | .mc b' s l n c => if Nat.beq b' b then .undef else .mc b' s l n c
  | .mp b' => if Nat.beq b' b then .undef else .mp b'
  | .yld b' => if Nat.beq b' b then .undef else .yld b'
  | x => x
def frzL (b sz n' : Nat) (row : Nat → List D) : List AV → List AV
  | [] => []
  | x :: xs => frzA b sz n' row x :: frzL b sz n' row xs
end
theorem frzL_length (b sz n' : Nat) (row : Nat → List D) : ∀ cs, (frzL b sz n' row cs).length = cs.length
  | [] => rfl
  | x :: xs => by simp [frzL, frzL_length b sz n' row xs]
theorem frzL_getD (b sz n' : Nat) (row : Nat → List D) : ∀ (cs : List AV) (k : Nat), (frzL b sz n' row cs).getD k .undef = frzA b sz n' row (cs.getD k .undef)
  | [], k => by simp [frzL, frzA]
  | x :: xs, 0 => by simp [frzL]
  | x :: xs, k + 1 => by
    have := frzL_getD b sz n' row xs k
    simpa [frzL] using this
theorem set_none_sub {j : Js} {b : Nat} {c : Nat} (h : some c ∈ j.set b none) : some c ∈ j := by
  obtain ⟨i, hi, he⟩ := List.mem_iff_getElem.1 h
  rw [List.getElem_set] at he
  split at he
  · cases he
  · rw [← he]; exact List.getElem_mem _
theorem RD.unset {w : World} {j : Js} {b : Nat} {d : D} {v : Value} (h : RD w j d v) : RD w (j.set b none) d v := by
  induction h with
  | v x => exact .v x
  | sl a c val hcap hle ha hlt hb hlen hcell hrel ih => exact .sl a c val hcap hle ha hlt (fun hm => hb (set_none_sub hm)) hlen hcell ih
  | zero p c hcap hp => exact .zero p c hcap hp
section
variable {w : World} {j : Js} {σ : List Blk} {b sz n' : Nat} {row : Nat → List D}
theorem get_unset {b' : Nat} {o : Option Nat} (h : j[b']? = some o) (hne : b' ≠ b) : (j.set b none)[b']? = some o := by
  rw [List.getElem?_set]; simp [Ne.symm hne, h]
theorem R.frz (hS : RelS w j σ) (hb : σ[b]? = some (.arr sz n' row)) {x : AV} {v : Value} (h : R w j x v) : R w (j.set b none) (frzA b sz n' row x) v := by
  induction h with
  | undef v => exact .undef v
  | iff h h0 ih => simp only [frzA]; exact .iff ih h0
  | d h => simp only [frzA]; exact .d h.unset
  | agg vs hs h ih =>
    simp only [frzA]
    exact .agg vs (by rw [frzL_length]; exact hs) fun k hk => by rw [frzL_getD]; exact ih k (by rwa [frzL_length] at hk)
  | tup vs hs h ih =>
    simp only [frzA]
    exact .tup vs (by rw [frzL_length]; exact hs) fun k hk => by rw [frzL_getD]; exact ih k (by rwa [frzL_length] at hk)
  | clo ff cc h1 h2 h3 h4 ih3 ih4 =>
    simp only [frzA]
    exact .clo ff cc (by rw [frzL_length]; exact h1) (by rw [frzL_length]; exact h2) (fun k hk => by rw [frzL_getD]; exact ih3 k (by rwa [frzL_length] at hk)) (fun k hk => by rw [frzL_getD]; exact ih4 k (by rwa [frzL_length] at hk))
  | @ptr b' off cb h =>
    simp only [frzA]
    by_cases e : b' = b
    · simp [e]; exact .undef _
    · simp [e]; exact .ptr (get_unset h e)
  | @pe b' s i k cb h =>
    simp only [frzA]
    by_cases e : b' = b
    · simp [e]; exact .undef _
    · simp [e]; exact .pe (get_unset h e)
  | @mp b' cb h =>
    simp only [frzA]
    by_cases e : b' = b
    · simp [e]; exact .undef _
    · simp [e]; exact .mp (get_unset h e)
  | @yld b' cb h =>
    simp only [frzA]
    by_cases e : b' = b
    · simp [e]; exact .undef _
    · simp [e]; exact .yld (get_unset h e)
  | el a val h1 hlt hbj hcell hrel => simp only [frzA]; exact .el a val h1 hlt (fun hm => hbj (set_none_sub hm)) hcell fun k hk => (hrel k hk).unset
  | @ms b' sz' lo n cb c e m h hs hn hm =>
    simp only [frzA]
    by_cases e' : b' = b
    · subst e'
      simp only [Nat.beq_refl, if_true]
      split
      · rename_i hc
        obtain ⟨rfl, hle⟩ := hc
        obtain ⟨o, ho, hB⟩ := hS.blk b' _ hb
        rw [h] at ho; cases ho
        obtain ⟨C, e2, ⟨f, hC, hfz⟩, hcs, hrel⟩ := hB
        refine .d (.sl ⟨cb, lo * sz', none⟩ c (fun i k => C.getD ((lo + i) * sz' + k) Go.undef) (.inl rfl) hn rfl (hS.lt b' cb h) (fun hmem => ?_) (fun i hi => (hrel (lo + i) (by omega)).1) (fun i hi k hk => ?_) (fun i hi k hk => ?_))
        · obtain ⟨i, hi, he⟩ := List.mem_iff_getElem.1 hmem
          rw [List.getElem_set] at he
          split at he
          · cases he
          · rename_i hne
            have : j[i]? = some (some cb) := by rw [List.getElem?_eq_getElem (by simpa using hi)]; rw [he]
            exact hne (hS.inj _ _ _ h this)
        · have hbound : (lo + i) * sz' + sz' ≤ n' * sz' := by
            have : (lo + i + 1) * sz' ≤ n' * sz' := Nat.mul_le_mul_right _ (by omega)
            rwa [Nat.succ_mul] at this
          have e3 : lo * sz' + i * sz' + k = (lo + i) * sz' + k := by rw [Nat.add_mul]
          rw [cell_of hC, e3]
          simp [Array.getD_eq_getD_getElem?, show (lo + i) * sz' + k < C.size by omega]
        · exact ((hrel (lo + i) (by omega)).2 k hk).unset
      · exact .undef _
    · simp [e']; exact .ms c e m (get_unset h e') hs hn hm
  | @ms0 b' sz' p h =>
    simp only [frzA]
    by_cases e' : b' = b
    · subst e'
      simp only [Nat.beq_refl, if_true]
      split
      · rename_i hc
        obtain ⟨rfl, hle⟩ := hc
        exact .d (.zero p 0 (.inl rfl) fun _ => rfl)
      · exact .undef _
    · simp [e']; exact .ms0 p (get_unset h e')
  | @mc b' sz' lo n c v h q hv ih =>
    simp only [frzA]
    by_cases e' : b' = b
    · simp [e']; exact .undef _
    · simp only [frzA, beq_ne e', Bool.false_eq_true, if_false] at ih ⊢
      exact .mc ih q hv
  | op h h0 ih => simp only [frzA]; exact .op (fun hb => by have := ih hb; simpa only [frzA] using this) h0
  | @msE b' sz' lo cb p e m h hs hlo hm =>
    simp only [frzA]
    by_cases e' : b' = b
    · subst e'
      simp only [Nat.beq_refl, if_true]
      split
      · rename_i hc
        obtain ⟨rfl, hle⟩ := hc
        exact .d (.zero p 0 (.inl rfl) fun _ => rfl)
      · exact .undef _
    · simp [e']; exact .msE p e m (get_unset h e') hs hlo hm
def frzT (b sz n' : Nat) (row : Nat → List D) (x : AV) : AV := if x.avoids [b] then x else frzA b sz n' row x
theorem R.unset {x : AV} {v : Value} (h : R w j x v) (ha : x.avoids [b] = true) : R w (j.set b none) x v := by
  induction h with
  | undef v => exact .undef v
  | iff h h0 ih => exact .iff (fun hb => ih hb (by simpa [AV.avoids, hb] using ha)) h0
  | d h => exact .d h.unset
  | agg vs hs h ih => exact .agg vs hs fun k hk => ih k hk (avoidsL_getD (by simpa [AV.avoids] using ha) hk)
  | tup vs hs h ih => exact .tup vs hs fun k hk => ih k hk (avoidsL_getD (by simpa [AV.avoids] using ha) hk)
  | ptr h => exact .ptr (get_unset h (by simpa [AV.avoids] using ha))
  | pe h => exact .pe (get_unset h (by simpa [AV.avoids] using ha))
  | el a val hs hlt hb hcell hrel => exact .el a val hs hlt (fun hm => hb (set_none_sub hm)) hcell fun k hk => (hrel k hk).unset
  | ms c e m h hs hn hm => exact .ms c e m (get_unset h (by simpa [AV.avoids] using ha)) hs hn hm
  | ms0 p h => exact .ms0 p (get_unset h (by simpa [AV.avoids] using ha))
  | mc h q hv ih => exact .mc (ih (by simpa [AV.avoids] using ha)) q hv
  | op h h0 ih => exact .op (fun hb => ih hb rfl) h0
  | msE p e m h hs hlo hm => exact .msE p e m (get_unset h (by simpa [AV.avoids] using ha)) hs hlo hm
  | mp h => exact .mp (get_unset h (by simpa [AV.avoids] using ha))
  | yld h => exact .yld (get_unset h (by simpa [AV.avoids] using ha))
  | @clo fn fs cs ff cc h1 h2 h3 h4 ih3 ih4 =>
    have hb : avoidsL [b] fs = true ∧ avoidsL [b] cs = true := by simpa [AV.avoids] using ha
    exact .clo ff cc h1 h2 (fun k hk => ih3 k hk (avoidsL_getD hb.1 hk)) (fun k hk => ih4 k hk (avoidsL_getD hb.2 hk))
theorem R.frzT (hS : RelS w j σ) (hb : σ[b]? = some (.arr sz n' row)) {x : AV} {v : Value} (h : R w j x v) : R w (j.set b none) (frzT b sz n' row x) v := by
  unfold Abs.frzT
  split
  · rename_i ha; exact h.unset ha
  · exact h.frz hS hb
def frzM (b sz n' : Nat) (row : Nat → List D) : List (Nat × AV) → List (Nat × AV)
  | [] => []
  | (k, v) :: t => (k, frzT b sz n' row v) :: frzM b sz n' row t
theorem frzM_get : ∀ {t : List (Nat × AV)} {k : Nat} {av : AV}, get (frzM b sz n' row t) k = some av → ∃ x, get t k = some x ∧ av = frzT b sz n' row x
  | [], k, av, h => by simp [frzM, get] at h
  | (q, u) :: t, k, av, h => by
    simp only [frzM, get] at h ⊢
    by_cases hq : q = k
    · simp [hq] at h ⊢; exact h.symm
    · simp only [beq_ne hq, Bool.false_eq_true, if_false] at h ⊢; exact frzM_get h
theorem frzM_mem : ∀ {t : List (Nat × AV)} {k : Nat} {av : AV}, (k, av) ∈ frzM b sz n' row t → ∃ x, (k, x) ∈ t ∧ av = frzT b sz n' row x
  | [], k, av, h => by simp [frzM] at h
  | (q, u) :: t, k, av, h => by
    simp only [frzM] at h
    rcases List.mem_cons.1 h with h | h
    · cases h; exact ⟨u, by simp, rfl⟩
    · obtain ⟨x, h1, h2⟩ := frzM_mem h
      exact ⟨x, List.mem_cons_of_mem _ h1, h2⟩
def frzB (b sz n' : Nat) (row : Nat → List D) : Blk → Blk
  | .var cs => .var (cs.map (frzT b sz n' row))
  | .lp L st pd => .lp { L with t := frzM b sz n' row L.t } st pd
  | x => x
theorem MapIs.unset {es : Array MapEntry} {cl : Nat} {d : Bool} {ks : List Key} {f : Key → AV} (h : MapIs w j es cl d ks f) : MapIs w (j.set b none) es cl d ks f :=
  ⟨h.stamped, h.keys, h.kind, h.free, fun e hm k hk => (h.rel e hm k hk).unset (free_avoids _ _ (h.free k))⟩
theorem IterIs.unset {mb : Nat} {es : Array MapEntry} {cl : Nat} {seen : Array Nat} {left : List Key} {cur : Option Key} {f : Key → AV} (h : IterIs w j mb es cl seen left cur f) : IterIs w (j.set b none) mb es cl seen left cur f :=
  ⟨h.lt, fun hm => h.own (set_none_sub hm), h.heap, h.stamped, h.keys, h.cur, h.free, fun e hm k hk => (h.rel e hm k hk).unset (free_avoids _ _ (h.free k))⟩
theorem RB.frz (hS : RelS w j σ) (hb : σ[b]? = some (.arr sz n' row)) {x : Blk} {o : Option Nat} (h : RB w j x o) : RB w (j.set b none) (frzB b sz n' row x) o := by
  cases x with
  | dead => simp [frzB, RB]
  | loc c =>
    obtain ⟨h1, h2, h3, m, h4⟩ := h
    exact ⟨h1, h2, fun hm => h3 (set_none_sub hm), m, h4⟩
  | tab c vs =>
    obtain ⟨h1, h2, h3, e, h4, h5⟩ := h
    exact ⟨h1, h2, fun hm => h3 (set_none_sub hm), e, h4, h5⟩
  | arr sz0 n0 row0 =>
    cases o with
    | none => exact h
    | some cb =>
      obtain ⟨C, e, h1, h2, h3⟩ := h
      exact ⟨C, e, h1, h2, fun i hi => ⟨(h3 i hi).1, fun k hk => ((h3 i hi).2 k hk).unset⟩⟩
  | lp L st pd =>
    cases o with
    | none => exact h
    | some cb =>
      obtain ⟨r, h1, h2, h3, h4⟩ := h
      refine ⟨r, h1, h2, h3, fun k av hk => ?_⟩
      obtain ⟨x, hx, rfl⟩ := frzM_mem hk
      exact ⟨(h4 k x hx).1, (h4 k x hx).2.frzT hS hb⟩
  | mp d ks f =>
    cases o with
    | none => exact h
    | some cb =>
      obtain ⟨es, cl, h1, h2⟩ := h
      exact ⟨es, cl, h1, h2.unset⟩
  | it left cur f =>
    cases o with
    | none => exact h
    | some cb =>
      obtain ⟨mb, es, cl, seen, h1, h2⟩ := h
      exact ⟨mb, es, cl, seen, h1, h2.unset⟩
  | var cs =>
    cases o with
    | none => exact h
    | some cb =>
      obtain ⟨C, e, h1, h2, h3⟩ := h
      refine ⟨C, e, h1, by simpa using h2, fun k hk => ?_⟩
      simp only [List.length_map] at hk
      have e1 : (cs.map (frzT b sz n' row)).getD k .undef = frzT b sz n' row (cs.getD k .undef) := by
        simp [List.getD_eq_getElem?_getD, hk]
      rw [e1]; exact (h3 k hk).frzT hS hb
def frzS (b sz n' : Nat) (row : Nat → List D) (σ : List Blk) : List Blk := (σ.map (frzB b sz n' row)).set b .dead
theorem RelS.frz (hS : RelS w j σ) (hb : σ[b]? = some (.arr sz n' row)) : RelS w (j.set b none) (frzS b sz n' row σ) where
  len := by simp [frzS, hS.len]
  lt c cb h := by
    rw [List.getElem?_set] at h
    split at h
    · split at h <;> simp at h
    · exact hS.lt c cb h
  inj c c' cb h h' := by
    rw [List.getElem?_set] at h h'
    split at h
    · split at h <;> simp at h
    · split at h'
      · split at h' <;> simp at h'
      · exact hS.inj c c' cb h h'
  blk c x h := by
    unfold frzS at h
    rw [List.getElem?_set] at h
    by_cases hc : b = c
    · subst hc
      simp only [if_true, List.length_map] at h
      split at h
      · rename_i hlt
        simp at h; subst h
        exact ⟨none, by rw [List.getElem?_set]; simp [hS.len, hlt], trivial⟩
      · simp at h
    · simp only [hc, if_false, List.getElem?_map, Option.map_eq_some_iff] at h
      obtain ⟨y, hy, rfl⟩ := h
      obtain ⟨o, ho, hB⟩ := hS.blk c y hy
      exact ⟨o, by rw [List.getElem?_set]; simp [hc, ho], hB.frz hS hb⟩
end
theorem awp_freeze {P : Program} {c : Code} {Q : Exit → St → Prop} {N : Nat} {t t' : List (Nat × AV)} {σ σ' : List Blk} {mv : List Nat} (b : Nat) {sz n' : Nat} {row : Nat → List D} (hb : σ[b]? = some (.arr sz n' row)) (ht : frzM b sz n' row t = t') (hσ : frzS b sz n' row σ = σ')
    (h : AWP P c Q ⟨N, t', σ', b :: mv⟩) : AWP P c Q ⟨N, t, σ, mv⟩ := by
  refine awp_sub (s' := ⟨N, t', σ', b :: mv⟩) ?_ h
  intro j0 j a w hr
  subst ht hσ
  have he : Ev j w (j.set b none) w := ⟨Nat.le_refl _, fun _ _ _ => rfl, fun c _ hm => set_none_sub hm, fun _ _ => rfl, fun _ _ => rfl, rfl, rfl, rfl, fun _ r h => ⟨r, h⟩⟩
  refine ⟨j.set b none, ⟨hr.defers.mono he, hr.rdok, hr.size, fun k av hk => ?_, hr.sto.frz hb, by simpa using hr.len0, fun c hc hn => ?_⟩, he⟩
  · obtain ⟨x, hx, rfl⟩ := frzM_get hk
    exact ⟨(hr.tmp k x hx).1, (hr.tmp k x hx).2.frzT hr.sto hb⟩
  · simp at hn
    rw [List.getElem?_set]
    rw [if_neg (fun e => hn.1 e.symm)]
    exact hr.ag c hc hn.2
theorem frzM_id {b sz n' : Nat} {row : Nat → List D} : ∀ {t : List (Nat × AV)}, (∀ k av, (k, av) ∈ t → av.avoids [b] = true) → frzM b sz n' row t = t
  | [], _ => rfl
  | (q, u) :: t, h => by
    simp only [frzM]
    rw [frzM_id fun k av hk => h k av (List.mem_cons_of_mem _ hk)]
    simp [frzT, h q u (by simp)]
theorem mem_del_self : ∀ {t : List (Nat × AV)} {k : Nat} {av : AV}, (k, av) ∉ Abs.del t k
  | [], k, av => by simp [Abs.del]
  | (q, u) :: t, k, av => by
    simp only [Abs.del]
    split
    · exact mem_del_self
    · rename_i h
      intro hm
      rcases List.mem_cons.1 hm with e | e
      · cases e; simp at h
      · exact mem_del_self e
theorem del_len : ∀ (t : List (Nat × AV)) (k : Nat), (Abs.del t k).length ≤ t.length
  | [], k => by simp [Abs.del]
  | (q, u) :: t, k => by
    simp only [Abs.del]
    split
    · have := del_len t k; simp; omega
    · have := del_len t k; simp; omega
theorem scrub_len (X : List Nat) : ∀ t : List (Nat × AV), (scrub' X t).length ≤ t.length
  | [] => by simp [scrub']
  | (q, u) :: t => by
    have := scrub_len X t
    simp only [scrub']
    split
    · simp; omega
    · have := del_len (scrub' X t) q; simp; omega
theorem scrub_fix {X : List Nat} : ∀ {t : List (Nat × AV)}, scrub' X t = t → ∀ k av, (k, av) ∈ t → av.avoids X = true
  | [], _, _, _, h => by simp at h
  | (q, u) :: t, h, k, av, hm => by
    simp only [scrub'] at h
    split at h
    · rename_i hu
      rcases List.mem_cons.1 hm with e | e
      · cases e; exact hu
      · exact scrub_fix (List.cons.inj h).2 k av e
    · have h1 := congrArg List.length h
      have h2 := del_len (scrub' X t) q
      have h3 := scrub_len X t
      simp at h1; omega
theorem WfS.frz {σ : List Blk} (h : WfS σ) (k sz n' : Nat) (row : Nat → List D) : σ.map (frzB (σ.length + k) sz n' row) = σ := by
  have hs := h.one k
  refine (List.map_congr_left fun x hx => ?_).trans (List.map_id _)
  have hx' : scrubV [σ.length + k] x = x := by
    obtain ⟨i, hi, he⟩ := List.mem_iff_getElem.1 hx
    have := congrArg (fun l => l[i]?) hs
    simp [hi] at this
    rw [← he]; exact this
  cases x with
  | var cs =>
    simp only [frzB, id, Blk.var.injEq]
    simp only [scrubV, Blk.var.injEq] at hx'
    refine (List.map_congr_left fun c hc => ?_).trans (List.map_id _)
    have : c.avoids [σ.length + k] = true := by
      obtain ⟨i, hi, he⟩ := List.mem_iff_getElem.1 hc
      have := congrArg (fun l => l[i]?) hx'
      simp [hi] at this
      rw [← he]
      by_cases ha : (cs[i]).avoids [σ.length + k] = true
      · exact ha
      · have := this (by simpa using ha)
        rw [← this]; rfl
    simp [frzT, this]
  | lp L st pd =>
    simp only [scrubV, Blk.lp.injEq] at hx'
    have h2 : scrub' [σ.length + k] L.t = L.t := congrArg LoopA.t hx'.1
    simp only [frzB, id]
    rw [frzM_id (scrub_fix h2)]
  | arr a c d => rfl
  | dead => rfl
  | loc c => rfl
  | tab c vs => rfl
  | mp d ks f => rfl
  | it left cur f => rfl
theorem WfS.frz0 {σ : List Blk} (h : WfS σ) (sz n' : Nat) (row : Nat → List D) : σ.map (frzB σ.length sz n' row) = σ := h.frz 0 sz n' row
theorem awp_thawT {P : Program} {c : Code} {Q : Exit → St → Prop} {N : Nat} {t t' : List (Nat × AV)} {σ : List Blk} {mv : List Nat} (k sz : Nat) (row : Nat → List D) (hk : get t k = some (.d (.v (.slice none 0 0)))) (ht : put t k (.ms σ.length sz 0 0) = t')
    (h : AWP P c Q ⟨N, t', σ ++ [.arr sz 0 row], mv⟩) : AWP P c Q ⟨N, t, σ, mv⟩ := by
  refine awp_sub (s' := ⟨N, t', σ ++ [.arr sz 0 row], mv⟩) ?_ h
  intro j0 j a w hr
  subst ht
  obtain ⟨h1, h2, h3⟩ := hr.sto.unmade (sz := sz) (rows := row) (p := none)
  refine ⟨j ++ [none], ⟨hr.defers.mono h3, hr.rdok, hr.size, fun q av hq => ?_, h1, by have := hr.len0; simp; omega, fun c hc hn => ?_⟩, h3⟩
  · simp only at hq
    rw [get_put] at hq
    split at hq
    · rename_i e
      subst e
      simp only [Option.some.injEq] at hq
      subst hq
      have := hr.tmp k _ hk
      refine ⟨this.1, ?_⟩
      have hv := R_v this.2
      rw [hv]; exact h2
    · exact ⟨(hr.tmp q av hq).1, (hr.tmp q av hq).2.mono0 h3 hr.sto.lt (ag_append _ _)⟩
  · have := hr.len0
    rw [List.getElem?_append_left (by omega)]; exact hr.ag c hc hn
theorem awp_thawV {P : Program} {c : Code} {Q : Exit → St → Prop} {N : Nat} {t : List (Nat × AV)} {σ σ' : List Blk} {mv : List Nat} (v sz : Nat) (row : Nat → List D) (hv : σ[v]? = some (.var [.d (.v (.slice none 0 0))])) (hσ : σ.set v (.var [.ms σ.length sz 0 0]) ++ [.arr sz 0 row] = σ')
    (h : AWP P c Q ⟨N, t, σ', mv⟩) : AWP P c Q ⟨N, t, σ, mv⟩ := by
  refine awp_sub (s' := ⟨N, t, σ', mv⟩) ?_ h
  intro j0 j a w hr
  subst hσ
  obtain ⟨h1, h2, h3⟩ := hr.sto.unmade (sz := sz) (rows := row) (p := none)
  have hvl : v < σ.length := (List.getElem?_eq_some_iff.1 hv).1
  refine ⟨j ++ [none], ⟨hr.defers.mono h3, hr.rdok, hr.size, fun q av hq => ⟨(hr.tmp q av hq).1, (hr.tmp q av hq).2.mono0 h3 hr.sto.lt (ag_append _ _)⟩, ⟨by simp [hr.sto.len], h1.lt, h1.inj, fun b x hx => ?_⟩, by have := hr.len0; simp; omega, fun c hc hn => ?_⟩, h3⟩
  · rw [← List.set_append_left _ _ hvl, List.getElem?_set] at hx
    split at hx
    · rename_i e
      subst e
      split at hx
      · simp only [Option.some.injEq] at hx
        subst hx
        obtain ⟨o, ho, hB⟩ := h1.blk v (.var [.d (.v (.slice none 0 0))]) (by rw [List.getElem?_append_left hvl]; exact hv)
        refine ⟨o, ho, ?_⟩
        cases o with
        | none => exact hB
        | some cb =>
          obtain ⟨C, e, g1, g2, g3⟩ := hB
          refine ⟨C, e, g1, g2, fun k hk => ?_⟩
          have hk0 : k = 0 := by simpa using hk
          subst hk0
          have h0 := R_v (show R w (j ++ [none]) (.d (.v (.slice none 0 0))) (C.getD 0 Go.undef) from g3 0 (by simp))
          simp only [List.getD_cons_zero]
          rw [h0]; exact h2
      · simp at hx
    · exact h1.blk b x hx
  · have := hr.len0
    rw [List.getElem?_append_left (by omega)]; exact hr.ag c hc hn
theorem CS.of_bodyW {P : Program} {f : FuncId} {fn : Func} {c : Code} {args : List AV} {σ : List Blk} {Q : AV → List Blk → List Nat → Prop} (hen : entersB P f = true) (hf : P.funcs[f]? = some fn) (hb : fn.body = some c) (hN : args.length ≤ fn.ntmps)
    (h : WfS σ → AWP P c (retPost P fn Q) (St.init fn.ntmps args σ)) : CS P f args σ Q :=
  ⟨hen, fun j w vs hs hr => (CS.of_body hen hf hb hN (h hs.wf)).2 j w vs hs hr⟩
attribute [go_sem ↓] retPost
def under1 (n : Nat) : Blk → Prop
  | .var cs => underL n cs
  | .arr _ _ _ => True
  | .dead => True
  | .loc _ => True
  | .tab _ _ => True
  | .mp _ _ _ => True
  | .it _ _ _ => True
  | .lp L _ _ => ∀ k av, (k, av) ∈ L.t → av.under n
def leavesL (n : Nat) : List Blk → List Blk → Prop
  | [], [] => True
  | x :: xs, y :: ys => (x = y ∨ under1 n y) ∧ leavesL n xs ys
  | _, _ => False
theorem under1_blk {n : Nat} {y : Blk} (h : under1 n y) : blkUnder n y := by
  cases y with
  | var cs => exact fun k hk => underL_getD h hk
  | arr a b c => trivial
  | dead => trivial
  | loc c => trivial
  | tab c vs => trivial
  | mp d ks f => trivial
  | it left cur f => trivial
  | lp L st pd => exact h
theorem leavesL_spec {n : Nat} : ∀ {xs ys : List Blk}, leavesL n xs ys → ys.length = xs.length ∧ ∀ (k : Nat) y, ys[k]? = some y → xs[k]? = some y ∨ blkUnder n y
  | [], [], _ => ⟨rfl, by simp⟩
  | x :: xs, y :: ys, h => by
    obtain ⟨h1, h2⟩ := leavesL_spec h.2
    refine ⟨by simp [h1], fun k z hz => ?_⟩
    cases k with
    | zero =>
      simp only [List.getElem?_cons_zero, Option.some.injEq] at hz ⊢
      subst hz
      rcases h.1 with e | e
      · exact .inl e
      · exact .inr (under1_blk e)
    | succ k => simpa using h2 k z (by simpa using hz)
  | [], _ :: _, h => h.elim
  | _ :: _, [], h => h.elim
theorem leaves_app {σ xs ys : List Blk} (h : leavesL (σ.length + xs.length) xs ys) : Leaves (σ ++ xs) (σ ++ ys) := by
  obtain ⟨h1, h2⟩ := leavesL_spec h
  refine ⟨by simp [h1], fun b x hx => ?_⟩
  rw [List.getElem?_append] at hx ⊢
  split at hx
  · rename_i hb; rw [if_pos hb]; exact .inl hx
  · rename_i hb
    rw [if_neg hb]
    rcases h2 _ _ hx with e | e
    · exact .inl e
    · exact .inr (.inl (by simpa using e))
theorem leavesL_refl (n : Nat) : ∀ xs : List Blk, leavesL n xs xs = True
  | [] => rfl
  | x :: xs => by simp [leavesL, leavesL_refl n xs]
attribute [go_sem] leavesL under1 leavesL_refl
theorem sub_shrink {N : Nat} {t : List (Nat × AV)} {σ σ' : List Blk} {mv : List Nat} (b n' : Nat) {sz n : Nat} {row : Nat → List D} (row' : Nat → List D) (hb : σ[b]? = some (.arr sz n row)) (hn : n' ≤ n) (hr : ∀ i, i < n' → row i = row' i) (hσ : σ.set b (.arr sz n' row') = σ') : Sub ⟨N, t, σ, mv⟩ ⟨N, t, σ', mv⟩ := by
  intro j0 j a w h
  subst hσ
  refine ⟨j, ⟨h.defers, h.rdok, h.size, h.tmp, ⟨by simp [h.sto.len], h.sto.lt, h.sto.inj, fun c x hx => ?_⟩, h.len0, h.ag⟩, .refl _ _⟩
  simp only at hx
  rw [List.getElem?_set] at hx
  split at hx
  · rename_i e
    subst e
    split at hx
    · simp only [Option.some.injEq] at hx
      subst hx
      obtain ⟨o, ho, hB⟩ := h.sto.blk b _ hb
      refine ⟨o, ho, ?_⟩
      cases o with
      | none =>
        have : n = 0 := hB
        show n' = 0
        omega
      | some cb =>
        obtain ⟨C, e, g1, g2, g3⟩ := hB
        have hm : n' * sz ≤ n * sz := Nat.mul_le_mul_right _ hn
        exact ⟨C, e, g1, by omega, fun i hi => by rw [← hr i hi]; exact g3 i (by omega)⟩
    · simp at hx
  · exact h.sto.blk c x hx
theorem sub_rows {N : Nat} {t : List (Nat × AV)} {σ σ' : List Blk} {mv : List Nat} (b : Nat) {sz n : Nat} {row : Nat → List D} (row' : Nat → List D) (hb : σ[b]? = some (.arr sz n row)) (hr : ∀ i, i < n → row i = row' i) (hσ : σ.set b (.arr sz n row') = σ') : Sub ⟨N, t, σ, mv⟩ ⟨N, t, σ', mv⟩ :=
  sub_shrink b n row' hb (Nat.le_refl _) hr hσ
theorem awp_shrink {P : Program} {c : Code} {Q : Exit → St → Prop} {N : Nat} {t : List (Nat × AV)} {σ σ' : List Blk} {mv : List Nat} (b n' : Nat) {sz n : Nat} {row : Nat → List D} (row' : Nat → List D) (hb : σ[b]? = some (.arr sz n row)) (hn : n' ≤ n) (hr : ∀ i, i < n' → row i = row' i) (hσ : σ.set b (.arr sz n' row') = σ')
    (h : AWP P c Q ⟨N, t, σ', mv⟩) : AWP P c Q ⟨N, t, σ, mv⟩ := awp_sub (sub_shrink b n' row' hb hn hr hσ) h
theorem awp_rows {P : Program} {c : Code} {Q : Exit → St → Prop} {N : Nat} {t : List (Nat × AV)} {σ σ' : List Blk} {mv : List Nat} (b : Nat) {sz n : Nat} {row : Nat → List D} (row' : Nat → List D) (hb : σ[b]? = some (.arr sz n row)) (hr : ∀ i, i < n → row i = row' i) (hσ : σ.set b (.arr sz n row') = σ')
    (h : AWP P c Q ⟨N, t, σ', mv⟩) : AWP P c Q ⟨N, t, σ, mv⟩ := awp_sub (sub_rows b row' hb hr hσ) h
theorem catRows_zero (row rows : Nat → List D) : catRows 0 row rows = rows := by funext i; simp [catRows]
attribute [go_sem] catRows_zero rep asDs allOneD oneD
theorem cat_nth {α : Type} [Inhabited α] {enc : α → List D} {l : List α} {x : α} {ds : List D} {sz : Nat} (h : ds.take sz = enc x) {i : Nat} (hi : i < l.length + 1) : catRows l.length (fun i => enc (nth l i)) (rowsOf sz ds) i = enc (nth (l ++ [x]) i) := by
  unfold catRows
  split
  · rename_i h1; simp [nth, List.getElem?_append_left h1]
  · rename_i h1
    have : i = l.length := by omega
    subst this
    simp [rowsOf, nth, h]
theorem set_nth {α : Type} [Inhabited α] {enc : α → List D} {l : List α} {x : α} {k : Nat} {ds : List D} (h : ds = enc x) {i : Nat} (hi : i < l.length) : (if i = k then ds else enc (nth l i)) = enc (nth (l.set k x) i) := by
  by_cases e : i = k
  · subst e; simp [nth, hi, h]
  · simp [e, nth, List.getElem?_set, Ne.symm e]
theorem rowsOf_zero (sz : Nat) (ds : List D) : rowsOf sz ds 0 = ds.take sz := by simp [rowsOf]
attribute [go_sem] scrub' scrubV rowsOf_zero
attribute [go_sem] frzM frzS frzB frzT frzA frzL AV.avoids avoidsL
end Go.Abs

/-! Oa -/
namespace Go.Abs
open Go.ChangeShapes Go.WideShapes Go.ChangeAt Go.RowKit Go.Deep
set_option linter.unusedVariables false
set_option linter.unusedSimpArgs false
def RDs (w : World) (ds : List D) (cs : List Value) : Prop := cs.length = ds.length ∧ ∀ k, k < ds.length → RD w [] (ds.getD k default) (cs.getD k Go.undef)
theorem RDs.nil (w : World) : RDs w [] [] := ⟨rfl, by simp⟩
theorem RDs.append {w : World} {a b : List D} {c e : List Value} (h : RDs w a c) (k : RDs w b e) : RDs w (a ++ b) (c ++ e) := by
  refine ⟨by simp [h.1, k.1], fun i hi => ?_⟩
  rcases Nat.lt_or_ge i a.length with hl | hl
  · have := h.2 i hl
    rw [List.getD_eq_getElem?_getD, List.getD_eq_getElem?_getD, List.getElem?_append_left hl, List.getElem?_append_left (by rw [h.1]; exact hl)]
    rwa [List.getD_eq_getElem?_getD, List.getD_eq_getElem?_getD] at this
  · have := k.2 (i - a.length) (by simp at hi; omega)
    rw [List.getD_eq_getElem?_getD, List.getD_eq_getElem?_getD, List.getElem?_append_right hl, List.getElem?_append_right (by rw [h.1]; exact hl), h.1]
    rwa [List.getD_eq_getElem?_getD, List.getD_eq_getElem?_getD] at this
theorem RDs.one {w : World} {d : D} {c : Value} (h : RD w [] d c) : RDs w [d] [c] := ⟨rfl, fun k hk => by
  have : k = 0 := by simpa using hk
  subst this; exact h⟩
def Opn (P : Program) (t : TypeId) (g : List D → Prop) : Prop :=
  ∀ (H : Type) (enc : TypeId × Value → H) (w : World) (base : Nat) (spare : Nat → Bool) (held : Bool) (fuel : Nat) (cs : List Value) (x : DataW H × List MemPlace), DataW.trod enc P w base spare held fuel t cs = some x → ∃ ds, g ds ∧ RDs w ds cs
section
variable {P : Program} {t : TypeId}
theorem Opn.mono {g g' : List D → Prop} (h : Opn P t g) (hg : ∀ ds, g ds → g' ds) : Opn P t g' := fun H enc w base spare held fuel cs x hx =>
  let ⟨ds, h1, h2⟩ := h H enc w base spare held fuel cs x hx
  ⟨ds, hg ds h1, h2⟩
theorem opn_int {k : IntKind} (ht : P.underlying t = some (.int k)) : Opn P t fun ds => ∃ n, ds = [.v (.int k n)] ∧ (Lit.int k n).wf = true := by
  intro H enc w base spare held fuel cs x hx
  obtain ⟨n, rfl, _, hw⟩ := DataW.trod_int ht hx
  exact ⟨_, ⟨n, rfl, hw⟩, .one (.v _)⟩
theorem opn_bool (ht : P.underlying t = some .bool) : Opn P t fun ds => ∃ b, ds = [.v (.bool b)] := by
  intro H enc w base spare held fuel cs x hx
  obtain ⟨n, rfl, _⟩ := DataW.trod_bool ht hx
  exact ⟨_, ⟨n, rfl⟩, .one (.v _)⟩
theorem opn_string (ht : P.underlying t = some .string) : Opn P t fun ds => ∃ s : ByteArray, ds = [.v (.string s)] ∧ s.size ≤ maxLen := by
  intro H enc w base spare held fuel cs x hx
  obtain ⟨n, rfl, _, hw⟩ := DataW.trod_string ht hx
  exact ⟨_, ⟨n, rfl, hw⟩, .one (.v _)⟩
def Goods : List (List D → Prop) → List D → Prop
  | [], ds => ds = []
  | g :: gs, ds => ∃ a b, ds = a ++ b ∧ g a ∧ Goods gs b
def fieldsAt (P : Program) (tot : Nat) : Nat → List Field → Bool
  | off, [] => Nat.beq off tot
  | off, f :: fs => Nat.beq f.offset off && fieldsAt P tot (off + P.cellsOf f.type) fs
inductive All2 {α β : Type} (r : α → β → Prop) : List α → List β → Prop
  | nil : All2 r [] []
  | cons {a : α} {b : β} {as0 : List α} {bs : List β} (h : r a b) (t : All2 r as0 bs) : All2 r (a :: as0) (b :: bs)
theorem fieldsAt_le {tot : Nat} : ∀ {fs : List Field} {off : Nat}, fieldsAt P tot off fs = true → off ≤ tot
  | [], off, h => by have := Nat.eq_of_beq_eq_true h; omega
  | f :: fs, off, h => by
    simp [fieldsAt] at h
    have := fieldsAt_le h.2
    omega
theorem opn_fields {H : Type} {enc : TypeId × Value → H} {w : World} {base : Nat} {spare : Nat → Bool} {held : Bool} {fuel : Nat} {cs : List Value} :
    ∀ {fs : List Field} {gs : List (List D → Prop)} {off : Nat}, All2 (fun f g => Opn P f.type g) fs gs → fieldsAt P cs.length off fs = true →
      (∀ f ∈ fs, ∃ y, DataW.trod enc P w base spare held fuel f.type ((cs.drop f.offset).take (P.cellsOf f.type)) = some y) → ∃ ds, Goods gs ds ∧ RDs w ds (cs.drop off)
  | [], _, off, .nil, hf, _ => by
    have := Nat.eq_of_beq_eq_true hf
    refine ⟨[], rfl, ?_⟩
    rw [List.drop_eq_nil_of_le (by omega)]
    exact .nil w
  | f :: fs, _, off, .cons h hs, hf, hy => by
    simp [fieldsAt] at hf
    obtain ⟨h1, h2⟩ := hf
    have hle := fieldsAt_le h2
    obtain ⟨y, hy0⟩ := hy f (by simp)
    obtain ⟨a, ga, ra⟩ := h _ _ _ _ _ _ _ _ _ hy0
    obtain ⟨b, gb, rb⟩ := opn_fields hs h2 fun f' hf' => hy f' (List.mem_cons_of_mem _ hf')
    refine ⟨a ++ b, ⟨a, b, rfl, ga, gb⟩, ?_⟩
    have := ra.append rb
    rwa [h1, ← List.drop_drop, List.take_append_drop] at this
theorem opn_struct {fs : Array Field} {gs : List (List D → Prop)} (ht : P.underlying t = some (.struct fs)) (hat : fieldsAt P (P.cellsOf t) 0 fs.toList = true) (h : All2 (fun f g => Opn P f.type g) fs.toList gs) : Opn P t (Goods gs) := by
  intro H enc w base spare held fuel cs x hx
  obtain ⟨xs, n, _, _, hlen, hxl, hf⟩ := DataW.trod_struct ht hx
  rw [← hlen] at hat
  have := opn_fields (H := H) (enc := enc) (w := w) (base := base) (spare := spare) (held := held) (fuel := n) (cs := cs) (off := 0) h hat ?_
  · simpa using this
  intro f hm
  obtain ⟨i, hi⟩ := List.getElem?_of_mem hm
  have hi' : fs[i]? = some f := by simpa using hi
  have hlt : i < xs.length := by rw [hxl]; exact (Array.getElem?_eq_some_iff.1 hi').1
  exact ⟨xs[i], (hf i f hi').trans (List.getElem?_eq_getElem hlt)⟩
theorem opn_elems {H : Type} {enc : TypeId × Value → H} {w : World} {base : Nat} {spare : Nat → Bool} {held : Bool} {fuel : Nat} {cs : List Value} {e : TypeId} {g : List D → Prop} (h : Opn P e g) :
    ∀ (n i : Nat), cs.length = (i + n) * P.cellsOf e → (∀ k, i ≤ k → k < i + n → ∃ y, DataW.trod enc P w base spare held fuel e ((cs.drop (k * P.cellsOf e)).take (P.cellsOf e)) = some y) → ∃ ds, Goods (List.replicate n g) ds ∧ RDs w ds (cs.drop (i * P.cellsOf e))
  | 0, i, hl, _ => by
    refine ⟨[], rfl, ?_⟩
    rw [List.drop_eq_nil_of_le (by simp at hl; omega)]
    exact .nil w
  | n + 1, i, hl, hy => by
    obtain ⟨y, hy0⟩ := hy i (Nat.le_refl _) (by omega)
    obtain ⟨a, ga, ra⟩ := h _ _ _ _ _ _ _ _ _ hy0
    obtain ⟨b, gb, rb⟩ := opn_elems h n (i + 1) (by rw [hl]; congr 1; omega) fun k hk hk' => hy k (by omega) (by omega)
    refine ⟨a ++ b, ⟨a, b, rfl, ga, gb⟩, ?_⟩
    have := ra.append rb
    rwa [show (i + 1) * P.cellsOf e = i * P.cellsOf e + P.cellsOf e from Nat.succ_mul _ _, ← List.drop_drop, List.take_append_drop] at this
theorem opn_array {n : Nat} {e : TypeId} {g : List D → Prop} (ht : P.underlying t = some (.array n e)) (hc : P.cellsOf t = n * P.cellsOf e) (h : Opn P e g) : Opn P t (Goods (List.replicate n g)) := by
  intro H enc w base spare held fuel cs x hx
  obtain ⟨xs, m, _, _, hlen, hxl, hf⟩ := DataW.trod_array ht hx
  have := opn_elems (cs := cs) (w := w) (enc := enc) (base := base) (spare := spare) (held := held) (fuel := m) h n 0 (by rw [hlen, hc]; simp) fun k _ hk => ⟨xs[k]'(by omega), (hf k (by omega)).trans (List.getElem?_eq_getElem (by omega))⟩
  simpa using this
theorem add_none (b off n : Nat) : (⟨b, off, none⟩ : Addr).add n = ⟨b, off + n, none⟩ := by
  unfold Addr.add
  split <;> simp_all
theorem opn_slice {e : TypeId} {g : List D → Prop} {sz : Nat} (d0 : List D) (ht : P.underlying t = some (.slice e)) (hC : P.cellsOf e = sz) (hsz : 0 < sz) (h : Opn P e g) (h0 : g d0) : Opn P t fun ds => ∃ n row, ds = [.sl none sz n row] ∧ n ≤ maxLen ∧ ∀ i, g (row i) := by
  intro H enc w base spare held fuel cs x hx
  rcases open_slice ht hx with ⟨rfl, _⟩ | ⟨a, len, cap, m, n, DD, Pl, rfl, hb, hl, hm, hmm, _, hi⟩
  · exact ⟨_, ⟨0, fun _ => d0, rfl, by simp, fun _ => h0⟩, .one (.zero none 0 (.inl rfl) fun _ => rfl)⟩
  · have hml : len ≤ m := by rw [hmm]; split <;> omega
    have key : ∀ i, ∃ ds, g ds ∧ (i < len → ∃ cs', cs'.length = sz ∧ (∀ k, k < sz → w.cell? (a.add (i * sz + k)) = some (cs'.getD k Go.undef)) ∧ RDs w ds cs') := by
      intro i
      by_cases hil : i < len
      · obtain ⟨cs', h1, h2⟩ := hi i (by omega)
        rw [hC] at h1
        obtain ⟨_, hcl, hat⟩ := World.cells?_some h1
        obtain ⟨ds, g1, g2⟩ := h _ _ _ _ _ _ _ _ _ h2
        refine ⟨ds, g1, fun _ => ⟨cs', hcl, fun k hk => ?_, g2⟩⟩
        have := hat k hk
        rw [← Go.Deep.add_add, this, List.getD_eq_getElem?_getD, List.getElem?_eq_getElem (by omega)]
        rfl
      · exact ⟨d0, h0, fun hh => absurd hh hil⟩
    obtain ⟨row, hgr⟩ : ∃ row : Nat → List Abs.D, ∀ i, g (row i) ∧ (i < len → ∃ cs', cs'.length = sz ∧ (∀ k, k < sz → w.cell? (a.add (i * sz + k)) = some (cs'.getD k Go.undef)) ∧ RDs w (row i) cs') := ⟨fun i => (key i).choose, fun i => (key i).choose_spec⟩
    have hg := fun i => (hgr i).1
    have hrow := fun i => (hgr i).2
    refine ⟨_, ⟨len, row, rfl, by omega, hg⟩, .one ?_⟩
    rcases Nat.eq_zero_or_pos len with hz | hp
    · subst hz
      exact .zero (some a) cap (.inl rfl) (by simp)
    · have hcell : ∀ i, i < len → ∃ cs', cs'.length = sz ∧ (∀ k, k < sz → w.cell? (a.add (i * sz + k)) = some (cs'.getD k Go.undef)) ∧ RDs w (row i) cs' := fun i hi => hrow i hi
      obtain ⟨c0, _, hc0, _⟩ := hcell 0 hp
      have h00 := hc0 0 hsz
      obtain ⟨b, off, spot⟩ := a
      have hspot : spot = none := by simpa [Addr.add] using World.cell?_spot h00
      subst hspot
      have hlt : b < w.heap.size := by
        rcases Nat.lt_or_ge b w.heap.size with hlt | hge
        · exact hlt
        · simp [World.cell?, Addr.add, hge] at h00
      refine .sl ⟨b, off, none⟩ cap (fun i k => (w.cell? ⟨b, off + i * sz + k, none⟩).getD Go.undef) (.inl rfl) hl rfl hlt (by simp) (fun i hi => ?_) (fun i hi k hk => ?_) (fun i hi k hk => ?_)
      · obtain ⟨c, k1, k2, k3⟩ := hcell i hi
        rw [← k3.1, k1]
      · obtain ⟨c, k1, k2, k3⟩ := hcell i hi
        have := k2 k hk
        rw [add_none] at this
        rw [Nat.add_assoc]
        rw [this]; rfl
      · obtain ⟨c, k1, k2, k3⟩ := hcell i hi
        have := k2 k hk
        rw [add_none] at this
        rw [Nat.add_assoc, this]
        exact k3.2 k (by rw [← k3.1, k1]; exact hk)
end
/-! arguments -/
section
variable {P : Program} {t : TypeId} {H : Type} {enc : TypeId × Value → H} {w : World} {base : Nat} {spare : Nat → Bool} {held : Bool} {v : Value} {d : DataW H} {p : List MemPlace} {r : Reach} {b0 : Nat} {g : List D → Prop}
theorem arg_agg (h : Opn P t g) (hv : ∃ cs, v = .agg cs) (hd : DataW.Trod enc P w base spare held t v d p) : ∃ ds, g ds ∧ R w [] (.agg (ds.map .d)) v := by
  obtain ⟨cs, rfl⟩ := hv
  obtain ⟨fuel, hf⟩ := hd
  obtain ⟨ds, h1, h2⟩ := h _ _ _ _ _ _ _ _ _ hf
  refine ⟨ds, h1, .agg cs (by have := h2.1; simpa [Value.cells] using this) fun k hk => ?_⟩
  have hk' : k < ds.length := by simpa using hk
  have := h2.2 k hk'
  have e1 : (ds.map AV.d).getD k .undef = AV.d (ds.getD k default) := by simp [List.getD_eq_getElem?_getD, hk']
  rw [e1]
  refine .d ?_
  simpa [Value.cells, Array.getD_eq_getD_getElem?, List.getD_eq_getElem?_getD] using this
theorem arg_struct {x : Array Field} (hs : P.underlying t = some (.struct x)) (h : Opn P t g) (hv : Value.okWide P w r b0 t v) (hd : DataW.Trod enc P w base spare held t v d p) : ∃ ds, g ds ∧ R w [] (.agg (ds.map .d)) v := by
  obtain ⟨cs, rfl, _⟩ := okWide_struct hs hv
  exact arg_agg h ⟨cs, rfl⟩ hd
theorem arg_array {n : Nat} {e : TypeId} (hs : P.underlying t = some (.array n e)) (h : Opn P t g) (hv : Value.okWide P w r b0 t v) (hd : DataW.Trod enc P w base spare held t v d p) : ∃ ds, g ds ∧ R w [] (.agg (ds.map .d)) v := by
  have hv' : ∃ cs, v = .agg cs ∧ cs.size = P.cellsOf t ∧ Row.okWide P w r b0 t cs := by
    unfold Value.okWide at hv
    rw [hs] at hv
    exact hv
  obtain ⟨cs, rfl, _⟩ := hv'
  exact arg_agg h ⟨cs, rfl⟩ hd
theorem arg_one (hc : v.cells = #[v]) {x : D → Prop} (h : Opn P t fun ds => ∃ y, ds = [y] ∧ x y) (hd : DataW.Trod enc P w base spare held t v d p) : ∃ y, x y ∧ R w [] (.d y) v := by
  obtain ⟨fuel, hf⟩ := hd
  rw [hc] at hf
  obtain ⟨ds, ⟨y, rfl, hx⟩, h2⟩ := h _ _ _ _ _ _ _ _ _ hf
  exact ⟨y, hx, .d (h2.2 0 (by simp))⟩
theorem arg_int {k : IntKind} (ht : P.underlying t = some (.int k)) (hv : Value.okWide P w r b0 t v) (hd : DataW.Trod enc P w base spare held t v d p) : ∃ n, (Lit.int k n).wf = true ∧ R w [] (.d (.v (.int k n))) v := by
  obtain ⟨n, rfl, _, _, hw⟩ := open_int ht hv hd
  exact ⟨n, hw, .d (.v _)⟩
theorem arg_bool (ht : P.underlying t = some .bool) (hv : Value.okWide P w r b0 t v) (hd : DataW.Trod enc P w base spare held t v d p) : ∃ b, R w [] (.d (.v (.bool b))) v := by
  obtain ⟨b, rfl, _⟩ := open_bool ht hv hd
  exact ⟨b, .d (.v _)⟩
theorem arg_slice {e : TypeId} {x : D → Prop} (ht : P.underlying t = some (.slice e)) (h : Opn P t fun ds => ∃ y, ds = [y] ∧ x y) (hv : Value.okWide P w r b0 t v) (hd : DataW.Trod enc P w base spare held t v d p) : ∃ y, x y ∧ R w [] (.d y) v := by
  obtain ⟨a, len, cap, rfl⟩ := okWide_slice ht hv
  exact arg_one rfl h hd
theorem arg_string (ht : P.underlying t = some .string) (hv : Value.okWide P w r b0 t v) (hd : DataW.Trod enc P w base spare held t v d p) : ∃ s : ByteArray, s.size ≤ maxLen ∧ R w [] (.d (.v (.string s))) v := by
  obtain ⟨s, rfl, _, _, hw⟩ := Go.ChangeMaps.open_string ht hv hd
  exact ⟨s, hw, .d (.v _)⟩
end
theorem rs_nil (w : World) : Rs w [] [] #[] := ⟨rfl, by simp⟩
theorem Rs.of_list {w : World} {avs : List AV} {vs : List Value} (hl : vs.length = avs.length) (h : ∀ k, k < avs.length → R w [] (avs.getD k .undef) (vs.getD k Go.undef)) : Rs w [] avs vs.toArray :=
  ⟨by simpa using hl, fun k hk => by simpa [Array.getD_eq_getD_getElem?, List.getD_eq_getElem?_getD] using h k hk⟩
theorem Rs.cons {w : World} {x : AV} {v : Value} {xs : List AV} {vs : List Value} (h : R w [] x v) (t : Rs w [] xs vs.toArray) : Rs w [] (x :: xs) (v :: vs).toArray :=
  ⟨by have := t.1; simpa using this, fun k hk => by
    cases k with
    | zero => simpa using h
    | succ k => have := t.2 k (by simpa using hk); simpa using this⟩
theorem law_calls {P : Program} {f : FuncId} {avs : List AV} {args : Array Value} {w : World} (h : CSF P f avs [] (.d (.v (.bool true)))) (hr : Rs w [] avs args) : Calls P f args w fun e w' => e = .returned (.bool true) ∧ Below w.heap.size w w' := by
  refine (h.2 [] w args ⟨rfl, by simp, by simp, by simp⟩ hr).mono ?_
  rintro e w' ⟨v, r, σ', j', X, rfl, h1, h2, h3, h4, h5, rfl, rfl, rfl⟩
  cases h2 with
  | d h2 =>
    cases h2
    exact ⟨rfl, ⟨h3.os, h3.tape, h3.output, h3.size, fun k hk => h3.keep k hk (by simp)⟩⟩
end Go.Abs

/-! Axl -/
namespace Go.Abs
set_option linter.unusedVariables false
set_option linter.unusedSimpArgs false
def isSt (o : Oper) : Bool := match o.op, o.guard, o.dst with
  | .store _ _ _, none, none => true
  | _, _, _ => false
def lateOk (ops : List Oper) (m ist : Nat) : Bool :=
  Nat.blt ist m && (match ops[ist]? with
    | some o => isSt o && (List.range m).all (fun q => Nat.ble q ist || (match ops[q]? with
        | some oq => (match oq.dst with
          | some d => !(looks ops o).contains d
          | none => true)
        | none => true))
    | none => false)
def lateA (P : Program) (ops : List Oper) (ist : Nat) (s : St) (K : List Blk → Prop) : Prop :=
  match nthOp ops ist with
  | some os => (match os.op with
    | .store t' p v => arg true s p fun pv => arg true s v fun av => (match tyA P t' with
      | some (_, m) => allOne (cellsOf av) = true ∧ (cellsOf av).length = m ∧ (match storeBlk s.σ pv (cellsOf av) with
        | some (c, σ2) => c ∧ K σ2
        | none => False)
      | none => False)
    | _ => False)
  | none => False
def cur (ist : Nat) (σ σ2 : List Blk) (listed : Array Bool) : List Blk := if listed.getD ist false then σ2 else σ
structure InvL (s : St) (ops : List Oper) (m ist : Nat) (σ2 : List Blk) (t1 : List (Nat × AV)) (j0 : J0) (listed : Array Bool) (j : Js) (a : Act) (w : World) : Prop where
  defers : Marks j0.n0 w j a.defers
  rdok : ∀ l, j0.rd = some l → ∃ r, w.heap[l]? = some (.loop r)
  size : a.tmps.size = s.N
  sto : RelS w j (cur ist s.σ σ2 listed)
  len0 : j0.js.length ≤ j.length
  ag : Ag j0.js j s.mv
  lsize : listed.size = ops.length
  lB : ∀ k, m ≤ k → k < ops.length → ∀ b, listed.getD k b = false
  cl : ∀ q oq, q < m → ops[q]? = some oq → listed.getD q true = true → ∀ e ∈ oq.after, Region.binds .any e = true → listed.getD e.on false = true
  c1 : ∀ q oq k av, q < m → ops[q]? = some oq → oq.dst = some k → listed.getD q true = true → get t1 k = some av → k < s.N ∧ R w j av (a.tmps.getD k Go.undef)
  c2 : ∀ k av, (∀ q oq, q < m → ops[q]? = some oq → oq.dst = some k → listed.getD q true = false) → get s.t k = some av → k < s.N ∧ R w j av (a.tmps.getD k Go.undef)
section
variable {P : Program} {ops : List Oper} {m ist : Nat}
structure PureL (P : Program) (s : St) (ops : List Oper) (m ist : Nat) (σ2 : List Blk) (t1 : List (Nat × AV)) : Prop where
  at_ : ∀ listed : Array Bool, ∃ xs : Nat → AV, (stAt s (ops.take m) xs m).t = t1 ∧
    ∀ i o, i < m → ops[i]? = some o → i ≠ ist → Local P ops o ⟨s.N, (stAt s (ops.take m) xs i).t, cur ist s.σ σ2 listed, s.mv⟩ (xs i)
theorem stAt_sto (s : St) (σ' : List Blk) (os : List Oper) (xs : Nat → AV) : ∀ i, stAt ⟨s.N, s.t, σ', s.mv⟩ os xs i = ⟨s.N, (stAt s os xs i).t, σ', s.mv⟩
  | 0 => rfl
  | i + 1 => by
    simp only [stAt, stAt_sto s σ' os xs i]
    have hf := stAt_fields s os xs i
    split
    · rename_i o _
      cases o.dst with
      | none => rfl
      | some d =>
        simp only [St.put, hf.1]
        split <;> rfl
    · rfl
theorem InvL.looks_rel (hok : drawOk ops m = true) (hmn : m ≤ ops.length) {s : St} {σ2 : List Blk} {t1 : List (Nat × AV)} {j0 : J0} {listed : Array Bool} {j : Js} {a : Act} {w : World}
    (hI : InvL s ops m ist σ2 t1 j0 listed j a w) {xs : Nat → AV} (hxs : (stAt s (ops.take m) xs m).t = t1) {i : Nat} {o : Oper} (him : i < m) (ho : ops[i]? = some o) (h0 : listed.getD i true = false)
    (hall : ∀ e ∈ o.after, Region.binds .any e = true → listed.getD e.on false = true) {k : Nat} {av : AV} (hkl : k ∈ looks ops o) (hk : get (stAt s (ops.take m) xs i).t k = some av) : k < s.N ∧ R w j av (a.tmps.getD k Go.undef) := by
  have hokA := okA_spec ((drawOk_spec hok ho).2.1 him)
  have hil : i < ops.length := by omega
  by_cases hw : ∃ q oq, q < i ∧ ops[q]? = some oq ∧ oq.dst = some k
  · obtain ⟨q, oq, hq, hqo, hqd⟩ := hw
    have hdep := (hokA.1 k hkl q oq hqo hqd).1 hq
    obtain ⟨e, he1, he2, he3⟩ := depB_spec hdep
    have hlq := hall e he1 he3
    rw [he2, getD_tf hI.lsize (by omega)] at hlq
    rw [get_writ hok hmn (by omega) hqo hqd hq (by omega)] at hk
    have hk1 : get t1 k = some av := by
      rw [← hxs, get_writ hok hmn (by omega) hqo hqd (by omega) (Nat.le_refl _)]; exact hk
    exact hI.c1 q oq k av (by omega) hqo hqd hlq hk1
  · rw [get_unwrit (by omega) hw] at hk
    refine hI.c2 k av (fun q oq h1 h2 h3 => ?_) hk
    rcases Nat.lt_trichotomy q i with h | h | h
    · exact absurd ⟨q, oq, h, h2, h3⟩ hw
    · subst h; exact h0
    · have hdep := (hokA.1 k hkl q oq h2 h3).2 h
      obtain ⟨e, he1, he2, he3⟩ := depB_spec hdep
      by_cases hb : listed.getD q true = true
      · have := hI.cl q oq h1 h2 hb e he1 he3
        rw [he2, getD_tf hI.lsize hil, h0] at this; cases this
      · simpa using hb
structure LateS (P : Program) (ops : List Oper) (m ist : Nat) (s : St) (t1 : List (Nat × AV)) (σ2 : List Blk) : Prop where
  lt : ist < m
  st : ∃ os t p v agg pv av c, ops[ist]? = some os ∧ os.op = .store t p v ∧ os.guard = none ∧ os.dst = none ∧ (∀ q oq k, ist < q → q < m → ops[q]? = some oq → oq.dst = some k → k ∉ looks ops os) ∧
    tyA P t = some (agg, (cellsOf av).length) ∧ allOne (cellsOf av) = true ∧ storeBlk s.σ pv (cellsOf av) = some (c, σ2) ∧ c ∧ Arg true ((⟨s.N, t1, s.σ, s.mv⟩ : St).restr (looks ops os)) p pv ∧ Arg true ((⟨s.N, t1, s.σ, s.mv⟩ : St).restr (looks ops os)) v av
theorem phaseL (hok : drawOk ops m = true) (hmn : m ≤ ops.length) {Q : Exit → St → Prop} {j0 : J0} {j1 : Js} {w1 : World} {s : St} {t1 : List (Nat × AV)} {σ2 : List Blk}
    (hW : LateS P ops m ist s t1 σ2) (hP : PureL P s ops m ist σ2 t1)
    (hK : evalOps P false ops (ops.drop m) ⟨s.N, t1, σ2, s.mv⟩ (Q .normal)) :
    ∀ (fuel : Nat) (j : Js) (a : Act) (w : World) (listed : Array Bool), left listed ops.length = fuel → InvL s ops m ist σ2 t1 j0 listed j a w → Ev j1 w1 j w → wpAnyIn (FW j0.rd) 0 P .any ops.toArray (APost j0 j1 w1 Q) fuel listed a w := by
  have fin : ∀ (j : Js) (a : Act) (w : World) (listed : Array Bool), (∀ q, q < m → listed.getD q true = true) → InvL s ops m ist σ2 t1 j0 listed j a w → Rel j0 ⟨s.N, t1, σ2, s.mv⟩ j a w := by
    intro j a w listed hdone hI
    have hia : listed.getD ist false = true := by rw [getD_tf hI.lsize (by have := hW.lt; omega)]; exact hdone ist hW.lt
    have htau : cur ist s.σ σ2 listed = σ2 := by simp only [cur, hia, if_true]
    refine ⟨hI.defers, hI.rdok, hI.size, fun k av hk => ?_, by have := hI.sto; rw [htau] at this; exact this, hI.len0, hI.ag⟩
    by_cases hw : ∃ q oq, q < m ∧ ops[q]? = some oq ∧ oq.dst = some k
    · obtain ⟨q, oq, hq, hqo, hqd⟩ := hw
      exact hI.c1 q oq k av hq hqo hqd (hdone q hq) hk
    · obtain ⟨xs, hxs, _⟩ := hP.at_ listed
      have hk' : get t1 k = some av := hk
      rw [← hxs, get_unwrit (Nat.le_refl _) hw] at hk'
      exact hI.c2 k av (fun q oq h1 h2 h3 => absurd ⟨q, oq, h1, h2, h3⟩ hw) hk'
  intro fuel
  induction fuel with
  | zero =>
    intro j a w listed hf hI he
    have hall : ∀ k, k < ops.length → listed.getD k true = true := by
      intro k hk
      by_cases hb : listed.getD k true = true
      · exact hb
      · have : k ∈ (List.range ops.length).filter fun k => !listed.getD k true := by
          rw [List.mem_filter]; exact ⟨by simpa using hk, by simpa using hb⟩
        have h0 : (List.range ops.length).filter (fun k => !listed.getD k true) = [] := List.length_eq_zero_iff.1 hf
        rw [h0] at this; simp at this
    have hme : m = ops.length := by
      rcases Nat.lt_or_ge m ops.length with h | h
      · have := hall m h; rw [hI.lB m (Nat.le_refl _) h] at this; simp at this
      · omega
    exact phaseB hok 0 m _ j a w listed (by omega) (Nat.le_refl _) (by omega) hI.lsize (fun k hk b => by
      have h1 := hall k hk
      have hsz : k < listed.size := by rw [hI.lsize]; exact hk
      have h2 : listed[k] = true := by simpa [hsz] using h1
      simp [hsz, h2, show k < m by omega]) (fin j a w listed (fun q hq => hall q (by omega)) hI) he hK
  | succ fuel ih =>
    intro j a w listed hf hI he
    by_cases hdone : ∀ q, q < m → listed.getD q true = true
    · have hL : ∀ k, k < ops.length → ∀ b, listed.getD k b = decide (k < m) := by
        intro k hk b
        rcases Nat.lt_or_ge k m with h | h
        · have h1 := hdone k h
          have hsz : k < listed.size := by rw [hI.lsize]; exact hk
          have h2 : listed[k] = true := by simpa [hsz] using h1
          simp [hsz, h2, h]
        · rw [hI.lB k h hk]; simp; omega
      have hfuel : fuel + 1 = ops.length - m := by
        rw [← hf]
        unfold left
        have gen : ∀ n, n ≤ ops.length → ((List.range n).filter fun k => !listed.getD k true).length = n - m := by
          intro n
          induction n with
          | zero => simp
          | succ n ihn =>
            intro hn
            rw [List.range_succ, List.filter_append, List.length_append, ihn (by omega)]
            have h1 := hL n (by omega) true
            by_cases hnm : n < m
            · have : (List.filter (fun k => !listed.getD k true) [n]).length = 0 := by
                rw [List.filter_cons_of_neg (by rw [h1]; simp [hnm])]; simp
              omega
            · have : (List.filter (fun k => !listed.getD k true) [n]).length = 1 := by
                rw [List.filter_cons_of_pos (by rw [h1]; simp; omega)]; simp
              omega
        exact gen _ (Nat.le_refl _)
      exact phaseB hok (fuel + 1) m _ j a w listed hfuel.symm (Nat.le_refl _) (by omega) hI.lsize hL (fin j a w listed hdone hI) he hK
    · have hex : ∃ q, q < m ∧ listed.getD q true = false ∧ ∀ p, p < q → listed.getD p true = true := by
        have hex0 : ∃ q, q < m ∧ listed.getD q true = false := by
          apply Classical.byContradiction
          intro hne
          apply hdone
          intro q hq
          by_cases hb : listed.getD q true = true
          · exact hb
          · exact absurd ⟨q, hq, by simpa using hb⟩ hne
        obtain ⟨q, hq1, hq2⟩ := hex0
        induction q using Nat.strongRecOn with
        | _ q ihq =>
          by_cases hall : ∀ p, p < q → listed.getD p true = true
          · exact ⟨q, hq1, hq2, hall⟩
          · have : ∃ p, p < q ∧ listed.getD p true = false := by
              apply Classical.byContradiction
              intro hne
              apply hall
              intro p hp
              by_cases hb : listed.getD p true = true
              · exact hb
              · exact absurd ⟨p, hp, by simpa using hb⟩ hne
            obtain ⟨p, hp1, hp2⟩ := this
            exact ihq p hp1 (by omega) hp2
      obtain ⟨q0, hq0, hq0l, hq0all⟩ := hex
      have hlt0 : q0 < ops.length := by omega
      have hready : q0 ∈ Region.ready .any ops.toArray listed := by
        rw [mem_ready]
        refine ⟨hq0l, ops[q0], by simp [hlt0], fun e he hb => ?_⟩
        have h1 := (drawOk_spec hok (i := q0) (o := ops[q0]) (by simp [hlt0])).1 e he hb
        rw [getD_tf hI.lsize (by omega)]
        exact hq0all e.on h1
      refine ⟨fun h0 => by rw [h0] at hready; simp at hready, fun i hi => ?_⟩
      rw [mem_ready] at hi
      obtain ⟨h0, o, ho, hall⟩ := hi
      have ho' : ops[i]? = some o := by simpa using ho
      have hil : i < ops.length := lt_of_getElem? ho'
      have him : i < m := by
        rcases Nat.lt_or_ge i m with h | h
        · exact h
        · have := depT_near (L := fun q => listed.getD q false) (fun q h1 h2 => hI.lB q h1 h2 false) (fun q oq h1 h2 h3 e he1 he2 => hI.cl q oq h1 h2 (by
            have hsz : q < listed.size := by rw [hI.lsize]; omega
            have h4 : listed[q] = true := by simpa [hsz] using h3
            simp [hsz, h4]) e he1 he2) ((drawOk_spec hok ho').2.2 h q0 (by omega)) hall
          simp only [getD_tf hI.lsize hlt0, hq0l] at this; cases this
      have hokA := okA_spec ((drawOk_spec hok ho').2.1 him)
      have hset0 : left (listed.setIfInBounds i true) ops.length = fuel := by
        have := left_set hI.lsize hil h0; omega
      have hszi : i < listed.size := by rw [hI.lsize]; exact hil
      have hseti : ∀ b, (listed.setIfInBounds i true).getD i b = true := by intro b; simp [hszi]
      have step : ∀ (j' : Js) (w' : World) (v : Value), RelS w' j' (cur ist s.σ σ2 (listed.setIfInBounds i true)) → Ev j w j' w' → Ag j j' [] → j.length ≤ j'.length →
          (∀ k av, o.dst = some k → get t1 k = some av → k < s.N ∧ R w' j' av v) → wpAnyIn (FW j0.rd) 0 P .any ops.toArray (APost j0 j1 w1 Q) fuel (listed.setIfInBounds i true) (a.put o.dst v) w' := by
        intro j' w' v hsto hev hagj hlj hv
        have oth : ∀ {k}, o.dst ≠ some k → (a.put o.dst v).tmps.getD k Go.undef = a.tmps.getD k Go.undef := by
          intro k hne
          cases hd : o.dst with
          | none => rfl
          | some d =>
            have hdk : d ≠ k := fun h => hne (by rw [hd, h])
            simp [Act.put, Array.getD_eq_getD_getElem?, Array.getElem?_setIfInBounds, hdk]
        refine ih j' _ w' _ hset0 ⟨?_, fun l hl => (by obtain ⟨r, hr⟩ := hI.rdok l hl; exact hev.lps l r hr), ?_, hsto, Nat.le_trans hI.len0 hlj, ?_, by simpa using hI.lsize, ?_, ?_, ?_, ?_⟩ (he.trans hev)
        · have := hI.defers.mono hev
          cases hd : o.dst <;> simpa [Act.put] using this
        · cases hd : o.dst <;> simp [Act.put, hI.size]
        · intro b hb hn
          rw [hagj b (by have := hI.len0; omega) (by simp)]
          exact hI.ag b hb hn
        · intro k hk1 hk2 b
          rw [getD_set_ne b (by omega)]; exact hI.lB k hk1 hk2 b
        · intro q oq hq hqo hl e he1 he2
          by_cases hqi : i = q
          · subst hqi
            have : oq = o := by rw [ho'] at hqo; exact (Option.some.inj hqo).symm
            subst this
            exact getD_set_true (hall e he1 he2)
          · rw [getD_set_ne true hqi] at hl
            exact getD_set_true (hI.cl q oq hq hqo hl e he1 he2)
        · intro q oq k av hq hqo hqd hl hk
          by_cases hqi : i = q
          · subst hqi
            have : oq = o := by rw [ho'] at hqo; exact (Option.some.inj hqo).symm
            subst this
            have h1 := hv k av hqd hk
            simp only [Act.put, hqd]
            rw [R_setIfInBounds (w := w) (j := j) (by rw [hI.size]; exact h1.1), if_pos rfl]; exact h1
          · rw [getD_set_ne true hqi] at hl
            have h1 := hI.c1 q oq k av hq hqo hqd hl hk
            rw [oth (fun hd => hokA.2 q oq k hq (fun h => hqi h.symm) hqo hd hqd)]
            exact ⟨h1.1, h1.2.mono0 hev hI.sto.lt hagj⟩
        · intro k av hk hg
          have hne : o.dst ≠ some k := fun hd => by
            have := hk i o him ho' hd
            rw [hseti] at this; cases this
          have h1 := hI.c2 k av (fun q oq h1 h2 h3 => by
            have hqi : i ≠ q := fun h => by subst h; rw [ho'] at h2; cases h2; exact hne h3
            have := hk q oq h1 h2 h3
            rwa [getD_set_ne true hqi] at this) hg
          rw [oth hne]; exact ⟨h1.1, h1.2.mono0 hev hI.sto.lt hagj⟩
      simp only [wpOpIn, ho]
      · by_cases his : i = ist
        · -- it is stored
          subst his
          obtain ⟨os, t, p, v, agg, pv, av, c, hos, hop, hgd, hdst, hlate, hty, hone, hst, hc, hp, hv⟩ := hW.st
          obtain rfl : o = os := by rw [ho'] at hos; exact Option.some.inj hos
          have hni : listed.getD i false = false := by rw [getD_tf hI.lsize hil]; exact h0
          have hsto := hI.sto
          have htau : cur i s.σ σ2 listed = s.σ := by simp only [cur, hni]; rfl
          rw [htau] at hsto
          have hr : Rel j0 ((⟨s.N, t1, s.σ, s.mv⟩ : St).restr (looks ops o)) j a w := by
            refine ⟨hI.defers, hI.rdok, hI.size, fun k av hk => ?_, hsto, hI.len0, hI.ag⟩
            simp only [St.restr, get_restr] at hk
            split at hk
            · rename_i hkl
              have hkl : k ∈ looks ops o := by simpa using hkl
              by_cases hw : ∃ q oq, q < m ∧ ops[q]? = some oq ∧ oq.dst = some k
              · obtain ⟨q, oq, hq, hqo, hqd⟩ := hw
                have hqi : q < i := by
                  rcases Nat.lt_trichotomy q i with h | h | h
                  · exact h
                  · subst h; rw [ho'] at hqo; cases hqo; rw [hdst] at hqd; cases hqd
                  · exact absurd hkl (hlate q oq k h hq hqo hqd)
                obtain ⟨e, he1, he2, he3⟩ := depB_spec ((hokA.1 k hkl q oq hqo hqd).1 hqi)
                have hlq := hall e he1 he3
                rw [he2, getD_tf hI.lsize (by omega)] at hlq
                exact hI.c1 q oq k av hq hqo hqd hlq hk
              · obtain ⟨xs, hxs, _⟩ := hP.at_ listed
                rw [← hxs, get_unwrit (Nat.le_refl _) hw] at hk
                exact hI.c2 k av (fun q oq h1 h2 h3 => absurd ⟨q, oq, h1, h2, h3⟩ hw) hk
            · simp at hk
          obtain ⟨w', h1, h2, h3⟩ := store_sound (P := P) hsto hty (hp rfl j0 j a w hr) (hv rfl j0 j a w hr) hone rfl hst hc
          have hrun : (execOp a.eval o).run P w = .ok .skip w' := by simp [execOp, hop, h1]
          have hw : Region.wanted o (yielded ops.toArray a.tmps) = true := by simp [Region.wanted, hgd]
          rw [if_pos hw]
          refine opw (by simp [hop]) hrun ?_
          refine step j w' _ ?_ h3 (.refl _ _) (Nat.le_refl _) (fun k av hk => by rw [hdst] at hk; cases hk)
          have : cur i s.σ σ2 (listed.setIfInBounds i true) = σ2 := by simp only [cur, hseti, if_true]
          rw [this]; exact h2
        · -- one that computes
          obtain ⟨xs, hxs, hloc⟩ := hP.at_ listed
          have hL := hloc i o him ho' his
          have hrel : Rel j0 ((⟨s.N, (stAt s (ops.take m) xs i).t, cur ist s.σ σ2 listed, s.mv⟩ : St).restr (looks ops o)) j a w := by
            refine ⟨hI.defers, hI.rdok, hI.size, fun k av hk => ?_, hI.sto, hI.len0, hI.ag⟩
            simp only [St.restr, get_restr] at hk
            split at hk
            · rename_i hkl
              exact hI.looks_rel hok hmn hxs him ho' h0 hall (by simpa using hkl) hk
            · simp at hk
          have htau : cur ist s.σ σ2 (listed.setIfInBounds i true) = cur ist s.σ σ2 listed := by
            simp only [cur, getD_set_ne false his]
          have hval : ∀ (w' : World) (v : Value), R w' j (xs i) v → ∀ k av, o.dst = some k → get t1 k = some av → k < s.N ∧ R w' j av v := by
            intro w' v hr k av hk hgt
            rw [← hxs, get_writ hok hmn him ho' hk him (Nat.le_refl _)] at hgt
            split at hgt
            · rename_i hlt
              obtain rfl : xs i = av := Option.some.inj hgt
              exact ⟨hlt, hr⟩
            · simp at hgt
          by_cases hw : Region.wanted o (yielded ops.toArray a.tmps) = true
          · rw [if_pos hw]
            exact hL.run j0 j a w _ _ hrel hw fun w' v h1 h2 h3 => step j w' v (by rw [htau]; exact h1) h2 (.refl _ _) (Nat.le_refl _) (hval w' v h3)
          · rw [if_neg hw]
            exact ⟨fun _ _ => trivial, step j w Go.undef (by rw [htau]; exact hI.sto) (.refl _ _) (.refl _ _) (Nat.le_refl _) (hval w _ (hL.skip j0 j a w hrel (by simpa using hw)))⟩
end
theorem lateOk_spec {ops : List Oper} {m ist : Nat} (h : lateOk ops m ist = true) : ist < m ∧ ∃ os t' p v, ops[ist]? = some os ∧ os.op = .store t' p v ∧ os.guard = none ∧ os.dst = none ∧ (∀ q oq k, ist < q → q < m → ops[q]? = some oq → oq.dst = some k → k ∉ looks ops os) := by
  unfold lateOk at h
  simp only [Bool.and_eq_true, Nat.blt_eq] at h
  obtain ⟨h1, h⟩ := h
  refine ⟨h1, ?_⟩
  split at h
  · rename_i os hos
    simp only [Bool.and_eq_true, List.all_eq_true, List.mem_range, Bool.or_eq_true, Nat.ble_eq] at h
    obtain ⟨g1, g3⟩ := h
    have g1' : ∃ t' p v, os.op = .store t' p v ∧ os.guard = none ∧ os.dst = none := by
      unfold isSt at g1
      split at g1
      · rename_i t' p v e4 e5 e6
        exact ⟨t', p, v, e4, e5, e6⟩
      · cases g1
    obtain ⟨t', p, v, e4, e5, e6⟩ := g1'
    refine ⟨os, t', p, v, hos, e4, e5, e6, fun q oq k hq hqm hqo hqd hkl => ?_⟩
    rcases g3 q hqm with h | h
    · omega
    · simp only [hqo, hqd, Bool.not_eq_true', List.contains_eq_mem, decide_eq_false_iff_not] at h
      exact h hkl
  · cases h
theorem awp_late {P : Program} {Q : Exit → St → Prop} {N : Nat} {t : List (Nat × AV)} {σ : List Blk} {mv : List Nat} {id : Nat} {ops : List Oper} (m ist : Nat) (hm : P.follows .mixedOrders = true) (hok : (drawOk ops m && Nat.ble m ops.length && lateOk ops m ist) = true) {t1 : List (Nat × AV)} {σ2 : List Blk}
    (h1 : ∀ K : St → Prop, (∀ σ' mv', K ⟨N, t1, σ', mv'⟩) → evalO P ops m ist 0 (ops.take m) 0 ⟨N, t, σ, mv⟩ K)
    (h2 : lateA P ops ist ⟨N, t1, σ, mv⟩ fun σ' => σ' = σ2)
    (h3 : ∀ K : St → Prop, (∀ σ' mv', K ⟨N, t1, σ', mv'⟩) → evalO P ops m ist 0 (ops.take m) 0 ⟨N, t, σ2, mv⟩ K)
    (h4 : evalOps P false ops (ops.drop m) ⟨N, t1, σ2, mv⟩ (Q .normal)) : AWP P (.region id ops.toArray true) Q ⟨N, t, σ, mv⟩ := by
  intro j0 j a w hr
  simp only [Bool.and_eq_true, Nat.ble_eq] at hok
  obtain ⟨⟨hok, hmn⟩, hlate⟩ := hok
  obtain ⟨hlt, os, t', p, v, g1, g2, g3, g4, g5⟩ := lateOk_spec hlate
  have hlen : (ops.take m).length = m := by simp; omega
  have hone : ∀ σx, (∀ K : St → Prop, (∀ σ' mv', K ⟨N, t1, σ', mv'⟩) → evalO P ops m ist 0 (ops.take m) 0 ⟨N, t, σx, mv⟩ K) →
      ∃ xs : Nat → AV, (stAt ⟨N, t, σ, mv⟩ (ops.take m) xs m).t = t1 ∧ ∀ i o, i < m → ops[i]? = some o → i ≠ ist → Local P ops o ⟨N, (stAt ⟨N, t, σ, mv⟩ (ops.take m) xs i).t, σx, mv⟩ (xs i) := by
    intro σx hx
    have h := hx (fun s' => s'.t = t1) (fun _ _ => rfl)
    obtain ⟨xs, hK, _, hloc⟩ := unrollO h (fun i o hi he => by
      have him : i < m := by have := lt_of_getElem? hi; omega
      rw [take_get him] at hi
      have he : i = ist := by omega
      subst he
      rw [g1] at hi; cases hi; exact g4)
    have hext := stAt_sto ⟨N, t, σ, mv⟩ σx (ops.take m) xs
    refine ⟨xs, ?_, fun i o him ho h4 => ?_⟩
    · rw [hlen, hext] at hK; exact hK
    · have := hloc i o (by rw [take_get him]; exact ho) (by omega) (by omega)
      rw [hext] at this; exact this
  have hP : PureL P ⟨N, t, σ, mv⟩ ops m ist σ2 t1 := ⟨fun listed => by
    unfold cur
    split
    · exact hone σ2 h3
    · exact hone σ h1⟩
  have hr' : Rel j0 ⟨N, t, σ, mv⟩ j a w.drew := hr.after (ev_drew j w) hr.sto.drew (Nat.le_refl _) (.refl _ [])
  have hf : ∀ k b, k < ops.length → (Array.replicate ops.toArray.size false).getD k b = false := by
    intro k b hk; simp [hk]
  unfold lateA at h2
  rw [nthOp_eq, g1] at h2
  simp only [g2] at h2
  have hmp : ∀ t, p = .tmp t → t ∈ looks ops os := fun t ht => List.mem_append.2 (.inl (mem_opTmps (x := p) (by simp [g2, Op.operands]) ht))
  have hmv : ∀ t, v = .tmp t → t ∈ looks ops os := fun t ht => List.mem_append.2 (.inl (mem_opTmps (x := v) (by simp [g2, Op.operands]) ht))
  rw [← arg_restr hmp] at h2
  obtain ⟨pv, h2, hp⟩ := arg_sound h2
  rw [← arg_restr hmv] at h2
  obtain ⟨av, h2, hv⟩ := arg_sound h2
  split at h2
  · rename_i agg mm hty
    obtain ⟨k1, k2, h2⟩ := h2
    split at h2
    · rename_i c σ2' hst
      obtain ⟨hc, rfl⟩ := h2
      have hW : LateS P ops m ist ⟨N, t, σ, mv⟩ t1 σ2' := ⟨hlt, os, t', p, v, agg, pv, av, c, g1, g2, g3, g4, g5, by rw [k2]; exact hty, k1, hst, hc, hp, hv⟩
      refine wpIn_region_any hm ?_
      refine phaseL hok hmn hW hP h4 _ j a w.drew _ ?_ ⟨hr'.defers, hr'.rdok, hr'.size, ?_, hr'.len0, hr'.ag, by simp, fun k _ hk b => hf k b hk, fun q oq hq hqo hl => ?_, fun q oq k av hq hqo hd hl => ?_, fun k av _ hk => hr'.tmp k av hk⟩ (ev_drew j w)
      · unfold left
        have : (List.range ops.length).filter (fun k => !(Array.replicate ops.toArray.size false).getD k true) = List.range ops.length := by
          apply List.filter_eq_self.2
          intro k hk
          rw [hf k true (by simpa using hk)]; rfl
        rw [this]; simp
      · have : cur ist σ σ2' (Array.replicate ops.toArray.size false) = σ := by simp only [cur, hf ist false (by omega)]; rfl
        rw [this]; exact hr'.sto
      · rw [hf q true (by omega)] at hl; cases hl
      · rw [hf q true (by omega)] at hl; cases hl
    · exact h2.elim
  · exact h2.elim
theorem awp_late_seq {P : Program} {Q : Exit → St → Prop} {N : Nat} {t : List (Nat × AV)} {σ : List Blk} {mv : List Nat} {id : Nat} {ops : List Oper} {y : Code} (m ist : Nat) (hm : P.follows .mixedOrders = true) (hok : (drawOk ops m && Nat.ble m ops.length && lateOk ops m ist) = true) {t1 : List (Nat × AV)} {σ2 : List Blk}
    (h1 : ∀ K : St → Prop, (∀ σ' mv', K ⟨N, t1, σ', mv'⟩) → evalO P ops m ist 0 (ops.take m) 0 ⟨N, t, σ, mv⟩ K)
    (h2 : lateA P ops ist ⟨N, t1, σ, mv⟩ fun σ' => σ' = σ2)
    (h3 : ∀ K : St → Prop, (∀ σ' mv', K ⟨N, t1, σ', mv'⟩) → evalO P ops m ist 0 (ops.take m) 0 ⟨N, t, σ2, mv⟩ K)
    (h4 : ∀ K : St → Prop, (∀ s', AWP P y Q s' → K s') → evalOps P false ops (ops.drop m) ⟨N, t1, σ2, mv⟩ K) : AWP P (.seq (.region id ops.toArray true) y) Q ⟨N, t, σ, mv⟩ :=
  awp_seq (awp_late m ist hm hok h1 h2 h3 (h4 _ fun s' h => h))
theorem awp_late_end {P : Program} {Q : Exit → St → Prop} {N : Nat} {t : List (Nat × AV)} {σ : List Blk} {mv : List Nat} {id : Nat} {ops : List Oper} (m ist : Nat) (hm : P.follows .mixedOrders = true) (hok : (drawOk ops m && Nat.ble m ops.length && lateOk ops m ist) = true) {t1 : List (Nat × AV)} {σ2 : List Blk}
    (h1 : ∀ K : St → Prop, (∀ σ' mv', K ⟨N, t1, σ', mv'⟩) → evalO P ops m ist 0 (ops.take m) 0 ⟨N, t, σ, mv⟩ K)
    (h2 : lateA P ops ist ⟨N, t1, σ, mv⟩ fun σ' => σ' = σ2)
    (h3 : ∀ K : St → Prop, (∀ σ' mv', K ⟨N, t1, σ', mv'⟩) → evalO P ops m ist 0 (ops.take m) 0 ⟨N, t, σ2, mv⟩ K)
    (h4 : ∀ K : St → Prop, (∀ s', Q .normal s' → K s') → evalOps P false ops (ops.drop m) ⟨N, t1, σ2, mv⟩ K) : AWP P (.region id ops.toArray true) Q ⟨N, t, σ, mv⟩ :=
  awp_late m ist hm hok h1 h2 h3 (h4 _ fun s' h => h)
attribute [go_sem ↓] lateA
end Go.Abs

/-! Ob -/
namespace Go.Abs
open Go.RowKit
set_option linter.unusedVariables false
set_option linter.unusedSimpArgs false
theorem ba_loop (b : ByteArray) : ∀ (k i : Nat) (r : List UInt8), b.size - i = k → ByteArray.toList.loop b i r = r.reverse ++ b.data.toList.drop i := by
  intro k
  induction k with
  | zero =>
    intro i r h
    unfold ByteArray.toList.loop
    rw [if_neg (by omega)]
    have : b.data.toList.drop i = [] := by
      rw [List.drop_eq_nil_iff, Array.length_toList]
      have : b.data.size = b.size := rfl
      omega
    rw [this]; simp
  | succ k ih =>
    intro i r h
    unfold ByteArray.toList.loop
    have hi : i < b.size := by omega
    rw [if_pos hi, ih (i + 1) _ (by omega)]
    have hd : i < b.data.toList.length := by rw [Array.length_toList]; exact hi
    rw [List.drop_eq_getElem_cons hd]
    have : b.get! i = b.data.toList[i] := by
      have h2 : b.get! i = b.data[i]! := rfl
      rw [h2, getElem!_pos b.data i (by exact hi)]
      simp
    rw [this]; simp
theorem ba_toList (b : ByteArray) : b.toList = b.data.toList := by
  have := ba_loop b (b.size - 0) 0 [] rfl
  unfold ByteArray.toList
  rw [this]; simp
theorem ba_inj {a b : ByteArray} (h : a.toList = b.toList) : a = b := by
  rw [ba_toList, ba_toList] at h
  cases a; cases b; simp at h; rw [h]
theorem ba_eq_iff {a b : ByteArray} : a.toList = b.toList ↔ a = b := ⟨ba_inj, fun h => by rw [h]⟩
attribute [simp] ba_eq_iff
theorem below_rel {w w' : World} {j : Js} {σ : List Blk} (hb : Below w.heap.size w w') (hS : RelS w j σ) : RelS w' j σ ∧ Ev j w j w' := by
  have hk := hb.block
  have he : Ev j w j w' := ⟨hb.size, fun b h _ => hk b h, fun _ _ h => h, fun b h => by simp [World.shape?, hk b h], fun a h => by simp [World.frozen?, hk _ h], hb.os, hb.tape, hb.output,
    fun b r h => ⟨r, by rw [hk b (Array.getElem?_eq_some_iff.1 h).1]; exact h⟩⟩
  refine ⟨⟨hS.len, fun b cb h => Nat.lt_of_lt_of_le (hS.lt b cb h) hb.size, hS.inj, fun b x hx => ?_⟩, he⟩
  obtain ⟨o, ho, hB⟩ := hS.blk b x hx
  exact ⟨o, ho, hB.mono he hS.lt (.refl _ _) fun cb h => hk cb (hS.lt b cb (by rw [ho, h]))⟩
theorem CSF.of_calls {P : Program} {f : FuncId} {args : List AV} {σ : List Blk} {r : Value} (hen : entersB P f = true) (vals : Array Value) (hargs : ∀ w j vs, Rs w j args vs → vs = vals)
    (h : ∀ w j, RelS w j σ → Calls P f vals w fun e w' => e = .returned r ∧ Below w.heap.size w w') : CSF P f args σ (.d (.v r)) := by
  refine ⟨hen, fun j w vs hs hr => ?_⟩
  rw [hargs w j vs hr]
  refine (h w j hs).mono fun e w' ⟨he, hb⟩ => ?_
  obtain ⟨h1, h2⟩ := below_rel hb hs
  exact ⟨r, .d (.v r), σ, j, [], he, h1, .d (.v r), h2, Nat.le_refl _, .refl _ _, rfl, rfl, rfl⟩
theorem rs_vals1 {w : World} {j : Js} {a : AV} {v : Value} {vs : Array Value} (h : Rs w j [a] vs) (ha : ∀ u, R w j a u → u = v) : vs = #[v] := by
  have h0 := ha _ (by simpa using h.2 0 (by simp))
  apply Array.ext
  · simpa using h.1
  · intro i h1 h2
    have hi : i = 0 := by simpa using h2
    subst hi
    simp only [Array.getD_eq_getD_getElem?, h1, Array.getElem?_eq_getElem, Option.getD_some] at h0
    simpa using h0
theorem rs_vals2 {w : World} {j : Js} {a b : AV} {v u : Value} {vs : Array Value} (h : Rs w j [a, b] vs) (ha : ∀ x, R w j a x → x = v) (hb : ∀ x, R w j b x → x = u) : vs = #[v, u] := by
  have h0 := ha _ (by simpa using h.2 0 (by simp))
  have h1 := hb _ (by simpa using h.2 1 (by simp))
  have hs : vs.size = 2 := by simpa using h.1
  apply Array.ext
  · simpa using hs
  · intro i h2 h3
    simp only [Array.getD_eq_getD_getElem?, show 0 < vs.size by omega, show 1 < vs.size by omega, Array.getElem?_eq_getElem, Option.getD_some] at h0 h1
    have hi : i = 0 ∨ i = 1 := by simp at h3; omega
    rcases hi with rfl | rfl
    · simpa using h0
    · simpa using h1
theorem CS.sub {P : Program} {f : FuncId} {args args' : List AV} {σ : List Blk} {Q : AV → List Blk → List Nat → Prop} (h : CS P f args' σ Q) (hs : sameL args args') : CS P f args σ Q := by
  obtain ⟨h1, h2⟩ := sameL_spec hs
  exact ⟨h.1, fun j w vs hS hr => h.2 j w vs hS ⟨by rw [h1]; exact hr.1, fun k hk => h2 k (by rw [← h1]; exact hk) _ _ _ (hr.2 k (by rw [← h1]; exact hk))⟩⟩
theorem CSF.sub {P : Program} {f : FuncId} {args args' : List AV} {σ : List Blk} {r : AV} (h : CSF P f args' σ r) (hs : sameL args args') : CSF P f args σ r := CS.sub h hs
theorem loc_cell {w : World} {j : Js} {σ : List Blk} (hS : RelS w j σ) {b c : Nat} (h : σ[b]? = some (.loc c)) : ∃ m, w.cell? ⟨c, 0, none⟩ = some (.int .i64 m) := by
  obtain ⟨o, _, hB⟩ := hS.blk b _ h
  cases o <;> exact hB.2.2.2
theorem loc_app {σ τ : List Blk} {b : Nat} {x : Blk} (h : σ[b]? = some x) : (σ ++ τ)[b]? = some x := by
  rw [List.getElem?_append_left (List.getElem?_eq_some_iff.1 h).1]; exact h
end Go.Abs

/-! Od -/
namespace Go.Abs
open Go.RowKit
set_option linter.unusedVariables false
set_option linter.unusedSimpArgs false
theorem RD.none {w : World} {d : D} {v : Value} (h : RD w [] d v) : RD w [none] d v := by
  induction h with
  | v x => exact .v x
  | sl a c val h1 h2 h3 h4 h5 h6 h7 h8 ih => exact .sl a c val h1 h2 h3 h4 (by simp) h6 h7 ih
  | zero p c h1 h2 => exact .zero p c h1 h2
theorem R.none_d {w : World} {d : D} {v : Value} (h : R w [] (.d d) v) : R w [none] (.d d) v := by
  cases h with | d h => exact .d h.none
theorem R.none_agg {w : World} {ds : List D} {v : Value} (h : R w [] (.agg (ds.map .d)) v) : R w [none] (.agg (ds.map .d)) v := by
  cases h with
  | agg vs hs h =>
    refine .agg vs hs fun k hk => ?_
    have := h k hk
    have hk' : k < ds.length := by simpa using hk
    have e : (ds.map AV.d).getD k .undef = .d (ds[k]'hk') := by simp [List.getD_eq_getElem?_getD, hk']
    rw [e] at this ⊢
    exact this.none_d
theorem rsN_nil (w : World) : Rs w [none] [] #[] := ⟨rfl, by simp⟩
theorem RsN.cons {w : World} {x : AV} {v : Value} {xs : List AV} {vs : List Value} (h : R w [none] x v) (t : Rs w [none] xs vs.toArray) : Rs w [none] (x :: xs) (v :: vs).toArray :=
  ⟨by have := t.1; simpa using this, fun k hk => by
    cases k with
    | zero => simpa using h
    | succ k => have := t.2 k (by simpa using hk); simpa using this⟩
theorem law_callsN {P : Program} {f : FuncId} {avs : List AV} {args : Array Value} {w : World} {c : Nat} (h : CSF P f avs [.loc c] (.d (.v (.bool true)))) (hm : ∃ m, w.cell? ⟨c, 0, none⟩ = some (.int .i64 m)) (hr : Rs w [none] avs args) : Calls P f args w fun e w' => e = .returned (.bool true) ∧ Below w.heap.size w w' := by
  have hc : c < w.heap.size := by
    obtain ⟨m, hm⟩ := hm
    apply Classical.byContradiction
    intro hn
    have : w.heap[c]? = none := by simp; omega
    simp [World.cell?, this] at hm
  have hS : RelS w [none] [.loc c] := ⟨rfl, fun b cb hb => by
      cases b with
      | zero => simp at hb
      | succ b => simp at hb, fun b b' cb hb => by
      cases b with
      | zero => simp at hb
      | succ b => simp at hb, fun b x hx => by
      cases b with
      | zero =>
        simp at hx
        subst hx
        exact ⟨none, rfl, rfl, hc, by simp, hm⟩
      | succ b => simp at hx⟩
  refine (h.2 [none] w args hS hr).mono ?_
  rintro e w' ⟨v, r, σ', j', X, rfl, h1, h2, h3, h4, h5, rfl, rfl, rfl⟩
  cases h2 with
  | d h2 =>
    cases h2
    exact ⟨rfl, ⟨h3.os, h3.tape, h3.output, h3.size, fun k hk => h3.keep k hk (by simp)⟩⟩
end Go.Abs

/-! Azs -/
namespace Go.Abs
set_option linter.unusedVariables false
set_option linter.unusedSimpArgs false
open Go.Sort Go.Proofs
theorem onCells_eq {w : World} {blk : Nat} {C : Array Value} {e : TypeId} {f : Nat × Nat} (h : w.heap[blk]? = some (.cells C e f)) (g : Array Value → Array Value) (b : Nat) : (mapBlock w blk g).heap[b]? = if b = blk then some (.cells (g C) e f) else w.heap[b]? := by
  unfold mapBlock
  simp only [Array.getElem?_modify]
  by_cases hb : b = blk
  · subst hb; simp [h, onCells]
  · simp [hb, Ne.symm hb]
section
variable {α : Type} [Inhabited α] {enc : α → List Value} {k : Nat}
theorem holds_of {w : World} {j : Js} {σ : List Blk} (hS : RelS w j σ) {b cb n : Nat} {row : Nat → List D} {x : Nat → α} (hj : j[b]? = some (some cb)) (hb : σ[b]? = some (.arr k n row)) (hrow : ∀ i, i < n → row i = (enc (x i)).map .v) (hk : ∀ y, (enc y).length = k) : HoldsK enc k w cb 0 (lst n x).toArray := by
  obtain ⟨o, ho, hB⟩ := hS.blk b _ hb
  rw [hj] at ho; cases ho
  obtain ⟨C, e, ⟨f, hC, hfz⟩, hcs, hrel⟩ := hB
  intro t ht
  simp only [size_flatK, List.size_toArray, lst_length] at ht
  have k0 : 0 < k := by rcases Nat.eq_zero_or_pos k with h | h; (subst h; simp at ht); exact h
  have hi : t / k < n := Nat.div_lt_of_lt_mul (by rwa [Nat.mul_comm] at ht)
  have hm : t % k < k := Nat.mod_lt _ k0
  have hr := (hrel (t / k) hi).2 (t % k) hm
  rw [hrow _ hi] at hr
  have hdm : t / k * k + t % k = t := Nat.div_add_mod' t k
  rw [hdm] at hr
  have hlt : t < C.size := by omega
  have e0 : ((enc (x (t / k))).map D.v).getD (t % k) default = D.v ((enc (x (t / k)))[t % k]!) := by
    have : t % k < (enc (x (t / k))).length := by rw [hk]; exact hm
    simp [List.getD_eq_getElem?_getD, this]
  rw [e0] at hr
  have hv : C.getD t Go.undef = (enc (x (t / k)))[t % k]! := by
    generalize C.getD t Go.undef = u at hr
    cases hr; rfl
  refine ⟨?_, ?_⟩
  · rw [cell_of hC, Nat.zero_add, get_flatK _ _ _ _ (by simpa [lst_length] using ht)]
    have e1 : (lst n x).toArray[t / k]! = x (t / k) := by
      simp [lst, hi]
    rw [e1, id, ← hv]
    simp [Array.getD_eq_getD_getElem?, hlt]
  · obtain ⟨lo, hi'⟩ := f
    simp only [World.frozen?, hC, Bool.and_eq_false_iff, decide_eq_false_iff_not]
    rcases hfz with hf | hf
    · left; simp only at hf; omega
    · simp only [Prod.mk.injEq] at hf; right; omega
theorem sorted_rel {w : World} {j : Js} {σ : List Blk} (hS : RelS w j σ) {b cb n m : Nat} {row : Nat → List D} {d : Array α} {os : Array Obj} (hj : j[b]? = some (some cb)) (hb : σ[b]? = some (.arr k n row)) {row' : Nat → List D} (hrow : ∀ i, i < n → row' i = (enc (d[i]!)).map .v) (hk : ∀ y, (enc y).length = k) (hd : d.size = n) :
    RelS (sortWorldK enc k w cb 0 m d os) j (σ.set b (.arr k n row')) ∧ Ev j w j (sortWorldK enc k w cb 0 m d os) := by
  obtain ⟨o, ho, hB⟩ := hS.blk b _ hb
  rw [hj] at ho; cases ho
  obtain ⟨C, e, ⟨f, hC, hfz⟩, hcs, hrel⟩ := hB
  have hcb : cb < w.heap.size := hS.lt b cb hj
  have hheap : ∀ c, c < w.heap.size → (sortWorldK enc k w cb 0 m d os).heap[c]? = if c = cb then some (.cells (putCells id 0 (flatK enc k d) C) e f) else w.heap[c]? := by
    intro c hc
    unfold sortWorldK grow putRowK putRow
    simp only
    rw [Array.getElem?_append_left (by show c < (mapBlock _ _ _).heap.size; simpa [mapBlock, Go.Sort.ahead] using hc)]
    exact onCells_eq (w := Go.Sort.ahead w m) (blk := cb) (C := C) (e := e) (f := f) hC (putCells id 0 (flatK enc k d)) c
  have hsz : (putCells id 0 (flatK enc k d) C).size = C.size := by simp [putCells]
  have hsize : w.heap.size ≤ (sortWorldK enc k w cb 0 m d os).heap.size := by
    unfold sortWorldK grow putRowK putRow mapBlock Go.Sort.ahead; simp
  have he : Ev j w j (sortWorldK enc k w cb 0 m d os) := by
    refine ⟨hsize, fun c hc hn => ?_, fun _ _ h => h, fun c hc => ?_, fun a ha => ?_, rfl, rfl, rfl, fun c r hr => ?_⟩
    · rw [hheap c hc, if_neg (fun h : c = cb => hn (by rw [h]; exact List.mem_of_getElem? hj))]
    · unfold World.shape?
      rw [hheap c hc]
      by_cases h : c = cb
      · subst h; simp [hC, hsz]
      · simp [h]
    · unfold World.frozen?
      rw [hheap a.block ha]
      by_cases h : a.block = cb
      · simp [h, hC]
      · simp [h]
    · have hc : c < w.heap.size := (Array.getElem?_eq_some_iff.1 hr).1
      refine ⟨r, ?_⟩
      rw [hheap c hc, if_neg (fun h : c = cb => by subst h; rw [hC] at hr; cases hr)]; exact hr
  refine ⟨⟨by simp [hS.len], fun c q hc => Nat.lt_of_lt_of_le (hS.lt c q hc) hsize, hS.inj, fun c y hy => ?_⟩, he⟩
  rw [List.getElem?_set] at hy
  split at hy
  · rename_i hbc
    subst hbc
    split at hy
    · simp only [Option.some.injEq] at hy
      subst hy
      refine ⟨some cb, hj, putCells id 0 (flatK enc k d) C, e, ⟨f, by rw [hheap cb hcb]; simp, by rw [hsz]; exact hfz⟩, by rw [hsz]; exact hcs, fun i hi => ⟨by rw [hrow i hi]; simp [hk], fun q hq => ?_⟩⟩
      rw [hrow i hi]
      have hlt : i * k + q < n * k := by
        have : (i + 1) * k ≤ n * k := Nat.mul_le_mul_right k hi
        rw [Nat.add_mul, Nat.one_mul] at this; omega
      have e1 : (i * k + q) / k = i := (blk_iff k i _ (by omega)).1 ⟨by omega, by omega⟩
      have e2 : (i * k + q) % k = q := by rw [Nat.mod_eq_sub_div_mul, e1]; omega
      have e3 : (putCells id 0 (flatK enc k d) C).getD (i * k + q) Go.undef = (enc d[i]!)[q]! := by
        have h1 : i * k + q < C.size := by omega
        have h2 := get_flatK enc k d (i * k + q) (by rw [hd]; exact hlt)
        rw [e1, e2, getElem!_pos _ _ (by simp [hd, hlt])] at h2
        rw [← h2]
        simp [putCells, Array.getD_eq_getD_getElem?, h1, hd, hlt]
      have e4 : ((enc d[i]!).map D.v).getD q default = D.v ((enc d[i]!)[q]!) := by
        have : q < (enc d[i]!).length := by rw [hk]; exact hq
        simp [List.getD_eq_getElem?_getD, this]
      rw [e3, e4]; exact .v _
    · simp at hy
  · rename_i hbc
    obtain ⟨o, ho, hB⟩ := hS.blk c y hy
    refine ⟨o, ho, hB.mono he hS.lt (.refl _ _) fun cb' hcb' => ?_⟩
    subst hcb'
    have hne : cb' ≠ cb := fun h => hbc (hS.inj _ _ _ hj (h ▸ ho))
    rw [hheap cb' (hS.lt c cb' ho), if_neg hne]
end
end Go.Abs

/-! Azt -/
namespace Go.Abs
set_option linter.unusedVariables false
set_option linter.unusedSimpArgs false
section
variable {P : Program} {c : Code} {Q : Exit → St → Prop} {N : Nat} {t t' : List (Nat × AV)} {σ σ' : List Blk} {mv : List Nat}
theorem awp_mc (k : Nat) {b sz lo n : Nat} (hk : get t k = some (.ms b sz lo n)) (h : ∀ q, n ≤ q → AWP P c Q ⟨N, put t k (.mc b sz lo n q), σ, mv⟩) : AWP P c Q ⟨N, t, σ, mv⟩ := by
  intro j0 j a w hr
  obtain ⟨hkN, hv⟩ := hr.tmp k _ hk
  have key : ∃ (p : Option Addr) (q : Nat), a.tmps.getD k Go.undef = .slice p n q ∧ n ≤ q := by
    revert hv
    generalize a.tmps.getD k Go.undef = v
    intro hv
    cases hv with
    | ms q e m h1 h2 h3 h4 => exact ⟨_, q, rfl, h3⟩
    | ms0 p h1 => exact ⟨p, 0, rfl, Nat.le_refl _⟩
    | msE p e m h1 h2 h3 h4 => exact ⟨p, 0, rfl, Nat.le_refl _⟩
  obtain ⟨p, q, hq, hn⟩ := key
  refine h q hn j0 j a w ⟨hr.defers, hr.rdok, hr.size, fun k' av hk' => ?_, hr.sto, hr.len0, hr.ag⟩
  simp only at hk'
  rw [get_put] at hk'
  split at hk'
  · rename_i e
    subst e
    simp only [Option.some.injEq] at hk'
    subst hk'
    exact ⟨hkN, .mc hv p hq⟩
  · exact hr.tmp k' av hk'
theorem awp_room (k : Nat) {b sz lo n q n' : Nat} {row : Nat → List D} (hk : get t k = some (.mc b sz lo n q)) (hb : σ[b]? = some (.arr sz n' row)) (hn : n' ≤ lo + q) (h : ∀ row', (∀ i, i < n' → row' i = row i) → AWP P c Q ⟨N, t, σ.set b (.arr sz (lo + q) row'), mv⟩) : AWP P c Q ⟨N, t, σ, mv⟩ := by
  intro j0 j a w hr
  obtain ⟨hkN, hv⟩ := hr.tmp k _ hk
  obtain ⟨o, ho, hB⟩ := hr.sto.blk b _ hb
  have key : ∃ row', (∀ i, i < n' → row' i = row i) ∧ RB w j (.arr sz (lo + q) row') o := by
    revert hv
    generalize a.tmps.getD k Go.undef = v
    intro hv
    cases hv with | mc hv p hp =>
    have fin : ∀ cb e m, j[b]? = some (some cb) → w.shape? cb = some (e, m) → (lo + q) * sz = m → ∃ row', (∀ i, i < n' → row' i = row i) ∧ RB w j (.arr sz (lo + q) row') o := by
      intro cb e m hj hs hm
      rw [hj] at ho
      cases ho
      obtain ⟨C, e', ⟨f, hC, hfz⟩, hCs, hCr⟩ := hB
      have hm' : C.size = m := by rw [shape_of hC] at hs; simp at hs; exact hs.2
      refine ⟨fun i => if i < n' then row i else (List.range sz).map fun r => .v (C.getD (i * sz + r) Go.undef), fun i hi => by simp [hi], C, e', ⟨f, hC, hfz⟩, by omega, fun i hi => ?_⟩
      by_cases hin : i < n'
      · simp only [hin, if_true]; exact hCr i hin
      · simp only [hin, if_false]
        refine ⟨by simp, fun r hr => ?_⟩
        have e1 : ((List.range sz).map fun r => D.v (C.getD (i * sz + r) Go.undef)).getD r default = .v (C.getD (i * sz + r) Go.undef) := by
          simp [List.getD_eq_getElem?_getD, hr]
        rw [e1]; exact .v _
    cases hv with
    | @ms _ _ _ _ cb q' e m h1 h2 h3 h4 => cases hp; exact fin cb e m h1 h2 h4
    | ms0 p' h1 =>
      cases hp
      rw [h1] at ho
      cases ho
      have : n' = 0 := hB
      exact ⟨row, fun _ _ => rfl, rfl⟩
    | @msE _ _ _ cb p' e m h1 h2 h3 h4 => cases hp; exact fin cb e m h1 h2 (by simpa using h4)
  obtain ⟨row', h1, h2⟩ := key
  refine h row' h1 j0 j a w ⟨hr.defers, hr.rdok, hr.size, hr.tmp, ⟨by simp [hr.sto.len], hr.sto.lt, hr.sto.inj, fun b' x hx => ?_⟩, hr.len0, hr.ag⟩
  rw [List.getElem?_set] at hx
  split at hx
  · rename_i e
    subst e
    split at hx <;> simp at hx
    subst hx
    exact ⟨o, ho, h2⟩
  · exact hr.sto.blk b' x hx
theorem relS_dead {w : World} {j : Js} (hS : RelS w j σ) (b : Nat) : RelS w (j.set b none) ((σ.map (scrubV [b])).set b .dead) ∧ Ev j w (j.set b none) w ∧ Ag j (j.set b none) [b] := by
  have he : Ev j w (j.set b none) w := ⟨Nat.le_refl _, fun _ _ _ => rfl, fun c _ hm => set_none_sub hm, fun _ _ => rfl, fun _ _ => rfl, rfl, rfl, rfl, fun _ r h => ⟨r, h⟩⟩
  have hag : Ag j (j.set b none) [b] := fun q hq hn => by
    simp at hn
    rw [List.getElem?_set_ne (by omega)]
  refine ⟨⟨by simp [hS.len], fun q cb hq => ?_, fun q q' cb hq hq' => ?_, fun q y hy => ?_⟩, he, hag⟩
  · rw [List.getElem?_set] at hq
    split at hq
    · split at hq <;> simp at hq
    · exact hS.lt q cb hq
  · rw [List.getElem?_set] at hq hq'
    split at hq
    · split at hq <;> simp at hq
    · split at hq'
      · split at hq' <;> simp at hq'
      · exact hS.inj q q' cb hq hq'
  · rw [List.getElem?_set] at hy
    split at hy
    · rename_i e
      subst e
      simp only [List.length_map] at hy
      split at hy <;> simp at hy
      rename_i hlt
      subst hy
      exact ⟨none, by rw [List.getElem?_set]; simp [hS.len, hlt], trivial⟩
    · rename_i e
      simp only [List.getElem?_map, Option.map_eq_some_iff] at hy
      obtain ⟨y', hy', rfl⟩ := hy
      obtain ⟨o, ho, hB⟩ := hS.blk q y' hy'
      exact ⟨o, by rw [List.getElem?_set]; simp [e, ho], hB.monoX he hS.lt hag fun _ _ => rfl⟩
theorem awp_kill (b : Nat) (ht : scrub' [b] t = t') (hσ : (σ.map (scrubV [b])).set b .dead = σ') (h : AWP P c Q ⟨N, t', σ', mv ++ [b]⟩) : AWP P c Q ⟨N, t, σ, mv⟩ := by
  subst ht hσ
  refine awp_sub (s' := ⟨N, scrub' [b] t, (σ.map (scrubV [b])).set b .dead, mv ++ [b]⟩) ?_ h
  intro j0 j a w hr
  obtain ⟨h1, h2, h3⟩ := relS_dead hr.sto b
  exact ⟨_, hr.after h2 h1 (by simp) h3, h2⟩
theorem awp_dead (b : Nat) {sz n' : Nat} {row : Nat → List D} (hb : σ[b]? = some (.arr sz n' row)) (ht : frzM b sz n' row t = t') (hσ : (σ.map (scrubV [b])).set b .dead = σ') (h : AWP P c Q ⟨N, t', σ', mv ++ [b]⟩) : AWP P c Q ⟨N, t, σ, mv⟩ := by
  subst ht hσ
  refine awp_sub (s' := ⟨N, frzM b sz n' row t, (σ.map (scrubV [b])).set b .dead, mv ++ [b]⟩) ?_ h
  intro j0 j a w hr
  obtain ⟨h1, h2, h3⟩ := relS_dead hr.sto b
  refine ⟨_, ⟨hr.defers.mono h2, hr.rdok, hr.size, fun k av hk => ?_, h1, by simpa using hr.len0, hr.ag.trans hr.len0 h3⟩, h2⟩
  obtain ⟨x, hx, rfl⟩ := frzM_get hk
  exact ⟨(hr.tmp k x hx).1, (hr.tmp k x hx).2.frzT hr.sto hb⟩
theorem awp_map (b : Nat) {d : Bool} {ks ks' : List Key} {f f' : Key → AV} (hb : σ[b]? = some (.mp d ks f)) (hk : ks.Perm ks') (hf : ∀ k ∈ ks, Same (f k) (f' k)) (hfree : ∀ k, (f' k).free = true) (hσ : σ.set b (.mp d ks' f') = σ') (h : AWP P c Q ⟨N, t, σ', mv⟩) : AWP P c Q ⟨N, t, σ, mv⟩ := by
  subst hσ
  refine awp_sub (s' := ⟨N, t, σ.set b (.mp d ks' f'), mv⟩) ?_ h
  intro j0 j a w hr
  obtain ⟨o, ho, hB⟩ := hr.sto.blk b _ hb
  cases o with
  | none => exact hB.elim
  | some cb =>
  obtain ⟨es, cl, h1, h2⟩ := hB
  refine ⟨j, ⟨hr.defers, hr.rdok, hr.size, hr.tmp, ⟨by simp [hr.sto.len], hr.sto.lt, hr.sto.inj, fun b' x hx => ?_⟩, hr.len0, hr.ag⟩, .refl _ _⟩
  rw [List.getElem?_set] at hx
  split at hx
  · rename_i e
    subst e
    split at hx <;> simp at hx
    subst hx
    refine ⟨some cb, ho, es, cl, h1, h2.stamped, h2.keys.trans (hk.map _), fun k hk' => h2.kind k (hk.mem_iff.2 hk'), hfree, fun e he k hke => ?_⟩
    exact hf k (h2.mem.2 ⟨e, he, hke⟩) w j _ (h2.rel e he k hke)
  · exact hr.sto.blk b' x hx
theorem awp_iter (b : Nat) {left left' : List Key} {cur : Option Key} {f f' : Key → AV} (hb : σ[b]? = some (.it left cur f)) (hk : left.Perm left') (hf : ∀ k, Same (f k) (f' k)) (hfree : ∀ k, (f' k).free = true) (hσ : σ.set b (.it left' cur f') = σ') (h : AWP P c Q ⟨N, t, σ', mv⟩) : AWP P c Q ⟨N, t, σ, mv⟩ := by
  subst hσ
  refine awp_sub (s' := ⟨N, t, σ.set b (.it left' cur f'), mv⟩) ?_ h
  intro j0 j a w hr
  obtain ⟨o, ho, hB⟩ := hr.sto.blk b _ hb
  cases o with
  | none => exact hB.elim
  | some cb =>
  obtain ⟨mb, es, cl, seen, h1, h2⟩ := hB
  refine ⟨j, ⟨hr.defers, hr.rdok, hr.size, hr.tmp, ⟨by simp [hr.sto.len], hr.sto.lt, hr.sto.inj, fun b' x hx => ?_⟩, hr.len0, hr.ag⟩, .refl _ _⟩
  rw [List.getElem?_set] at hx
  split at hx
  · rename_i e
    subst e
    split at hx <;> simp at hx
    subst hx
    exact ⟨some cb, ho, mb, es, cl, seen, h1, h2.lt, h2.own, h2.heap, h2.stamped, h2.keys.trans (hk.map _), h2.cur, hfree, fun e he k hke => hf k w j _ (h2.rel e he k hke)⟩
  · exact hr.sto.blk b' x hx
end
theorem Same.op_el {cs : List D} : Same (.el cs) (.op true cs) := fun w j v h => .op (fun _ => h) (fun h => by cases h)
theorem Same.op_nil {cs : List D} : Same (.d (.v (.pointer none))) (.op false cs) := fun w j v h => .op (fun h => by cases h) (fun _ => R_v h)
theorem Same.agg {xs ys : List AV} (hl : xs.length = ys.length) (h : ∀ k, k < xs.length → Same (xs.getD k .undef) (ys.getD k .undef)) : Same (.agg xs) (.agg ys) := fun w j v hr => by
  cases hr with
  | agg vs hs hv => exact .agg vs (by rw [hs, hl]) fun k hk => h k (by omega) w j _ (hv k (by omega))
theorem scrubV_idem (X : List Nat) (x : Blk) : scrubV X (scrubV X x) = scrubV X x := by
  cases x with
  | var cs =>
    simp only [scrubV, List.map_map, Blk.var.injEq]
    apply List.map_congr_left
    intro c _
    simp only [Function.comp]
    split
    · rename_i h; simp [h]
    · simp [AV.avoids]
  | lp L st pd =>
    simp only [scrubV, Blk.lp.injEq, and_true]
    rw [scrub'_id fun k av h => (scrub'_mem h).2]
  | _ => rfl
theorem scrubV_comp (X : List Nat) : scrubV X ∘ scrubV X = scrubV X := by funext x; exact scrubV_idem X x
theorem map_scrub_idem (X : List Nat) (σ : List Blk) : (σ.map (scrubV X)).map (scrubV X) = σ.map (scrubV X) := by rw [List.map_map, scrubV_comp]
theorem leaves_dead {σ τ : List Blk} {x : Blk} (y : Blk) (Y : List Nat) : Leaves (σ ++ x :: y :: τ) (σ.map (scrubV Y) ++ .dead :: y :: τ.map (scrubV Y)) := by
  refine ⟨by simp, fun b z hz => ?_⟩
  rw [List.getElem?_append] at hz ⊢
  simp only [List.length_map] at hz
  split at hz
  · rename_i hb
    rw [if_pos hb]
    simp only [List.getElem?_map, Option.map_eq_some_iff] at hz
    obtain ⟨y', h1, rfl⟩ := hz
    exact .inr (.inr ⟨Y, y', h1, rfl⟩)
  · rename_i hb
    rw [if_neg hb]
    generalize b - σ.length = k at hz
    rcases k with _ | _ | k
    · simp at hz; subst hz; exact .inr (.inl trivial)
    · simp at hz; subst hz; exact .inl rfl
    · simp only [List.getElem?_cons_succ, List.getElem?_map, Option.map_eq_some_iff] at hz ⊢
      obtain ⟨y', h1, rfl⟩ := hz
      exact .inr (.inr ⟨Y, y', h1, rfl⟩)
theorem WfS.parts {σ τ : List Blk} {x : Blk} (h : WfS (σ ++ x :: τ)) (k : Nat) : σ.map (scrubV [(σ ++ x :: τ).length + k]) = σ ∧ τ.map (scrubV [(σ ++ x :: τ).length + k]) = τ := by
  have := h.one k
  rw [List.map_append, List.map_cons] at this
  obtain ⟨h1, h2⟩ := List.append_inj this (by simp)
  simp only [List.cons.injEq] at h2
  exact ⟨h1, h2.2⟩
end Go.Abs

/-! Ba -/
namespace Go.Proofs.YtldnolgijfkfpaaGreatDoor
open Go.Abs
@[go_sem] theorem T.arA_116 : arA Tryz.prog 116 = some (24, 1) := by kernel_rfl
@[go_sem] theorem T.arA_118 : arA Tryz.prog 118 = some (25, 1) := by kernel_rfl
@[go_sem] theorem T.arA_145 : arA Tryz.prog 145 = some (5, 1) := by kernel_rfl
@[go_sem] theorem T.arA_164 : arA Tryz.prog 164 = some (32, 1) := by kernel_rfl
@[go_sem] theorem T.arA_165 : arA Tryz.prog 165 = some (64, 1) := by kernel_rfl
@[go_sem] theorem T.arA_37 : arA Tryz.prog 37 = some (2, 1) := by kernel_rfl
@[go_sem] theorem T.arA_79 : arA Tryz.prog 79 = some (61, 1) := by kernel_rfl
@[go_sem] theorem T.arA_91 : arA Tryz.prog 91 = some (25, 1) := by kernel_rfl
@[go_sem] theorem T.arV_116 : arV Tryz.prog 116 = some (24, false, 1) := by kernel_rfl
@[go_sem] theorem T.arV_91 : arV Tryz.prog 91 = some (25, false, 1) := by kernel_rfl
@[go_sem] theorem T.boolT_4 : boolT Tryz.prog 4 = true := by kernel_rfl
@[go_sem] theorem T.eqA_57 : eqA Tryz.prog 57 = some [.i, .i] := by kernel_rfl
@[go_sem] theorem T.fieldA_126_0 : fieldA Tryz.prog 126 0 = some 0 := by kernel_rfl
@[go_sem] theorem T.fieldA_126_1 : fieldA Tryz.prog 126 1 = some 1 := by kernel_rfl
@[go_sem] theorem T.fieldA_24_0 : fieldA Tryz.prog 24 0 = some 0 := by kernel_rfl
@[go_sem] theorem T.fieldA_24_1 : fieldA Tryz.prog 24 1 = some 1 := by kernel_rfl
@[go_sem] theorem T.fieldA_24_2 : fieldA Tryz.prog 24 2 = some 2 := by kernel_rfl
@[go_sem] theorem T.fieldA_24_3 : fieldA Tryz.prog 24 3 = some 3 := by kernel_rfl
@[go_sem] theorem T.fieldA_24_4 : fieldA Tryz.prog 24 4 = some 4 := by kernel_rfl
@[go_sem] theorem T.fieldA_24_5 : fieldA Tryz.prog 24 5 = some 5 := by kernel_rfl
@[go_sem] theorem T.fieldA_24_6 : fieldA Tryz.prog 24 6 = some 6 := by kernel_rfl
@[go_sem] theorem T.fieldA_24_7 : fieldA Tryz.prog 24 7 = some 7 := by kernel_rfl
@[go_sem] theorem T.fieldA_26_0 : fieldA Tryz.prog 26 0 = some 0 := by kernel_rfl
@[go_sem] theorem T.fieldA_26_1 : fieldA Tryz.prog 26 1 = some 1 := by kernel_rfl
@[go_sem] theorem T.fieldA_26_2 : fieldA Tryz.prog 26 2 = some 2 := by kernel_rfl
@[go_sem] theorem T.fieldA_26_3 : fieldA Tryz.prog 26 3 = some 3 := by kernel_rfl
@[go_sem] theorem T.fieldA_26_4 : fieldA Tryz.prog 26 4 = some 4 := by kernel_rfl
@[go_sem] theorem T.fieldA_57_0 : fieldA Tryz.prog 57 0 = some 0 := by kernel_rfl
@[go_sem] theorem T.fieldA_57_1 : fieldA Tryz.prog 57 1 = some 1 := by kernel_rfl
@[go_sem] theorem T.fieldA_94_0 : fieldA Tryz.prog 94 0 = some 0 := by kernel_rfl
@[go_sem] theorem T.fieldA_94_1 : fieldA Tryz.prog 94 1 = some 25 := by kernel_rfl
@[go_sem] theorem T.fieldA_94_2 : fieldA Tryz.prog 94 2 = some 26 := by kernel_rfl
@[go_sem] theorem T.intT_108 : intT Tryz.prog 108 = some .u32 := by kernel_rfl
@[go_sem] theorem T.intT_124 : intT Tryz.prog 124 = none := by kernel_rfl
@[go_sem] theorem T.intT_137 : intT Tryz.prog 137 = some .u64 := by kernel_rfl
@[go_sem] theorem T.intT_161 : intT Tryz.prog 161 = none := by kernel_rfl
@[go_sem] theorem T.intT_3 : intT Tryz.prog 3 = some .i64 := by kernel_rfl
@[go_sem] theorem T.intT_5 : intT Tryz.prog 5 = some .u8 := by kernel_rfl
@[go_sem] theorem T.intT_50 : intT Tryz.prog 50 = none := by kernel_rfl
@[go_sem] theorem T.intT_87 : intT Tryz.prog 87 = some .u64 := by kernel_rfl
@[go_sem] theorem T.intT_9 : intT Tryz.prog 9 = none := by kernel_rfl
@[go_sem] theorem T.intT_90 : intT Tryz.prog 90 = some .u64 := by kernel_rfl
@[go_sem] theorem T.isArr_116 : isArr Tryz.prog 116 = true := by kernel_rfl
@[go_sem] theorem T.isArr_118 : isArr Tryz.prog 118 = true := by kernel_rfl
@[go_sem] theorem T.isArr_145 : isArr Tryz.prog 145 = true := by kernel_rfl
@[go_sem] theorem T.isArr_164 : isArr Tryz.prog 164 = true := by kernel_rfl
@[go_sem] theorem T.isArr_165 : isArr Tryz.prog 165 = true := by kernel_rfl
@[go_sem] theorem T.isArr_22 : isArr Tryz.prog 22 = false := by kernel_rfl
@[go_sem] theorem T.isArr_37 : isArr Tryz.prog 37 = true := by kernel_rfl
@[go_sem] theorem T.isArr_49 : isArr Tryz.prog 49 = false := by kernel_rfl
@[go_sem] theorem T.isArr_50 : isArr Tryz.prog 50 = false := by kernel_rfl
@[go_sem] theorem T.isArr_52 : isArr Tryz.prog 52 = false := by kernel_rfl
@[go_sem] theorem T.isArr_79 : isArr Tryz.prog 79 = true := by kernel_rfl
@[go_sem] theorem T.isArr_91 : isArr Tryz.prog 91 = true := by kernel_rfl
@[go_sem] theorem T.isArr_95 : isArr Tryz.prog 95 = false := by kernel_rfl
@[go_sem] theorem T.isSlT_100 : isSlT Tryz.prog 100 = false := by kernel_rfl
@[go_sem] theorem T.isSlT_108 : isSlT Tryz.prog 108 = false := by kernel_rfl
@[go_sem] theorem T.isSlT_124 : isSlT Tryz.prog 124 = false := by kernel_rfl
@[go_sem] theorem T.isSlT_137 : isSlT Tryz.prog 137 = false := by kernel_rfl
@[go_sem] theorem T.isSlT_22 : isSlT Tryz.prog 22 = true := by kernel_rfl
@[go_sem] theorem T.isSlT_29 : isSlT Tryz.prog 29 = false := by kernel_rfl
@[go_sem] theorem T.isSlT_3 : isSlT Tryz.prog 3 = false := by kernel_rfl
@[go_sem] theorem T.isSlT_4 : isSlT Tryz.prog 4 = false := by kernel_rfl
@[go_sem] theorem T.isSlT_5 : isSlT Tryz.prog 5 = false := by kernel_rfl
@[go_sem] theorem T.isSlT_52 : isSlT Tryz.prog 52 = true := by kernel_rfl
@[go_sem] theorem T.isSlT_57 : isSlT Tryz.prog 57 = false := by kernel_rfl
@[go_sem] theorem T.isSlT_87 : isSlT Tryz.prog 87 = false := by kernel_rfl
@[go_sem] theorem T.isSlT_9 : isSlT Tryz.prog 9 = false := by kernel_rfl
@[go_sem] theorem T.isSlT_90 : isSlT Tryz.prog 90 = false := by kernel_rfl
@[go_sem] theorem T.lenT_22 : lenT Tryz.prog 22 = 1 := by kernel_rfl
@[go_sem] theorem T.lenT_49 : lenT Tryz.prog 49 = 1 := by kernel_rfl
@[go_sem] theorem T.lenT_50 : lenT Tryz.prog 50 = 1 := by kernel_rfl
@[go_sem] theorem T.lenT_52 : lenT Tryz.prog 52 = 1 := by kernel_rfl
@[go_sem] theorem T.lenT_9 : lenT Tryz.prog 9 = 2 := by kernel_rfl
@[go_sem] theorem T.lenT_95 : lenT Tryz.prog 95 = 1 := by kernel_rfl
@[go_sem] theorem T.placesA_116 : placesA Tryz.prog 116 = some ([(0, 1), (1, 1), (2, 1), (3, 1), (4, 1), (5, 1), (6, 1), (7, 1), (8, 1), (9, 1), (10, 1), (11, 1), (12, 1), (13, 1), (14, 1), (15, 1), (16, 1), (17, 1), (18, 1), (19, 1), (20, 1), (21, 1), (22, 1), (23, 1)], [.int .u64 0, .int .u64 0, .int .u64 0, .int .u64 0, .int .u64 0, .int .u64 0, .int .u64 0, .int .u64 0, .int .u64 0, .int .u64 0, .int .u64 0, .int .u64 0, .int .u64 0, .int .u64 0, .int .u64 0, .int .u64 0, .int .u64 0, .int .u64 0, .int .u64 0, .int .u64 0, .int .u64 0, .int .u64 0, .int .u64 0, .int .u64 0]) := by kernel_rfl
@[go_sem] theorem T.placesA_118 : placesA Tryz.prog 118 = some ([(0, 1), (1, 1), (2, 1), (3, 1), (4, 1), (5, 1), (6, 1), (7, 1), (8, 1), (9, 1), (10, 1), (11, 1), (12, 1), (13, 1), (14, 1), (15, 1), (16, 1), (17, 1), (18, 1), (19, 1), (20, 1), (21, 1), (22, 1), (23, 1), (24, 1)], [.int .i64 0, .int .i64 0, .int .i64 0, .int .i64 0, .int .i64 0, .int .i64 0, .int .i64 0, .int .i64 0, .int .i64 0, .int .i64 0, .int .i64 0, .int .i64 0, .int .i64 0, .int .i64 0, .int .i64 0, .int .i64 0, .int .i64 0, .int .i64 0, .int .i64 0, .int .i64 0, .int .i64 0, .int .i64 0, .int .i64 0, .int .i64 0, .int .i64 0]) := by kernel_rfl
@[go_sem] theorem T.placesA_145 : placesA Tryz.prog 145 = some ([(0, 1), (1, 1), (2, 1), (3, 1), (4, 1)], [.int .u64 0, .int .u64 0, .int .u64 0, .int .u64 0, .int .u64 0]) := by kernel_rfl
@[go_sem] theorem T.placesA_24 : placesA Tryz.prog 24 = some ([(0, 1), (1, 1), (2, 1), (3, 1), (4, 1), (5, 1), (6, 1), (7, 1)], [.int .i64 0, .int .i64 0, .int .i64 0, .int .i64 0, .int .i64 0, .int .i64 0, .slice none 0 0, .slice none 0 0]) := by kernel_rfl
@[go_sem] theorem T.placesA_57 : placesA Tryz.prog 57 = some ([(0, 1), (1, 1)], [.int .i64 0, .int .i64 0]) := by kernel_rfl
@[go_sem] theorem T.placesA_91 : placesA Tryz.prog 91 = some ([(0, 1), (1, 1), (2, 1), (3, 1), (4, 1), (5, 1), (6, 1), (7, 1), (8, 1), (9, 1), (10, 1), (11, 1), (12, 1), (13, 1), (14, 1), (15, 1), (16, 1), (17, 1), (18, 1), (19, 1), (20, 1), (21, 1), (22, 1), (23, 1), (24, 1)], [.int .u64 0, .int .u64 0, .int .u64 0, .int .u64 0, .int .u64 0, .int .u64 0, .int .u64 0, .int .u64 0, .int .u64 0, .int .u64 0, .int .u64 0, .int .u64 0, .int .u64 0, .int .u64 0, .int .u64 0, .int .u64 0, .int .u64 0, .int .u64 0, .int .u64 0, .int .u64 0, .int .u64 0, .int .u64 0, .int .u64 0, .int .u64 0, .int .u64 0]) := by kernel_rfl
@[go_sem] theorem T.placesA_94 : placesA Tryz.prog 94 = some ([(0, 25), (25, 1), (26, 1)], [.int .u64 0, .int .u64 0, .int .u64 0, .int .u64 0, .int .u64 0, .int .u64 0, .int .u64 0, .int .u64 0, .int .u64 0, .int .u64 0, .int .u64 0, .int .u64 0, .int .u64 0, .int .u64 0, .int .u64 0, .int .u64 0, .int .u64 0, .int .u64 0, .int .u64 0, .int .u64 0, .int .u64 0, .int .u64 0, .int .u64 0, .int .u64 0, .int .u64 0, .string ⟨#[]⟩, .int .i64 0]) := by kernel_rfl
@[go_sem] theorem T.ptrT_124 : ptrT Tryz.prog 124 = true := by kernel_rfl
@[go_sem] theorem T.slA_22 : slA Tryz.prog 22 = some (3, 1) := by kernel_rfl
@[go_sem] theorem T.slA_49 : slA Tryz.prog 49 = some (50, 1) := by kernel_rfl
@[go_sem] theorem T.slA_50 : slA Tryz.prog 50 = some (5, 1) := by kernel_rfl
@[go_sem] theorem T.slA_52 : slA Tryz.prog 52 = some (57, 2) := by kernel_rfl
@[go_sem] theorem T.slA_95 : slA Tryz.prog 95 = some (9, 1) := by kernel_rfl
@[go_sem] theorem T.slB_22 : slB Tryz.prog 22 = some (3, 1, 8, [.int .i64 0]) := by kernel_rfl
@[go_sem] theorem T.slB_50 : slB Tryz.prog 50 = some (5, 1, 1, [.int .u8 0]) := by kernel_rfl
@[go_sem] theorem T.slB_52 : slB Tryz.prog 52 = some (57, 2, 16, [.int .i64 0, .int .i64 0]) := by kernel_rfl
@[go_sem] theorem T.slB_95 : slB Tryz.prog 95 = some (9, 1, 16, [.string ⟨#[]⟩]) := by kernel_rfl
@[go_sem] theorem T.strT_108 : strT Tryz.prog 108 = false := by kernel_rfl
@[go_sem] theorem T.strT_124 : strT Tryz.prog 124 = false := by kernel_rfl
@[go_sem] theorem T.strT_137 : strT Tryz.prog 137 = false := by kernel_rfl
@[go_sem] theorem T.strT_161 : strT Tryz.prog 161 = false := by kernel_rfl
@[go_sem] theorem T.strT_3 : strT Tryz.prog 3 = false := by kernel_rfl
@[go_sem] theorem T.strT_5 : strT Tryz.prog 5 = false := by kernel_rfl
@[go_sem] theorem T.strT_50 : strT Tryz.prog 50 = false := by kernel_rfl
@[go_sem] theorem T.strT_87 : strT Tryz.prog 87 = false := by kernel_rfl
@[go_sem] theorem T.strT_9 : strT Tryz.prog 9 = true := by kernel_rfl
@[go_sem] theorem T.strT_90 : strT Tryz.prog 90 = false := by kernel_rfl
@[go_sem] theorem T.tyA_116 : tyA Tryz.prog 116 = some (true, 24) := by kernel_rfl
@[go_sem] theorem T.tyA_118 : tyA Tryz.prog 118 = some (true, 25) := by kernel_rfl
@[go_sem] theorem T.tyA_124 : tyA Tryz.prog 124 = some (false, 1) := by kernel_rfl
@[go_sem] theorem T.tyA_137 : tyA Tryz.prog 137 = some (false, 1) := by kernel_rfl
@[go_sem] theorem T.tyA_145 : tyA Tryz.prog 145 = some (true, 5) := by kernel_rfl
@[go_sem] theorem T.tyA_22 : tyA Tryz.prog 22 = some (false, 1) := by kernel_rfl
@[go_sem] theorem T.tyA_24 : tyA Tryz.prog 24 = some (true, 8) := by kernel_rfl
@[go_sem] theorem T.tyA_3 : tyA Tryz.prog 3 = some (false, 1) := by kernel_rfl
@[go_sem] theorem T.tyA_5 : tyA Tryz.prog 5 = some (false, 1) := by kernel_rfl
@[go_sem] theorem T.tyA_50 : tyA Tryz.prog 50 = some (false, 1) := by kernel_rfl
@[go_sem] theorem T.tyA_52 : tyA Tryz.prog 52 = some (false, 1) := by kernel_rfl
@[go_sem] theorem T.tyA_57 : tyA Tryz.prog 57 = some (true, 2) := by kernel_rfl
@[go_sem] theorem T.tyA_74 : tyA Tryz.prog 74 = some (false, 1) := by kernel_rfl
@[go_sem] theorem T.tyA_9 : tyA Tryz.prog 9 = some (false, 1) := by kernel_rfl
@[go_sem] theorem T.tyA_90 : tyA Tryz.prog 90 = some (false, 1) := by kernel_rfl
@[go_sem] theorem T.tyA_91 : tyA Tryz.prog 91 = some (true, 25) := by kernel_rfl
@[go_sem] theorem T.zeroA_116 : zeroA Tryz.prog 116 = some [.int .u64 0, .int .u64 0, .int .u64 0, .int .u64 0, .int .u64 0, .int .u64 0, .int .u64 0, .int .u64 0, .int .u64 0, .int .u64 0, .int .u64 0, .int .u64 0, .int .u64 0, .int .u64 0, .int .u64 0, .int .u64 0, .int .u64 0, .int .u64 0, .int .u64 0, .int .u64 0, .int .u64 0, .int .u64 0, .int .u64 0, .int .u64 0] := by kernel_rfl
@[go_sem] theorem T.zeroA_118 : zeroA Tryz.prog 118 = some [.int .i64 0, .int .i64 0, .int .i64 0, .int .i64 0, .int .i64 0, .int .i64 0, .int .i64 0, .int .i64 0, .int .i64 0, .int .i64 0, .int .i64 0, .int .i64 0, .int .i64 0, .int .i64 0, .int .i64 0, .int .i64 0, .int .i64 0, .int .i64 0, .int .i64 0, .int .i64 0, .int .i64 0, .int .i64 0, .int .i64 0, .int .i64 0, .int .i64 0] := by kernel_rfl
@[go_sem] theorem T.zeroA_126 : zeroA Tryz.prog 126 = some [.pointer none, .slice none 0 0] := by kernel_rfl
@[go_sem] theorem T.zeroA_137 : zeroA Tryz.prog 137 = some [.int .u64 0] := by kernel_rfl
@[go_sem] theorem T.zeroA_145 : zeroA Tryz.prog 145 = some [.int .u64 0, .int .u64 0, .int .u64 0, .int .u64 0, .int .u64 0] := by kernel_rfl
@[go_sem] theorem T.zeroA_24 : zeroA Tryz.prog 24 = some [.int .i64 0, .int .i64 0, .int .i64 0, .int .i64 0, .int .i64 0, .int .i64 0, .slice none 0 0, .slice none 0 0] := by kernel_rfl
@[go_sem] theorem T.zeroA_3 : zeroA Tryz.prog 3 = some [.int .i64 0] := by kernel_rfl
@[go_sem] theorem T.zeroA_57 : zeroA Tryz.prog 57 = some [.int .i64 0, .int .i64 0] := by kernel_rfl
@[go_sem] theorem T.zeroA_74 : zeroA Tryz.prog 74 = some [.nilFunc] := by kernel_rfl
@[go_sem] theorem T.zeroA_79 : zeroA Tryz.prog 79 = some [.int .i64 0, .int .i64 0, .int .i64 0, .int .i64 0, .int .i64 0, .int .i64 0, .int .i64 0, .int .i64 0, .int .i64 0, .int .i64 0, .int .i64 0, .int .i64 0, .int .i64 0, .int .i64 0, .int .i64 0, .int .i64 0, .int .i64 0, .int .i64 0, .int .i64 0, .int .i64 0, .int .i64 0, .int .i64 0, .int .i64 0, .int .i64 0, .int .i64 0, .int .i64 0, .int .i64 0, .int .i64 0, .int .i64 0, .int .i64 0, .int .i64 0, .int .i64 0, .int .i64 0, .int .i64 0, .int .i64 0, .int .i64 0, .int .i64 0, .int .i64 0, .int .i64 0, .int .i64 0, .int .i64 0, .int .i64 0, .int .i64 0, .int .i64 0, .int .i64 0, .int .i64 0, .int .i64 0, .int .i64 0, .int .i64 0, .int .i64 0, .int .i64 0, .int .i64 0, .int .i64 0, .int .i64 0, .int .i64 0, .int .i64 0, .int .i64 0, .int .i64 0, .int .i64 0, .int .i64 0, .int .i64 0] := by kernel_rfl
@[go_sem] theorem T.zeroA_91 : zeroA Tryz.prog 91 = some [.int .u64 0, .int .u64 0, .int .u64 0, .int .u64 0, .int .u64 0, .int .u64 0, .int .u64 0, .int .u64 0, .int .u64 0, .int .u64 0, .int .u64 0, .int .u64 0, .int .u64 0, .int .u64 0, .int .u64 0, .int .u64 0, .int .u64 0, .int .u64 0, .int .u64 0, .int .u64 0, .int .u64 0, .int .u64 0, .int .u64 0, .int .u64 0, .int .u64 0] := by kernel_rfl
theorem T.en3 : entersB Tryz.prog 3 = true := by kernel_rfl
theorem T.en4 : entersB Tryz.prog 4 = true := by kernel_rfl
theorem T.en5 : entersB Tryz.prog 5 = true := by kernel_rfl
theorem T.en6 : entersB Tryz.prog 6 = true := by kernel_rfl
theorem T.en7 : entersB Tryz.prog 7 = true := by kernel_rfl
theorem T.en8 : entersB Tryz.prog 8 = true := by kernel_rfl
theorem T.en9 : entersB Tryz.prog 9 = true := by kernel_rfl
theorem T.en10 : entersB Tryz.prog 10 = true := by kernel_rfl
theorem T.en11 : entersB Tryz.prog 11 = true := by kernel_rfl
theorem T.en12 : entersB Tryz.prog 12 = true := by kernel_rfl
theorem T.en13 : entersB Tryz.prog 13 = true := by kernel_rfl
theorem T.en14 : entersB Tryz.prog 14 = true := by kernel_rfl
theorem T.en15 : entersB Tryz.prog 15 = true := by kernel_rfl
theorem T.en16 : entersB Tryz.prog 16 = true := by kernel_rfl
theorem T.en17 : entersB Tryz.prog 17 = true := by kernel_rfl
theorem T.en18 : entersB Tryz.prog 18 = true := by kernel_rfl
theorem T.en19 : entersB Tryz.prog 19 = true := by kernel_rfl
theorem T.en20 : entersB Tryz.prog 20 = true := by kernel_rfl
theorem T.en21 : entersB Tryz.prog 21 = true := by kernel_rfl
theorem T.en22 : entersB Tryz.prog 22 = true := by kernel_rfl
theorem T.en23 : entersB Tryz.prog 23 = true := by kernel_rfl
theorem T.en24 : entersB Tryz.prog 24 = true := by kernel_rfl
theorem T.en25 : entersB Tryz.prog 25 = true := by kernel_rfl
theorem T.en26 : entersB Tryz.prog 26 = true := by kernel_rfl
theorem T.en27 : entersB Tryz.prog 27 = true := by kernel_rfl
theorem T.en28 : entersB Tryz.prog 28 = true := by kernel_rfl
theorem T.en29 : entersB Tryz.prog 29 = true := by kernel_rfl
theorem T.en30 : entersB Tryz.prog 30 = true := by kernel_rfl
theorem T.en31 : entersB Tryz.prog 31 = true := by kernel_rfl
theorem T.en32 : entersB Tryz.prog 32 = true := by kernel_rfl
theorem T.en33 : entersB Tryz.prog 33 = true := by kernel_rfl
theorem T.en34 : entersB Tryz.prog 34 = true := by kernel_rfl
theorem T.en35 : entersB Tryz.prog 35 = true := by kernel_rfl
theorem T.en36 : entersB Tryz.prog 36 = true := by kernel_rfl
theorem T.en37 : entersB Tryz.prog 37 = true := by kernel_rfl
theorem T.en38 : entersB Tryz.prog 38 = true := by kernel_rfl
theorem T.en39 : entersB Tryz.prog 39 = true := by kernel_rfl
theorem T.en40 : entersB Tryz.prog 40 = true := by kernel_rfl
theorem T.en41 : entersB Tryz.prog 41 = true := by kernel_rfl
theorem T.en42 : entersB Tryz.prog 42 = true := by kernel_rfl
theorem T.en43 : entersB Tryz.prog 43 = true := by kernel_rfl
theorem T.en44 : entersB Tryz.prog 44 = true := by kernel_rfl
theorem T.en45 : entersB Tryz.prog 45 = true := by kernel_rfl
theorem T.en46 : entersB Tryz.prog 46 = true := by kernel_rfl
theorem T.en47 : entersB Tryz.prog 47 = true := by kernel_rfl
theorem T.en48 : entersB Tryz.prog 48 = true := by kernel_rfl
theorem T.en49 : entersB Tryz.prog 49 = true := by kernel_rfl
theorem T.en50 : entersB Tryz.prog 50 = true := by kernel_rfl
theorem T.en51 : entersB Tryz.prog 51 = true := by kernel_rfl
theorem T.en52 : entersB Tryz.prog 52 = true := by kernel_rfl
theorem T.en53 : entersB Tryz.prog 53 = true := by kernel_rfl
theorem T.en54 : entersB Tryz.prog 54 = true := by kernel_rfl
theorem T.en55 : entersB Tryz.prog 55 = true := by kernel_rfl
theorem T.en56 : entersB Tryz.prog 56 = true := by kernel_rfl
theorem T.en57 : entersB Tryz.prog 57 = true := by kernel_rfl
theorem T.en58 : entersB Tryz.prog 58 = true := by kernel_rfl
theorem T.en59 : entersB Tryz.prog 59 = true := by kernel_rfl
theorem T.en60 : entersB Tryz.prog 60 = true := by kernel_rfl
theorem T.en61 : entersB Tryz.prog 61 = true := by kernel_rfl
theorem T.en62 : entersB Tryz.prog 62 = true := by kernel_rfl
theorem T.en63 : entersB Tryz.prog 63 = true := by kernel_rfl
theorem T.en64 : entersB Tryz.prog 64 = true := by kernel_rfl
theorem T.en65 : entersB Tryz.prog 65 = true := by kernel_rfl
theorem T.en66 : entersB Tryz.prog 66 = true := by kernel_rfl
theorem T.en67 : entersB Tryz.prog 67 = true := by kernel_rfl
theorem T.en68 : entersB Tryz.prog 68 = true := by kernel_rfl
theorem T.en69 : entersB Tryz.prog 69 = true := by kernel_rfl
theorem T.en70 : entersB Tryz.prog 70 = true := by kernel_rfl
theorem T.en71 : entersB Tryz.prog 71 = true := by kernel_rfl
theorem T.en72 : entersB Tryz.prog 72 = true := by kernel_rfl
theorem T.en73 : entersB Tryz.prog 73 = true := by kernel_rfl
theorem T.en75 : entersB Tryz.prog 75 = true := by kernel_rfl
theorem T.en76 : entersB Tryz.prog 76 = true := by kernel_rfl
theorem T.en77 : entersB Tryz.prog 77 = true := by kernel_rfl
theorem T.en78 : entersB Tryz.prog 78 = true := by kernel_rfl
theorem T.en79 : entersB Tryz.prog 79 = true := by kernel_rfl
theorem T.en80 : entersB Tryz.prog 80 = true := by kernel_rfl
theorem T.en81 : entersB Tryz.prog 81 = true := by kernel_rfl
theorem T.en82 : entersB Tryz.prog 82 = true := by kernel_rfl
theorem T.en84 : entersB Tryz.prog 84 = true := by kernel_rfl
theorem T.en85 : entersB Tryz.prog 85 = true := by kernel_rfl
theorem T.en86 : entersB Tryz.prog 86 = true := by kernel_rfl
theorem T.en87 : entersB Tryz.prog 87 = true := by kernel_rfl
theorem T.en88 : entersB Tryz.prog 88 = true := by kernel_rfl
theorem T.en89 : entersB Tryz.prog 89 = true := by kernel_rfl
theorem T.en90 : entersB Tryz.prog 90 = true := by kernel_rfl
theorem T.en91 : entersB Tryz.prog 91 = true := by kernel_rfl
theorem T.en92 : entersB Tryz.prog 92 = true := by kernel_rfl
theorem T.en93 : entersB Tryz.prog 93 = true := by kernel_rfl
theorem T.en94 : entersB Tryz.prog 94 = true := by kernel_rfl
theorem T.en95 : entersB Tryz.prog 95 = true := by kernel_rfl
theorem T.en96 : entersB Tryz.prog 96 = true := by kernel_rfl
theorem T.en97 : entersB Tryz.prog 97 = true := by kernel_rfl
theorem T.en98 : entersB Tryz.prog 98 = true := by kernel_rfl
theorem T.en99 : entersB Tryz.prog 99 = true := by kernel_rfl
theorem T.en100 : entersB Tryz.prog 100 = true := by kernel_rfl
theorem T.en101 : entersB Tryz.prog 101 = true := by kernel_rfl
theorem T.en102 : entersB Tryz.prog 102 = true := by kernel_rfl
theorem T.en103 : entersB Tryz.prog 103 = true := by kernel_rfl
theorem T.en104 : entersB Tryz.prog 104 = true := by kernel_rfl
theorem T.en105 : entersB Tryz.prog 105 = true := by kernel_rfl
theorem T.en106 : entersB Tryz.prog 106 = true := by kernel_rfl
theorem T.en107 : entersB Tryz.prog 107 = true := by kernel_rfl
theorem T.en108 : entersB Tryz.prog 108 = true := by kernel_rfl
theorem T.en109 : entersB Tryz.prog 109 = true := by kernel_rfl
theorem T.en110 : entersB Tryz.prog 110 = true := by kernel_rfl
theorem T.en111 : entersB Tryz.prog 111 = true := by kernel_rfl
theorem T.en112 : entersB Tryz.prog 112 = true := by kernel_rfl
theorem T.en117 : entersB Tryz.prog 117 = true := by kernel_rfl
theorem T.en118 : entersB Tryz.prog 118 = true := by kernel_rfl
theorem T.en119 : entersB Tryz.prog 119 = true := by kernel_rfl
theorem T.en120 : entersB Tryz.prog 120 = true := by kernel_rfl
theorem T.en121 : entersB Tryz.prog 121 = true := by kernel_rfl
theorem T.en122 : entersB Tryz.prog 122 = true := by kernel_rfl
theorem T.en123 : entersB Tryz.prog 123 = true := by kernel_rfl
theorem T.en124 : entersB Tryz.prog 124 = true := by kernel_rfl
theorem T.en125 : entersB Tryz.prog 125 = true := by kernel_rfl
theorem T.en126 : entersB Tryz.prog 126 = true := by kernel_rfl
theorem T.en127 : entersB Tryz.prog 127 = true := by kernel_rfl
theorem T.en128 : entersB Tryz.prog 128 = true := by kernel_rfl
theorem T.en129 : entersB Tryz.prog 129 = true := by kernel_rfl
theorem T.en130 : entersB Tryz.prog 130 = true := by kernel_rfl
theorem T.en132 : entersB Tryz.prog 132 = true := by kernel_rfl
theorem T.en133 : entersB Tryz.prog 133 = true := by kernel_rfl
theorem T.en137 : entersB Tryz.prog 137 = true := by kernel_rfl
theorem T.en138 : entersB Tryz.prog 138 = true := by kernel_rfl
theorem T.en139 : entersB Tryz.prog 139 = true := by kernel_rfl
theorem T.en140 : entersB Tryz.prog 140 = true := by kernel_rfl
theorem T.en143 : entersB Tryz.prog 143 = true := by kernel_rfl
theorem T.en144 : entersB Tryz.prog 144 = true := by kernel_rfl
theorem T.mixed : Tryz.prog.follows .mixedOrders = true := by kernel_rfl
end Go.Proofs.YtldnolgijfkfpaaGreatDoor

/-! Bb -/
namespace Go.Proofs.YtldnolgijfkfpaaGreatDoor
open Go.Abs
set_option linter.unusedVariables false
set_option linter.unusedSimpArgs false
set_option maxRecDepth 100000
theorem idx_lt' {α : Type} (p : α → Bool) (n : Nat) (g : Nat → α) : idxFrom p (lst n g) 0 < n := by
  rcases idx_spec p (lst n g) 0 with ⟨h, _⟩ | ⟨q, h1, h2, _⟩
  · omega
  · rw [lst_length] at h1; omega
theorem lst_ext {α : Type} {n : Nat} {f g : Nat → α} : lst n f = lst n g ↔ ∀ i, i < n → f i = g i := by
  constructor
  · intro h i hi
    have := congrArg (fun l => l[i]?) h
    simpa [lst_get hi] using this
  · intro h; unfold lst; exact List.map_congr_left fun i hi => h i (by simpa using hi)
theorem lst_succ {α : Type} (n : Nat) (f : Nat → α) : lst (n + 1) f = lst n f ++ [f n] := by simp [lst, List.range_succ]
def firstE (e : Nat → Int) (i : Nat) : Nat → Int
  | 0 => 0
  | k + 1 => if e i ≠ 0 then e i else firstE e (i + 1) k
theorem firstE_zero {e : Nat → Int} : ∀ {k i : Nat}, firstE e i k = 0 → ∀ q, i ≤ q → q < i + k → e q = 0
  | 0, i, _, q, h1, h2 => by omega
  | k + 1, i, h, q, h1, h2 => by
    rw [firstE] at h
    by_cases he : e i = 0
    · rw [if_neg (by simp [he])] at h
      by_cases hq : q = i
      · rw [hq]; exact he
      · exact firstE_zero h q (by omega) (by omega)
    · rw [if_pos he] at h; exact absurd h he
theorem firstE_of {e : Nat → Int} : ∀ {k i : Nat}, (∀ q, i ≤ q → q < i + k → e q = 0) → firstE e i k = 0
  | 0, i, _ => rfl
  | k + 1, i, h => by
    rw [firstE, if_neg (by simp [h i (by omega) (by omega)])]
    exact firstE_of fun q h1 h2 => h q (by omega) (by omega)
theorem firstE_at {e : Nat → Int} : ∀ {k i q : Nat}, i ≤ q → q < i + k → e q ≠ 0 → firstE e i k ≠ 0
  | 0, i, q, h1, h2, _ => by omega
  | k + 1, i, q, h1, h2, h3 => by
    rw [firstE]
    by_cases he : e i = 0
    · rw [if_neg (by simp [he])]
      have : q ≠ i := fun h => h3 (h ▸ he)
      exact firstE_at (by omega) (by omega) h3
    · rw [if_pos he]; exact he
def gather {β : Type} (f : Nat → List β) : Nat → List β
  | 0 => []
  | i + 1 => gather f i ++ f i
theorem gather_len {β : Type} {f : Nat → List β} (h : ∀ i, (f i).length ≤ 1) : ∀ i, (gather f i).length ≤ i
  | 0 => by simp [gather]
  | i + 1 => by have := gather_len h i; have := h i; simp only [gather, List.length_append]; omega
def ascB (g : Nat → Int) : Nat → Bool
  | 0 => true
  | 1 => true
  | i + 2 => ascB g (i + 1) && decide (g i < g (i + 1))
theorem ascB_iff (g : Nat → Int) : ∀ n, ascB g n = true ↔ ∀ i, 0 < i → i < n → g (i - 1) < g i
  | 0 => by simp [ascB]
  | 1 => by simp only [ascB, true_iff]; intro i h1 h2; omega
  | n + 2 => by
    rw [ascB, Bool.and_eq_true, ascB_iff g (n + 1)]
    constructor
    · rintro ⟨h1, h2⟩ i hp hi
      by_cases he : i = n + 1
      · subst he; simpa using h2
      · exact h1 i hp (by omega)
    · intro h
      exact ⟨fun i hp hi => h i hp (by omega), by simpa using h (n + 1) (by omega) (by omega)⟩
theorem asc_step {g : Nat → Int} {i : Nat} (hx : ∀ q, 0 < q → q < i → g (q - 1) < g q) (h : 0 < i → g (i - 1) < g i) : ∀ q, 0 < q → q < i + 1 → g (q - 1) < g q := by
  intro q hp hq
  by_cases hqi : q = i
  · subst hqi; exact h hp
  · exact hx q hp (by omega)
theorem asc_yes {g : Nat → Int} {n : Nat} (h : ∀ q, 0 < q → q < n → g (q - 1) < g q) : ascB g n = true := (ascB_iff g n).2 h
theorem asc_no {g : Nat → Int} {n i : Nat} (hi : i < n) (hp : 0 < i) (h : g i ≤ g (i - 1)) : ascB g n = false := by
  cases hb : ascB g n with
  | false => rfl
  | true => have := (ascB_iff g n).1 hb i hp hi; omega
open Classical in
noncomputable def eqL {α : Type} (l m : List α) : Bool := decide (l = m)
theorem eqL_iff {α : Type} {l m : List α} : eqL l m = true ↔ l = m := by unfold eqL; simp
theorem eqL_not {α : Type} {l m : List α} : eqL l m = false ↔ l ≠ m := by rw [← Bool.not_eq_true, eqL_iff]
theorem eqL_len {α : Type} {n m : Nat} {f g : Nat → α} (h : ¬ n = m) : eqL (lst n f) (lst m g) = false := by
  rw [eqL_not]; intro he; have := congrArg List.length he; rw [lst_length, lst_length] at this; exact h this
theorem eqL_at {α : Type} {n m : Nat} {f g : Nat → α} {i : Nat} (h1 : i < n) (h2 : i < m) (h : f i ≠ g i) : eqL (lst n f) (lst m g) = false := by
  rw [eqL_not]; intro he
  have e1 := lst_get (f := f) h1
  rw [he, lst_get h2] at e1
  exact h (Option.some.inj e1).symm
theorem lst_congr {α : Type} {n : Nat} {f g : Nat → α} (h : ∀ q, q < n → f q = g q) : lst n f = lst n g :=
  List.map_congr_left fun q hq => h q (by simpa using hq)
theorem eqL_yes {α : Type} {n m : Nat} {f g : Nat → α} (h : n = m) (hq : ∀ q, q < n → f q = g q) : eqL (lst n f) (lst m g) = true := by
  rw [eqL_iff, ← h]; exact lst_congr hq
theorem eqL_self {α : Type} (l : List α) : eqL l l = true := eqL_iff.2 rfl
theorem gather_le {β : Type} {f : Nat → List β} {m : Nat} : ∀ {i : Nat}, (∀ q, q < i → (f q).length ≤ m) → (gather f i).length ≤ i * m
  | 0, _ => by simp [gather]
  | i + 1, h => by
    have h1 := gather_le (i := i) fun q hq => h q (by omega)
    have h2 := h i (by omega)
    simp only [gather, List.length_append, Nat.add_mul, Nat.one_mul]; omega
theorem lst_map_nth {α β : Type} [Inhabited α] (f : α → β) (L : List α) : lst L.length (fun q => f (nth L q)) = L.map f := by
  have := lst_nth L
  rw [← congrArg (List.map f) this]
  simp [lst]
theorem nth_map {α β : Type} [Inhabited α] [Inhabited β] (f : α → β) {L : List α} {i : Nat} (h : i < L.length) : nth (L.map f) i = f (nth L i) := by simp [nth, h]
theorem mem_gather {β : Type} {f : Nat → List β} {x : β} : ∀ {n : Nat}, x ∈ gather f n ↔ ∃ q, q < n ∧ x ∈ f q
  | 0 => by simp [gather]
  | n + 1 => by
    rw [gather, List.mem_append, mem_gather]
    constructor
    · rintro (⟨q, h1, h2⟩ | h)
      · exact ⟨q, by omega, h2⟩
      · exact ⟨n, by omega, h⟩
    · rintro ⟨q, h1, h2⟩
      rcases Nat.lt_or_eq_of_le (Nat.le_of_lt_succ h1) with h | h
      · exact .inl ⟨q, h, h2⟩
      · exact .inr (h ▸ h2)
theorem nth_mem {α : Type} [Inhabited α] {L : List α} {i : Nat} (h : i < L.length) : nth L i ∈ L := by rw [nth_eq h]; exact List.getElem_mem h
theorem gather_congr {β : Type} {f f' : Nat → List β} : ∀ n, (∀ q, q < n → f q = f' q) → gather f n = gather f' n
  | 0, _ => rfl
  | n + 1, h => by rw [gather, gather, gather_congr n fun q hq => h q (by omega), h n (by omega)]
theorem nth_lst {α : Type} [Inhabited α] {n : Nat} {g : Nat → α} {i : Nat} (h : i < n) : nth (lst n g) i = g i := by simp [nth, lst_get h]
theorem nth_app {α : Type} [Inhabited α] {l : List α} {x : α} {i : Nat} : nth (l ++ [x]) i = if i < l.length then nth l i else if i = l.length then x else default := by
  unfold nth
  by_cases h : i < l.length
  · rw [if_pos h, List.getElem?_append_left h]
  · rw [if_neg h, List.getElem?_append_right (by omega)]
    by_cases e : i = l.length
    · subst e; simp
    · simp [e, List.getElem?_eq_none (show [x].length ≤ i - l.length by simp; omega)]
theorem gather_shift {β : Type} (f : Nat → List β) : ∀ k, gather f (k + 1) = f 0 ++ gather (fun i => f (i + 1)) k
  | 0 => by simp [gather]
  | k + 1 => by rw [gather, gather_shift f k, gather]; simp
end Go.Proofs.YtldnolgijfkfpaaGreatDoor

/-! Ca -/
namespace Go.Proofs.YtldnolgijfkfpaaGreatDoor
open Go.Abs
set_option linter.unusedVariables false
set_option linter.unusedSimpArgs false
set_option maxRecDepth 100000
set_option maxHeartbeats 1000000
abbrev Sb (s : ByteArray) : D := .v (.string s)
def encI (x : Int) : List D := [I x]
def inB (n lo hi : Int) : Bool := decide (lo ≤ n) && decide (n ≤ hi)
def memI (n : Nat) (g : Nat → Int) (k : Int) : Bool := (lst n g).any fun x => k == x
theorem memI_iff (n : Nat) (g : Nat → Int) (k : Int) : memI n g k = true ↔ ∃ i, i < n ∧ g i = k := by
  unfold memI
  simp only [lst, List.any_map, List.any_eq_true, List.mem_range, Function.comp, beq_iff_eq]
  exact ⟨fun ⟨i, h1, h2⟩ => ⟨i, h1, h2.symm⟩, fun ⟨i, h1, h2⟩ => ⟨i, h1, h2.symm⟩⟩
structure Bat where
  ID : Int
  Day : Int
  State : Int
  Round : Int
  Sample : Int
  Accept : Int
  nu : Nat
  u : Nat → Int
  nb : Nat
  b : Nat → Int
def Bat.enc (x : Bat) : List D := [I x.ID, I x.Day, I x.State, I x.Round, I x.Sample, I x.Accept, SL none 1 encI x.nu x.u, SL none 1 encI x.nb x.b]
structure Lnk where
  Image : Int
  Unit : Int
  deriving DecidableEq, Inhabited
def Lnk.enc (x : Lnk) : List D := [I x.Image, I x.Unit]
attribute [go_sem] encI Bat.enc Lnk.enc
def idB (n : Int) : Bool := inB n 1 1073741824
def fitsB (b : Bat) : Bool :=
  if b.State = 1 then decide (b.Round = 0) && decide ((b.nb : Int) = 0)
  else if b.State = 2 then decide (1 ≤ b.Round) && decide ((b.nb : Int) = 0)
  else if b.State = 3 then decide (1 ≤ b.Round) && decide ((b.nb : Int) ≤ b.Accept)
  else if b.State = 4 then decide (1 ≤ b.Round) && decide (b.Accept < (b.nb : Int)) else false
def fewB (b : Bat) : Bool := decide ((b.nu : Int) ≤ 70) && decide ((b.nb : Int) ≤ 70)
theorem digitize_in_cs (σ : List Blk) (n lo up : Int) : CSF Tryz.prog 37 [.d (I n), .d (I lo), .d (I up)] σ (.d (B (inB n lo up))) := by
  refine CSF.of_body T.en37 Tryz.func37 rfl (by simp [Tryz.ntmps37]) (by simp [go_sem]) fun hwf => ?_
  refine awp_reg_seq fun K hK => ?_
  simp [go_sem, Tryz.ntmps37]
  repeat refine ⟨by omega, ?_⟩
  refine hK _ ?_; clear hK K
  refine awp_reg_seq fun K hK => ?_
  simp [go_sem]
  repeat refine ⟨by omega, ?_⟩
  refine hK _ ?_; clear hK K
  refine awp_ret ?_
  simp [go_sem, Tryz.results37, inB] <;> omega
theorem digitize_id_cs (σ : List Blk) (n : Int) : CSF Tryz.prog 36 [.d (I n)] σ (.d (B (idB n))) := by
  refine CSF.of_body T.en36 Tryz.func36 rfl (by simp [Tryz.ntmps36]) (by simp [go_sem]) fun hwf => ?_
  refine awp_reg_seq fun K hK => ?_
  simp [go_sem, Tryz.ntmps36]
  repeat refine ⟨by omega, ?_⟩
  refine hK _ ?_; clear hK K
  refine awp_reg_seq fun K hK => ?_
  simp [go_sem]
  repeat refine ⟨by omega, ?_⟩
  refine CSk.mk (digitize_in_cs _ n 1 1073741824) ?_
  simp [go_sem]
  repeat refine ⟨by omega, ?_⟩
  refine hK _ ?_; clear hK K
  refine awp_ret ?_
  simp [go_sem, Tryz.results36, idB] <;> omega
theorem digitize_Check_1_cs (σ : List Blk) (n : Int) : CSF Tryz.prog 39 [.d (I n)] σ (.d (B (!idB n))) := by
  refine CSF.of_body T.en39 Tryz.func39 rfl (by simp [Tryz.ntmps39]) (by simp [go_sem]) fun hwf => ?_
  refine awp_reg_seq fun K hK => ?_
  simp [go_sem, Tryz.ntmps39]
  repeat refine ⟨by omega, ?_⟩
  refine hK _ ?_; clear hK K
  refine awp_reg_seq fun K hK => ?_
  simp [go_sem]
  repeat refine ⟨by omega, ?_⟩
  refine CSk.mk (digitize_id_cs _ n) ?_
  simp [go_sem]
  repeat refine ⟨by omega, ?_⟩
  refine hK _ ?_; clear hK K
  refine awp_ret ?_
  simp [go_sem, Tryz.results39] <;> omega
theorem ref44_Few_cs (σ : List Blk) (b : Bat) (hn : b.nu ≤ 9223372036854775807) (hm : b.nb ≤ 9223372036854775807) : CSF Tryz.prog 12 [.agg (b.enc.map .d)] σ (.d (B (fewB b))) := by
  refine CSF.of_body T.en12 Tryz.func12 rfl (by simp [Tryz.ntmps12]) (by simp [go_sem]) fun hwf => ?_
  refine awp_reg_seq fun K hK => ?_
  simp [go_sem, Tryz.ntmps12]
  repeat refine ⟨by omega, ?_⟩
  refine hK _ ?_; clear hK K
  refine awp_reg_seq fun K hK => ?_
  simp [go_sem]
  repeat refine ⟨by omega, ?_⟩
  refine hK _ ?_; clear hK K
  refine awp_ret ?_
  simp [go_sem, Tryz.results12, fewB]
theorem digitize_fits_cs (σ : List Blk) (b : Bat) (hn : b.nu < 1000000000) (hm : b.nb < 1000000000) : CSF Tryz.prog 43 [.agg (b.enc.map .d)] σ (.d (B (fitsB b))) := by
  refine CSF.of_body T.en43 Tryz.func43 rfl (by simp [Tryz.ntmps43]) (by simp [go_sem]) fun hwf => ?_
  refine awp_reg_seq fun K hK => ?_
  simp [go_sem, Tryz.ntmps43]
  repeat refine ⟨by omega, ?_⟩
  refine hK _ ?_; clear hK K
  refine awp_seq ?_
  refine awp_reg_seq fun K hK => ?_
  simp [go_sem]
  repeat refine ⟨by omega, ?_⟩
  refine hK _ ?_; clear hK K
  refine awp_block ?_
  refine awp_reg_seq fun K hK => ?_
  simp [go_sem]
  repeat refine ⟨by omega, ?_⟩
  refine hK _ ?_; clear hK K
  refine awp_forget [1, 4, 5] (by simp only [restr, List.contains_cons, List.contains_nil, Nat.reduceBEq, Bool.or_false, Bool.or_true, Bool.true_or, Bool.false_or, if_true, if_false, Bool.false_eq_true]; rfl) ?_
  refine awp_cond rfl (fun c0 => ?_) (fun c0 => ?_)
  · have d0 := c0; try simp at d0
    refine awp_reg_seq fun K hK => ?_
    simp [go_sem, c0, d0]
    repeat refine ⟨by omega, ?_⟩
    refine hK _ ?_; clear hK K
    refine awp_ret ?_
    have e : fitsB b = (b.Round == 0 && (b.nb : Int) == 0) := by
      rw [Bool.eq_iff_iff]; simp [fitsB, d0] <;> omega
    rw [e]; simp [go_sem, Tryz.results43]
  · have d0 := c0; try simp at d0
    refine awp_reg_seq fun K hK => ?_
    simp [go_sem, c0, d0]
    repeat refine ⟨by omega, ?_⟩
    refine hK _ ?_; clear hK K
    refine awp_forget [1, 4, 16] (by simp only [restr, List.contains_cons, List.contains_nil, Nat.reduceBEq, Bool.or_false, Bool.or_true, Bool.true_or, Bool.false_or, if_true, if_false, Bool.false_eq_true]; rfl) ?_
    refine awp_cond rfl (fun c1 => ?_) (fun c1 => ?_)
    · have d1 := c1; try simp at d1
      refine awp_reg_seq fun K hK => ?_
      simp [go_sem, c0, d0, c1, d1]
      repeat refine ⟨by omega, ?_⟩
      refine hK _ ?_; clear hK K
      refine awp_ret ?_
      have e : fitsB b = (decide (1 ≤ b.Round) && (b.nb : Int) == 0) := by
        rw [Bool.eq_iff_iff]; simp [fitsB, d0, d1] <;> omega
      rw [e]; simp [go_sem, Tryz.results43]
    · have d1 := c1; try simp at d1
      refine awp_reg_seq fun K hK => ?_
      simp [go_sem, c0, d0, c1, d1]
      repeat refine ⟨by omega, ?_⟩
      refine hK _ ?_; clear hK K
      refine awp_forget [1, 4, 27] (by simp only [restr, List.contains_cons, List.contains_nil, Nat.reduceBEq, Bool.or_false, Bool.or_true, Bool.true_or, Bool.false_or, if_true, if_false, Bool.false_eq_true]; rfl) ?_
      refine awp_cond rfl (fun c2 => ?_) (fun c2 => ?_)
      · have d2 := c2; try simp at d2
        refine awp_reg_seq fun K hK => ?_
        simp [go_sem, c0, d0, c1, d1, c2, d2]
        repeat refine ⟨by omega, ?_⟩
        refine hK _ ?_; clear hK K
        refine awp_ret ?_
        have e : fitsB b = (decide (1 ≤ b.Round) && decide ((b.nb : Int) ≤ b.Accept)) := by
          rw [Bool.eq_iff_iff]; simp [fitsB, d0, d1, d2] <;> omega
        rw [e]; simp [go_sem, Tryz.results43]
      · have d2 := c2; try simp at d2
        refine awp_reg_seq fun K hK => ?_
        simp [go_sem, c0, d0, c1, d1, c2, d2]
        repeat refine ⟨by omega, ?_⟩
        refine hK _ ?_; clear hK K
        refine awp_forget [1, 40] (by simp only [restr, List.contains_cons, List.contains_nil, Nat.reduceBEq, Bool.or_false, Bool.or_true, Bool.true_or, Bool.false_or, if_true, if_false, Bool.false_eq_true]; rfl) ?_
        refine awp_cond rfl (fun c3 => ?_) (fun c3 => ?_)
        · have d3 := c3; try simp at d3
          refine awp_reg_seq fun K hK => ?_
          simp [go_sem, c0, d0, c1, d1, c2, d2, c3, d3]
          repeat refine ⟨by omega, ?_⟩
          refine hK _ ?_; clear hK K
          refine awp_ret ?_
          have e : fitsB b = (decide (1 ≤ b.Round) && decide (b.Accept < (b.nb : Int))) := by
            rw [Bool.eq_iff_iff]; simp [fitsB, d0, d1, d2, d3] <;> omega
          rw [e]; simp [go_sem, Tryz.results43]
        · have d3 := c3; try simp at d3
          refine awp_skip ?_
          refine awp_reg_seq fun K hK => ?_
          simp [go_sem, c0, d0, c1, d1, c2, d2, c3, d3]
          repeat refine ⟨by omega, ?_⟩
          refine hK _ ?_; clear hK K
          refine awp_ret ?_
          have e : fitsB b = false := by
            rw [Bool.eq_iff_iff]; simp [fitsB, d0, d1, d2, d3] <;> omega
          rw [e]; simp [go_sem, Tryz.results43]
theorem ref44_fits_cs (σ : List Blk) (b : Bat) (hn : b.nu < 1000000000) (hm : b.nb < 1000000000) : CSF Tryz.prog 47 [.agg (b.enc.map .d)] σ (.d (B (fitsB b))) := by
  refine CSF.of_body T.en47 Tryz.func47 rfl (by simp [Tryz.ntmps47]) (by simp [go_sem]) fun hwf => ?_
  refine awp_reg_seq fun K hK => ?_
  simp [go_sem, Tryz.ntmps47]
  repeat refine ⟨by omega, ?_⟩
  refine hK _ ?_; clear hK K
  refine awp_seq ?_
  refine awp_reg_seq fun K hK => ?_
  simp [go_sem]
  repeat refine ⟨by omega, ?_⟩
  refine hK _ ?_; clear hK K
  refine awp_block ?_
  refine awp_reg_seq fun K hK => ?_
  simp [go_sem]
  repeat refine ⟨by omega, ?_⟩
  refine hK _ ?_; clear hK K
  refine awp_forget [1, 4, 5] (by simp only [restr, List.contains_cons, List.contains_nil, Nat.reduceBEq, Bool.or_false, Bool.or_true, Bool.true_or, Bool.false_or, if_true, if_false, Bool.false_eq_true]; rfl) ?_
  refine awp_cond rfl (fun c0 => ?_) (fun c0 => ?_)
  · have d0 := c0; try simp at d0
    refine awp_reg_seq fun K hK => ?_
    simp [go_sem, c0, d0]
    repeat refine ⟨by omega, ?_⟩
    refine hK _ ?_; clear hK K
    refine awp_ret ?_
    have e : fitsB b = (b.Round == 0 && (b.nb : Int) == 0) := by
      rw [Bool.eq_iff_iff]; simp [fitsB, d0] <;> omega
    rw [e]; simp [go_sem, Tryz.results47]
  · have d0 := c0; try simp at d0
    refine awp_reg_seq fun K hK => ?_
    simp [go_sem, c0, d0]
    repeat refine ⟨by omega, ?_⟩
    refine hK _ ?_; clear hK K
    refine awp_forget [1, 4, 16] (by simp only [restr, List.contains_cons, List.contains_nil, Nat.reduceBEq, Bool.or_false, Bool.or_true, Bool.true_or, Bool.false_or, if_true, if_false, Bool.false_eq_true]; rfl) ?_
    refine awp_cond rfl (fun c1 => ?_) (fun c1 => ?_)
    · have d1 := c1; try simp at d1
      refine awp_reg_seq fun K hK => ?_
      simp [go_sem, c0, d0, c1, d1]
      repeat refine ⟨by omega, ?_⟩
      refine hK _ ?_; clear hK K
      refine awp_ret ?_
      have e : fitsB b = (decide (0 < b.Round) && (b.nb : Int) == 0) := by
        rw [Bool.eq_iff_iff]; simp [fitsB, d0, d1] <;> omega
      rw [e]; simp [go_sem, Tryz.results47]
    · have d1 := c1; try simp at d1
      refine awp_reg_seq fun K hK => ?_
      simp [go_sem, c0, d0, c1, d1]
      repeat refine ⟨by omega, ?_⟩
      refine hK _ ?_; clear hK K
      refine awp_forget [1, 4, 27] (by simp only [restr, List.contains_cons, List.contains_nil, Nat.reduceBEq, Bool.or_false, Bool.or_true, Bool.true_or, Bool.false_or, if_true, if_false, Bool.false_eq_true]; rfl) ?_
      refine awp_cond rfl (fun c2 => ?_) (fun c2 => ?_)
      · have d2 := c2; try simp at d2
        refine awp_reg_seq fun K hK => ?_
        simp [go_sem, c0, d0, c1, d1, c2, d2]
        repeat refine ⟨by omega, ?_⟩
        refine hK _ ?_; clear hK K
        refine awp_ret ?_
        have e : fitsB b = (decide (0 < b.Round) && decide ((b.nb : Int) ≤ b.Accept)) := by
          rw [Bool.eq_iff_iff]; simp [fitsB, d0, d1, d2] <;> omega
        rw [e]; simp [go_sem, Tryz.results47]
      · have d2 := c2; try simp at d2
        refine awp_reg_seq fun K hK => ?_
        simp [go_sem, c0, d0, c1, d1, c2, d2]
        repeat refine ⟨by omega, ?_⟩
        refine hK _ ?_; clear hK K
        refine awp_forget [1, 40] (by simp only [restr, List.contains_cons, List.contains_nil, Nat.reduceBEq, Bool.or_false, Bool.or_true, Bool.true_or, Bool.false_or, if_true, if_false, Bool.false_eq_true]; rfl) ?_
        refine awp_cond rfl (fun c3 => ?_) (fun c3 => ?_)
        · have d3 := c3; try simp at d3
          refine awp_reg_seq fun K hK => ?_
          simp [go_sem, c0, d0, c1, d1, c2, d2, c3, d3]
          repeat refine ⟨by omega, ?_⟩
          refine hK _ ?_; clear hK K
          refine awp_ret ?_
          have e : fitsB b = (decide (0 < b.Round) && decide (b.Accept < (b.nb : Int))) := by
            rw [Bool.eq_iff_iff]; simp [fitsB, d0, d1, d2, d3] <;> omega
          rw [e]; simp [go_sem, Tryz.results47]
        · have d3 := c3; try simp at d3
          refine awp_skip ?_
          refine awp_reg_seq fun K hK => ?_
          simp [go_sem, c0, d0, c1, d1, c2, d2, c3, d3]
          repeat refine ⟨by omega, ?_⟩
          refine hK _ ?_; clear hK K
          refine awp_ret ?_
          have e : fitsB b = false := by
            rw [Bool.eq_iff_iff]; simp [fitsB, d0, d1, d2, d3] <;> omega
          rw [e]; simp [go_sem, Tryz.results47]
theorem digitize_increase_cs (σ : List Blk) (c : Option Nat) (n : Nat) (g : Nat → Int) (hn : n < 1000000000) : CSF Tryz.prog 40 [.d (SL c 1 encI n g)] σ (.d (B (ascB g n))) := by
  refine CSF.of_body T.en40 Tryz.func40 rfl (by simp [Tryz.ntmps40]) (by simp [go_sem]) fun hwf => ?_
  refine awp_reg_seq fun K hK => ?_
  simp [go_sem, Tryz.ntmps40]
  repeat refine ⟨by omega, ?_⟩
  refine hK _ ?_; clear hK K
  refine awp_seq ?_
  refine awp_reg_seq fun K hK => ?_
  simp [go_sem]
  repeat refine ⟨by omega, ?_⟩
  refine hK _ ?_; clear hK K
  refine awp_block ?_
  refine awp_forget [0, 5, 6] (by simp [go_sem, restr]; rfl) ?_
  refine awp_loopU (α := Nat) (fun i => [(6, .d (I i))]) (fun i => _) (fun i => i ≤ n ∧ ∀ q, 0 < q → q < i → g (q - 1) < g q) (fun i => n - i) 0 (by simp [go_sem]) (rfl) (by simp) ?_
  rintro i ⟨hi, hx⟩
  refine awp_reg_seq fun K hK => ?_
  simp [go_sem, wrap_pred (i := i) (by omega)]
  repeat refine ⟨by omega, ?_⟩
  refine hK _ ?_; clear hK K
  refine awp_seq ?_
  refine awp_forget [0, 5, 6, 7] (by simp only [restr, List.contains_cons, List.contains_nil, Nat.reduceBEq, Bool.or_false, Bool.or_true, Bool.true_or, Bool.false_or, if_true, if_false, Bool.false_eq_true]; rfl) ?_
  refine awp_cond rfl (fun c0 => ?_) (fun c0 => ?_)
  · have d0 := c0; try simp at d0
    refine awp_skip ?_
    refine awp_seq ?_
    refine awp_block ?_
    refine awp_reg_seq fun K hK => ?_
    simp [go_sem, wrap_pred (i := i) (by omega), c0, d0]
    repeat refine ⟨by omega, ?_⟩
    refine hK _ ?_; clear hK K
    refine awp_draw_seq 14 T.mixed (by kernel_rfl) fun K hK => ?_
    simp [go_sem, wrap_pred (i := i) (by omega), c0, d0]
    try simp (disch := omega) only [wrapI]
    repeat refine ⟨by omega, ?_⟩
    refine hK _ ?_; clear hK K
    refine awp_forget [0, 5, 6, 22] (by simp only [restr, List.contains_cons, List.contains_nil, Nat.reduceBEq, Bool.or_false, Bool.or_true, Bool.true_or, Bool.false_or, if_true, if_false, Bool.false_eq_true]; rfl) ?_
    refine awp_cond rfl (fun c1 => ?_) (fun c1 => ?_)
    · have d1 := c1; try simp at d1
      refine awp_reg_seq fun K hK => ?_
      simp [go_sem, wrap_pred (i := i) (by omega), c0, d0, c1, d1]
      repeat refine ⟨by omega, ?_⟩
      refine hK _ ?_; clear hK K
      refine awp_ret ?_
      rw [asc_no d0 d1.1 d1.2]; simp [go_sem, Tryz.results40]
    · have d1 := c1; try simp at d1
      refine awp_skip ?_
      refine awp_reg_end fun K hK => ?_
      simp [go_sem, wrap_pred (i := i) (by omega), c0, d0, c1, d1]
      try simp (disch := omega) only [wrapI]
      repeat refine ⟨by omega, ?_⟩
      refine hK _ ?_; clear hK K
      refine ⟨i + 1, back_of' (by simp) (.refl _) (by (simp [go_sem, wrap_succ (i := i) (by omega), wrap_pred (i := i) (by omega), c0, d0, c1, d1] <;> omega)), ⟨by omega, asc_step hx d1⟩, by first | omega | (dsimp only; omega)⟩
  · have d0 := c0; try simp at d0
    obtain rfl : i = n := by omega
    refine awp_exit ?_
    refine awp_reg_seq fun K hK => ?_
    simp [go_sem, wrap_pred (i := i) (by omega), c0, d0]
    repeat refine ⟨by omega, ?_⟩
    refine hK _ ?_; clear hK K
    refine awp_ret ?_
    rw [asc_yes hx]; simp [go_sem, Tryz.results40]
theorem ref44_rising_cs (σ : List Blk) (c : Option Nat) (n : Nat) (g : Nat → Int) (hn : n < 1000000000) : CSF Tryz.prog 44 [.d (SL c 1 encI n g)] σ (.d (B (ascB g n))) := by
  refine CSF.of_body T.en44 Tryz.func44 rfl (by simp [Tryz.ntmps44]) (by simp [go_sem]) fun hwf => ?_
  refine awp_reg_seq fun K hK => ?_
  simp [go_sem, Tryz.ntmps44]
  repeat refine ⟨by omega, ?_⟩
  refine hK _ ?_; clear hK K
  refine awp_seq ?_
  refine awp_reg_seq fun K hK => ?_
  simp [go_sem]
  repeat refine ⟨by omega, ?_⟩
  refine hK _ ?_; clear hK K
  refine awp_block ?_
  refine awp_forget [0, 5, 6] (by simp [go_sem, restr]; rfl) ?_
  refine awp_loopU (α := Nat) (fun i => [(6, .d (I i))]) (fun i => _) (fun i => i ≤ n ∧ ∀ q, 0 < q → q < i → g (q - 1) < g q) (fun i => n - i) 0 (by simp [go_sem]) (rfl) (by simp) ?_
  rintro i ⟨hi, hx⟩
  refine awp_reg_seq fun K hK => ?_
  simp [go_sem, wrap_pred (i := i) (by omega)]
  repeat refine ⟨by omega, ?_⟩
  refine hK _ ?_; clear hK K
  refine awp_seq ?_
  refine awp_forget [0, 5, 6, 7] (by simp only [restr, List.contains_cons, List.contains_nil, Nat.reduceBEq, Bool.or_false, Bool.or_true, Bool.true_or, Bool.false_or, if_true, if_false, Bool.false_eq_true]; rfl) ?_
  refine awp_cond rfl (fun c0 => ?_) (fun c0 => ?_)
  · have d0 := c0; try simp at d0
    refine awp_skip ?_
    refine awp_seq ?_
    refine awp_block ?_
    refine awp_reg_seq fun K hK => ?_
    simp [go_sem, wrap_pred (i := i) (by omega), c0, d0]
    repeat refine ⟨by omega, ?_⟩
    refine hK _ ?_; clear hK K
    refine awp_draw_seq 14 T.mixed (by kernel_rfl) fun K hK => ?_
    simp [go_sem, wrap_pred (i := i) (by omega), c0, d0]
    try simp (disch := omega) only [wrapI]
    repeat refine ⟨by omega, ?_⟩
    refine hK _ ?_; clear hK K
    refine awp_forget [0, 5, 6, 22] (by simp only [restr, List.contains_cons, List.contains_nil, Nat.reduceBEq, Bool.or_false, Bool.or_true, Bool.true_or, Bool.false_or, if_true, if_false, Bool.false_eq_true]; rfl) ?_
    refine awp_cond rfl (fun c1 => ?_) (fun c1 => ?_)
    · have d1 := c1; try simp at d1
      refine awp_reg_seq fun K hK => ?_
      simp [go_sem, wrap_pred (i := i) (by omega), c0, d0, c1, d1]
      repeat refine ⟨by omega, ?_⟩
      refine hK _ ?_; clear hK K
      refine awp_ret ?_
      rw [asc_no d0 d1.1 d1.2]; simp [go_sem, Tryz.results44]
    · have d1 := c1; try simp at d1
      refine awp_skip ?_
      refine awp_reg_end fun K hK => ?_
      simp [go_sem, wrap_pred (i := i) (by omega), c0, d0, c1, d1]
      try simp (disch := omega) only [wrapI]
      repeat refine ⟨by omega, ?_⟩
      refine hK _ ?_; clear hK K
      refine ⟨i + 1, back_of' (by simp) (.refl _) (by (simp [go_sem, wrap_succ (i := i) (by omega), wrap_pred (i := i) (by omega), c0, d0, c1, d1] <;> omega)), ⟨by omega, asc_step hx d1⟩, by first | omega | (dsimp only; omega)⟩
  · have d0 := c0; try simp at d0
    obtain rfl : i = n := by omega
    refine awp_exit ?_
    refine awp_reg_seq fun K hK => ?_
    simp [go_sem, wrap_pred (i := i) (by omega), c0, d0]
    repeat refine ⟨by omega, ?_⟩
    refine hK _ ?_; clear hK K
    refine awp_ret ?_
    rw [asc_yes hx]; simp [go_sem, Tryz.results44]
theorem indexOf_cs (σ : List Blk) (c : Option Nat) (n : Nat) (g : Nat → Int) (k : Int) (hn : n < 1000000000) : CSF Tryz.prog 51 [.d (SL c 1 encI n g), .d (I k)] σ (.d (I (idxFrom (fun x => k == x) (lst n g) 0))) := by
  refine CSF.of_body T.en51 Tryz.func51 rfl (by simp [Tryz.ntmps51]) (by simp [go_sem]) fun hwf => ?_
  refine awp_reg_seq fun K hK => ?_
  simp [go_sem, Tryz.ntmps51]
  repeat refine ⟨by omega, ?_⟩
  refine hK _ ?_; clear hK K
  refine awp_seq ?_
  refine awp_reg_seq fun K hK => ?_
  simp [go_sem]
  repeat refine ⟨by omega, ?_⟩
  refine hK _ ?_; clear hK K
  refine awp_block ?_
  refine awp_forget [0, 1, 7, 8] (by simp [go_sem, restr]; rfl) ?_
  refine awp_loopU (α := Nat) (fun i => [(8, .d (I i))]) (fun i => _) (fun i => i ≤ n ∧ idxFrom (fun x => k == x) (lst n g) 0 = idxFrom (fun x => k == x) ((lst n g).drop i) i) (fun i => n - i) 0 (by simp [go_sem]) (rfl) (by simp) ?_
  rintro i ⟨hi, hx⟩
  refine awp_reg_seq fun K hK => ?_
  simp [go_sem]
  repeat refine ⟨by omega, ?_⟩
  refine hK _ ?_; clear hK K
  refine awp_seq ?_
  refine awp_forget [0, 1, 7, 8, 9] (by simp only [restr, List.contains_cons, List.contains_nil, Nat.reduceBEq, Bool.or_false, Bool.or_true, Bool.true_or, Bool.false_or, if_true, if_false, Bool.false_eq_true]; rfl) ?_
  refine awp_cond rfl (fun c0 => ?_) (fun c0 => ?_)
  · have d0 := c0; try simp at d0
    rw [drop_lst d0, idxFrom] at hx
    refine awp_skip ?_
    refine awp_seq ?_
    refine awp_block ?_
    refine awp_reg_seq fun K hK => ?_
    simp [go_sem, c0, d0]
    repeat refine ⟨by omega, ?_⟩
    refine hK _ ?_; clear hK K
    refine awp_reg_seq fun K hK => ?_
    simp [go_sem, c0, d0]
    repeat refine ⟨by omega, ?_⟩
    refine hK _ ?_; clear hK K
    refine awp_forget [0, 1, 5, 7, 8, 16] (by simp only [restr, List.contains_cons, List.contains_nil, Nat.reduceBEq, Bool.or_false, Bool.or_true, Bool.true_or, Bool.false_or, if_true, if_false, Bool.false_eq_true]; rfl) ?_
    refine awp_cond rfl (fun c1 => ?_) (fun c1 => ?_)
    · have d1 := c1; try simp at d1
      refine awp_reg_seq fun K hK => ?_
      simp [go_sem, c0, d0, c1, d1]
      repeat refine ⟨by omega, ?_⟩
      refine hK _ ?_; clear hK K
      refine awp_ret ?_
      rw [hx, if_pos c1]; simp [go_sem, Tryz.results51]
    · have d1 := c1; try simp at d1
      refine awp_skip ?_
      refine awp_reg_end fun K hK => ?_
      simp [go_sem, c0, d0, c1, d1]
      try simp (disch := omega) only [wrapI]
      repeat refine ⟨by omega, ?_⟩
      refine hK _ ?_; clear hK K
      refine ⟨i + 1, back_of' (by simp) (.refl _) (by (simp [go_sem, wrap_succ (i := i) (by omega), c0, d0, c1, d1] <;> omega)), ⟨by omega, by rw [hx, c1]; simp⟩, by first | omega | (dsimp only; omega)⟩
  · have d0 := c0; try simp at d0
    rw [drop_all d0, idxFrom] at hx
    refine awp_exit ?_
    refine awp_reg_seq fun K hK => ?_
    simp [go_sem, c0, d0]
    repeat refine ⟨by omega, ?_⟩
    refine hK _ ?_; clear hK K
    refine awp_ret ?_
    simp [go_sem, Tryz.results51, hx, c0, d0] <;> omega
theorem containsOf_cs (σ : List Blk) (c : Option Nat) (n : Nat) (g : Nat → Int) (k : Int) (hn : n < 1000000000) : CSF Tryz.prog 23 [.d (SL c 1 encI n g), .d (I k)] σ (.d (B (memI n g k))) := by
  refine CSF.of_body T.en23 Tryz.func23 rfl (by simp [Tryz.ntmps23]) (by simp [go_sem]) fun hwf => ?_
  refine awp_reg_seq fun K hK => ?_
  simp [go_sem, Tryz.ntmps23]
  repeat refine ⟨by omega, ?_⟩
  refine hK _ ?_; clear hK K
  refine awp_reg_seq fun K hK => ?_
  simp [go_sem]
  repeat refine ⟨by omega, ?_⟩
  refine CSk.mk (indexOf_cs _ c n g k hn) ?_
  simp [go_sem]
  repeat refine ⟨by omega, ?_⟩
  refine hK _ ?_; clear hK K
  refine awp_ret ?_
  simp [go_sem, Tryz.results23, memI, idx_any] <;> omega
theorem inOf_cs (σ : List Blk) (c : Option Nat) (n : Nat) (g : Nat → Int) (k : Int) (hn : n < 1000000000) : CSF Tryz.prog 46 [.d (SL c 1 encI n g), .d (I k)] σ (.d (B (memI n g k))) := by
  refine CSF.of_body T.en46 Tryz.func46 rfl (by simp [Tryz.ntmps46]) (by simp [go_sem]) fun hwf => ?_
  refine awp_reg_seq fun K hK => ?_
  simp [go_sem, Tryz.ntmps46]
  repeat refine ⟨by omega, ?_⟩
  refine hK _ ?_; clear hK K
  refine awp_seq ?_
  refine awp_reg_seq fun K hK => ?_
  simp [go_sem]
  repeat refine ⟨by omega, ?_⟩
  refine hK _ ?_; clear hK K
  refine awp_block ?_
  refine awp_forget [1, 7, 8, 9] (by simp [go_sem, restr]; rfl) ?_
  refine awp_loopU (α := Nat) (fun i => [(9, .d (I i))]) (fun i => _) (fun i => i ≤ n ∧ ∀ q, q < i → g q ≠ k) (fun i => n - i) 0 (by simp [go_sem]) (rfl) (by simp) ?_
  rintro i ⟨hi, hx⟩
  refine awp_reg_seq fun K hK => ?_
  simp [go_sem]
  repeat refine ⟨by omega, ?_⟩
  refine hK _ ?_; clear hK K
  refine awp_seq ?_
  refine awp_forget [1, 7, 8, 9, 10] (by simp only [restr, List.contains_cons, List.contains_nil, Nat.reduceBEq, Bool.or_false, Bool.or_true, Bool.true_or, Bool.false_or, if_true, if_false, Bool.false_eq_true]; rfl) ?_
  refine awp_cond rfl (fun c0 => ?_) (fun c0 => ?_)
  · have d0 := c0; try simp at d0
    refine awp_skip ?_
    refine awp_seq ?_
    refine awp_block ?_
    refine awp_reg_seq fun K hK => ?_
    simp [go_sem, c0, d0]
    repeat refine ⟨by omega, ?_⟩
    refine hK _ ?_; clear hK K
    refine awp_reg_seq fun K hK => ?_
    simp [go_sem, c0, d0]
    repeat refine ⟨by omega, ?_⟩
    refine hK _ ?_; clear hK K
    refine awp_forget [1, 7, 8, 9, 15] (by simp only [restr, List.contains_cons, List.contains_nil, Nat.reduceBEq, Bool.or_false, Bool.or_true, Bool.true_or, Bool.false_or, if_true, if_false, Bool.false_eq_true]; rfl) ?_
    refine awp_cond rfl (fun c1 => ?_) (fun c1 => ?_)
    · have d1 := c1; try simp at d1
      refine awp_reg_seq fun K hK => ?_
      simp [go_sem, c0, d0, c1, d1]
      repeat refine ⟨by omega, ?_⟩
      refine hK _ ?_; clear hK K
      refine awp_ret ?_
      rw [(memI_iff n g k).2 ⟨i, d0, d1⟩]; simp [go_sem, Tryz.results46]
    · have d1 := c1; try simp at d1
      refine awp_skip ?_
      refine awp_reg_end fun K hK => ?_
      simp [go_sem, c0, d0, c1, d1]
      try simp (disch := omega) only [wrapI]
      repeat refine ⟨by omega, ?_⟩
      refine hK _ ?_; clear hK K
      refine ⟨i + 1, back_of' (by simp) (.refl _) (by (simp [go_sem, wrap_succ (i := i) (by omega), c0, d0, c1, d1] <;> omega)), ⟨by omega, fun q hq => by rcases Nat.lt_or_eq_of_le (Nat.le_of_lt_succ hq) with h | h; exact hx q h; rw [h]; exact d1⟩, by first | omega | (dsimp only; omega)⟩
  · have d0 := c0; try simp at d0
    obtain rfl : i = n := by omega
    refine awp_exit ?_
    refine awp_reg_seq fun K hK => ?_
    simp [go_sem, c0, d0]
    repeat refine ⟨by omega, ?_⟩
    refine hK _ ?_; clear hK K
    refine awp_ret ?_
    have hz : memI i g k = false := by
      rw [← Bool.not_eq_true, memI_iff]; rintro ⟨q, h1, h2⟩; exact hx q h1 h2
    rw [hz]; simp [go_sem, Tryz.results46]
theorem indexInt_cs (σ : List Blk) (c : Option Nat) (n : Nat) (g : Nat → Int) (f : FuncId) (cap : List AV) (p : Int → Bool) (hn : n < 1000000000) (hf : ∀ i, i < n → CSF Tryz.prog f (.d (I (g i)) :: cap) σ (.d (B (p (g i))))) : CSF Tryz.prog 58 [.d (SL c 1 encI n g), .clo (.func f) [] cap] σ (.d (I (idxFrom p (lst n g) 0))) := by
  refine CSF.of_body T.en58 Tryz.func58 rfl (by simp [Tryz.ntmps58]) (by simp [go_sem]) fun hwf => ?_
  refine awp_reg_seq fun K hK => ?_
  simp [go_sem, Tryz.ntmps58]
  repeat refine ⟨by omega, ?_⟩
  refine hK _ ?_; clear hK K
  refine awp_seq ?_
  refine awp_reg_seq fun K hK => ?_
  simp [go_sem]
  repeat refine ⟨by omega, ?_⟩
  refine hK _ ?_; clear hK K
  refine awp_block ?_
  refine awp_forget [0, 1, 7, 8] (by simp [go_sem, restr]; rfl) ?_
  refine awp_loopU (α := Nat) (fun i => [(8, .d (I i))]) (fun i => _) (fun i => i ≤ n ∧ idxFrom p (lst n g) 0 = idxFrom p ((lst n g).drop i) i) (fun i => n - i) 0 (by simp [go_sem]) (rfl) (by simp) ?_
  rintro i ⟨hi, hx⟩
  refine awp_reg_seq fun K hK => ?_
  simp [go_sem]
  repeat refine ⟨by omega, ?_⟩
  refine hK _ ?_; clear hK K
  refine awp_seq ?_
  refine awp_forget [0, 1, 7, 8, 9] (by simp only [restr, List.contains_cons, List.contains_nil, Nat.reduceBEq, Bool.or_false, Bool.or_true, Bool.true_or, Bool.false_or, if_true, if_false, Bool.false_eq_true]; rfl) ?_
  refine awp_cond rfl (fun c0 => ?_) (fun c0 => ?_)
  · have d0 := c0; try simp at d0
    rw [drop_lst d0, idxFrom] at hx
    refine awp_skip ?_
    refine awp_seq ?_
    refine awp_block ?_
    refine awp_reg_seq fun K hK => ?_
    simp [go_sem, c0, d0]
    repeat refine ⟨by omega, ?_⟩
    refine hK _ ?_; clear hK K
    refine awp_reg_seq fun K hK => ?_
    simp [go_sem, c0, d0]
    repeat refine ⟨by omega, ?_⟩
    refine CSk.mk (hf i d0) ?_
    simp [go_sem, c0, d0]
    repeat refine ⟨by omega, ?_⟩
    refine hK _ ?_; clear hK K
    refine awp_forget [0, 1, 5, 7, 8, 16] (by simp only [restr, List.contains_cons, List.contains_nil, Nat.reduceBEq, Bool.or_false, Bool.or_true, Bool.true_or, Bool.false_or, if_true, if_false, Bool.false_eq_true]; rfl) ?_
    refine awp_cond rfl (fun c1 => ?_) (fun c1 => ?_)
    · have d1 := c1; try simp at d1
      refine awp_reg_seq fun K hK => ?_
      simp [go_sem, c0, d0, c1, d1]
      repeat refine ⟨by omega, ?_⟩
      refine hK _ ?_; clear hK K
      refine awp_ret ?_
      simp [go_sem, Tryz.results58, hx, c0, d0, c1, d1] <;> omega
    · have d1 := c1; try simp at d1
      refine awp_skip ?_
      refine awp_reg_end fun K hK => ?_
      simp [go_sem, c0, d0, c1, d1]
      try simp (disch := omega) only [wrapI]
      repeat refine ⟨by omega, ?_⟩
      refine hK _ ?_; clear hK K
      refine ⟨i + 1, back_of' (by simp) (.refl _) (by (simp [go_sem, wrap_succ (i := i) (by omega), c0, d0, c1, d1] <;> omega)), ⟨by omega, by rw [hx, c1]; simp⟩, by first | omega | (dsimp only; omega)⟩
  · have d0 := c0; try simp at d0
    rw [drop_all d0, idxFrom] at hx
    refine awp_exit ?_
    refine awp_reg_seq fun K hK => ?_
    simp [go_sem, c0, d0]
    repeat refine ⟨by omega, ?_⟩
    refine hK _ ?_; clear hK K
    refine awp_ret ?_
    simp [go_sem, Tryz.results58, hx, c0, d0] <;> omega
theorem containsInt_cs (σ : List Blk) (c : Option Nat) (n : Nat) (g : Nat → Int) (f : FuncId) (cap : List AV) (p : Int → Bool) (hn : n < 1000000000) (hf : ∀ i, i < n → CSF Tryz.prog f (.d (I (g i)) :: cap) σ (.d (B (p (g i))))) : CSF Tryz.prog 38 [.d (SL c 1 encI n g), .clo (.func f) [] cap] σ (.d (B ((lst n g).any p))) := by
  refine CSF.of_body T.en38 Tryz.func38 rfl (by simp [Tryz.ntmps38]) (by simp [go_sem]) fun hwf => ?_
  refine awp_reg_seq fun K hK => ?_
  simp [go_sem, Tryz.ntmps38]
  repeat refine ⟨by omega, ?_⟩
  refine hK _ ?_; clear hK K
  refine awp_reg_seq fun K hK => ?_
  simp [go_sem]
  repeat refine ⟨by omega, ?_⟩
  refine CSk.mk (indexInt_cs _ c n g f cap p hn hf) ?_
  simp [go_sem]
  repeat refine ⟨by omega, ?_⟩
  refine hK _ ?_; clear hK K
  refine awp_ret ?_
  simp [go_sem, Tryz.results38, idx_any] <;> omega
theorem indexLnk_cs (σ : List Blk) (c : Option Nat) (n : Nat) (g : Nat → Lnk) (f : FuncId) (cap : List AV) (p : Lnk → Bool) (hn : n < 1000000000) (hf : ∀ i, i < n → CSF Tryz.prog f (.agg ((g i).enc.map .d) :: cap) σ (.d (B (p (g i))))) : CSF Tryz.prog 70 [.d (SL c 2 Lnk.enc n g), .clo (.func f) [] cap] σ (.d (I (idxFrom p (lst n g) 0))) := by
  refine CSF.of_body T.en70 Tryz.func70 rfl (by simp [Tryz.ntmps70]) (by simp [go_sem]) fun hwf => ?_
  refine awp_reg_seq fun K hK => ?_
  simp [go_sem, Tryz.ntmps70]
  repeat refine ⟨by omega, ?_⟩
  refine hK _ ?_; clear hK K
  refine awp_seq ?_
  refine awp_reg_seq fun K hK => ?_
  simp [go_sem]
  repeat refine ⟨by omega, ?_⟩
  refine hK _ ?_; clear hK K
  refine awp_block ?_
  refine awp_forget [0, 1, 7, 8] (by simp [go_sem, restr]; rfl) ?_
  refine awp_loopU (α := Nat) (fun i => [(8, .d (I i))]) (fun i => _) (fun i => i ≤ n ∧ idxFrom p (lst n g) 0 = idxFrom p ((lst n g).drop i) i) (fun i => n - i) 0 (by simp [go_sem]) (rfl) (by simp) ?_
  rintro i ⟨hi, hx⟩
  refine awp_reg_seq fun K hK => ?_
  simp [go_sem]
  repeat refine ⟨by omega, ?_⟩
  refine hK _ ?_; clear hK K
  refine awp_seq ?_
  refine awp_forget [0, 1, 7, 8, 9] (by simp only [restr, List.contains_cons, List.contains_nil, Nat.reduceBEq, Bool.or_false, Bool.or_true, Bool.true_or, Bool.false_or, if_true, if_false, Bool.false_eq_true]; rfl) ?_
  refine awp_cond rfl (fun c0 => ?_) (fun c0 => ?_)
  · have d0 := c0; try simp at d0
    rw [drop_lst d0, idxFrom] at hx
    refine awp_skip ?_
    refine awp_seq ?_
    refine awp_block ?_
    refine awp_reg_seq fun K hK => ?_
    simp [go_sem, c0, d0]
    repeat refine ⟨by omega, ?_⟩
    refine hK _ ?_; clear hK K
    refine awp_reg_seq fun K hK => ?_
    simp [go_sem, c0, d0]
    repeat refine ⟨by omega, ?_⟩
    refine CSk.mk (hf i d0) ?_
    simp [go_sem, c0, d0]
    repeat refine ⟨by omega, ?_⟩
    refine hK _ ?_; clear hK K
    refine awp_forget [0, 1, 5, 7, 8, 16] (by simp only [restr, List.contains_cons, List.contains_nil, Nat.reduceBEq, Bool.or_false, Bool.or_true, Bool.true_or, Bool.false_or, if_true, if_false, Bool.false_eq_true]; rfl) ?_
    refine awp_cond rfl (fun c1 => ?_) (fun c1 => ?_)
    · have d1 := c1; try simp at d1
      refine awp_reg_seq fun K hK => ?_
      simp [go_sem, c0, d0, c1, d1]
      repeat refine ⟨by omega, ?_⟩
      refine hK _ ?_; clear hK K
      refine awp_ret ?_
      simp [go_sem, Tryz.results70, hx, c0, d0, c1, d1] <;> omega
    · have d1 := c1; try simp at d1
      refine awp_skip ?_
      refine awp_reg_end fun K hK => ?_
      simp [go_sem, c0, d0, c1, d1]
      try simp (disch := omega) only [wrapI]
      repeat refine ⟨by omega, ?_⟩
      refine hK _ ?_; clear hK K
      refine ⟨i + 1, back_of' (by simp) (.refl _) (by (simp [go_sem, wrap_succ (i := i) (by omega), c0, d0, c1, d1] <;> omega)), ⟨by omega, by rw [hx, c1]; simp⟩, by first | omega | (dsimp only; omega)⟩
  · have d0 := c0; try simp at d0
    rw [drop_all d0, idxFrom] at hx
    refine awp_exit ?_
    refine awp_reg_seq fun K hK => ?_
    simp [go_sem, c0, d0]
    repeat refine ⟨by omega, ?_⟩
    refine hK _ ?_; clear hK K
    refine awp_ret ?_
    simp [go_sem, Tryz.results70, hx, c0, d0] <;> omega
theorem containsLnk_cs (σ : List Blk) (c : Option Nat) (n : Nat) (g : Nat → Lnk) (f : FuncId) (cap : List AV) (p : Lnk → Bool) (hn : n < 1000000000) (hf : ∀ i, i < n → CSF Tryz.prog f (.agg ((g i).enc.map .d) :: cap) σ (.d (B (p (g i))))) : CSF Tryz.prog 54 [.d (SL c 2 Lnk.enc n g), .clo (.func f) [] cap] σ (.d (B ((lst n g).any p))) := by
  refine CSF.of_body T.en54 Tryz.func54 rfl (by simp [Tryz.ntmps54]) (by simp [go_sem]) fun hwf => ?_
  refine awp_reg_seq fun K hK => ?_
  simp [go_sem, Tryz.ntmps54]
  repeat refine ⟨by omega, ?_⟩
  refine hK _ ?_; clear hK K
  refine awp_reg_seq fun K hK => ?_
  simp [go_sem]
  repeat refine ⟨by omega, ?_⟩
  refine CSk.mk (indexLnk_cs _ c n g f cap p hn hf) ?_
  simp [go_sem]
  repeat refine ⟨by omega, ?_⟩
  refine hK _ ?_; clear hK K
  refine awp_ret ?_
  simp [go_sem, Tryz.results54, idx_any] <;> omega
theorem cloneInt_cs (σ : List Blk) (c : Option Nat) (n : Nat) (g : Nat → Int) (hn : n < 1000000000) : CSF Tryz.prog 14 [.d (SL c 1 encI n g)] σ (.d (SL none 1 encI n g)) := by
  refine CSF.of_body T.en14 Tryz.func14 rfl (by simp [Tryz.ntmps14]) (by simp [go_sem]) fun hwf => ?_
  refine awp_reg_seq fun K hK => ?_
  simp [go_sem, Tryz.ntmps14]
  repeat refine ⟨by omega, ?_⟩
  refine hK _ ?_; clear hK K
  refine awp_seq ?_
  refine awp_reg_seq fun K hK => ?_
  simp [go_sem, -Bool.forall_bool]
  intro b1 hb1
  repeat refine ⟨by omega, ?_⟩
  refine hK _ ?_; clear hK K
  refine awp_cond rfl (fun c0 => ?_) (fun c0 => ?_)
  · have d0 := c0; try simp at d0
    refine awp_reg_seq fun K hK => ?_
    simp [go_sem, c0, d0]
    repeat refine ⟨by omega, ?_⟩
    refine hK _ ?_; clear hK K
    refine awp_ret ?_
    have := hb1 c0
    simp [go_sem, Tryz.results14, this]
  · have d0 := c0; try simp at d0
    refine awp_skip ?_
    refine awp_reg_seq fun K hK => ?_
    simp [go_sem, c0, d0, hwf.one, hwf.zero]
    repeat refine ⟨by omega, ?_⟩
    refine hK _ ?_; clear hK K
    refine awp_freeze (σ.length) (by simp [go_sem]; first | exact ⟨rfl, rfl, rfl⟩ | exact ⟨rfl, rfl⟩ | rfl) (by simp [go_sem]; rfl) (by simp [go_sem, hwf.frz, hwf.frz0]; rfl) ?_
    refine awp_ret ?_
    simp [go_sem, Tryz.results14, c0, d0] <;> omega
theorem cloneIntM_cs (σ : List Blk) (c : Option Nat) (n : Nat) (g : Nat → Int) (hn : n < 1000000000) : CS Tryz.prog 14 [.d (SL c 1 encI n g)] σ (fun r σ' X => r = .ms σ.length 1 0 n ∧ σ' = σ ++ [.arr 1 n fun i => encI (g i)] ∧ X = []) := by
  refine CS.of_bodyW T.en14 Tryz.func14 rfl (by simp [Tryz.ntmps14]) fun hwf => ?_
  refine awp_reg_seq fun K hK => ?_
  simp [go_sem, Tryz.ntmps14]
  repeat refine ⟨by omega, ?_⟩
  refine hK _ ?_; clear hK K
  refine awp_seq ?_
  refine awp_reg_seq fun K hK => ?_
  simp [go_sem, -Bool.forall_bool]
  intro b1 hb1
  repeat refine ⟨by omega, ?_⟩
  refine hK _ ?_; clear hK K
  refine awp_cond rfl (fun c0 => ?_) (fun c0 => ?_)
  · have d0 := c0; try simp at d0
    refine awp_reg_seq fun K hK => ?_
    simp [go_sem, c0, d0]
    repeat refine ⟨by omega, ?_⟩
    refine hK _ ?_; clear hK K
    refine awp_thawT 2 1 (fun i => encI (g i)) (by simp [go_sem]) (by simp [go_sem]; rfl) ?_
    refine awp_ret ?_
    obtain rfl := hb1 c0
    simp [go_sem, Tryz.results14]
  · have d0 := c0; try simp at d0
    refine awp_skip ?_
    refine awp_reg_seq fun K hK => ?_
    simp [go_sem, c0, d0, hwf.one, hwf.zero]
    repeat refine ⟨by omega, ?_⟩
    refine hK _ ?_; clear hK K
    refine awp_ret ?_
    simp [go_sem, Tryz.results14, c0, d0] <;> omega
theorem cloneLnk_cs (σ : List Blk) (c : Option Nat) (n : Nat) (g : Nat → Lnk) (hn : n < 1000000000) : CSF Tryz.prog 31 [.d (SL c 2 Lnk.enc n g)] σ (.d (SL none 2 Lnk.enc n g)) := by
  refine CSF.of_body T.en31 Tryz.func31 rfl (by simp [Tryz.ntmps31]) (by simp [go_sem]) fun hwf => ?_
  refine awp_reg_seq fun K hK => ?_
  simp [go_sem, Tryz.ntmps31]
  repeat refine ⟨by omega, ?_⟩
  refine hK _ ?_; clear hK K
  refine awp_seq ?_
  refine awp_reg_seq fun K hK => ?_
  simp [go_sem, -Bool.forall_bool]
  intro b1 hb1
  repeat refine ⟨by omega, ?_⟩
  refine hK _ ?_; clear hK K
  refine awp_cond rfl (fun c0 => ?_) (fun c0 => ?_)
  · have d0 := c0; try simp at d0
    refine awp_reg_seq fun K hK => ?_
    simp [go_sem, c0, d0]
    repeat refine ⟨by omega, ?_⟩
    refine hK _ ?_; clear hK K
    refine awp_ret ?_
    have := hb1 c0
    simp [go_sem, Tryz.results31, this]
  · have d0 := c0; try simp at d0
    refine awp_skip ?_
    refine awp_reg_seq fun K hK => ?_
    simp [go_sem, c0, d0, hwf.one, hwf.zero]
    repeat refine ⟨by omega, ?_⟩
    refine hK _ ?_; clear hK K
    refine awp_freeze (σ.length) (by simp [go_sem]; first | exact ⟨rfl, rfl, rfl⟩ | exact ⟨rfl, rfl⟩ | rfl) (by simp [go_sem]; rfl) (by simp [go_sem, hwf.frz, hwf.frz0]; rfl) ?_
    refine awp_ret ?_
    simp [go_sem, Tryz.results31, c0, d0] <;> omega
theorem cloneLnkM_cs (σ : List Blk) (c : Option Nat) (n : Nat) (g : Nat → Lnk) (hn : n < 1000000000) : CS Tryz.prog 31 [.d (SL c 2 Lnk.enc n g)] σ (fun r σ' X => r = .ms σ.length 2 0 n ∧ σ' = σ ++ [.arr 2 n fun i => Lnk.enc (g i)] ∧ X = []) := by
  refine CS.of_bodyW T.en31 Tryz.func31 rfl (by simp [Tryz.ntmps31]) fun hwf => ?_
  refine awp_reg_seq fun K hK => ?_
  simp [go_sem, Tryz.ntmps31]
  repeat refine ⟨by omega, ?_⟩
  refine hK _ ?_; clear hK K
  refine awp_seq ?_
  refine awp_reg_seq fun K hK => ?_
  simp [go_sem, -Bool.forall_bool]
  intro b1 hb1
  repeat refine ⟨by omega, ?_⟩
  refine hK _ ?_; clear hK K
  refine awp_cond rfl (fun c0 => ?_) (fun c0 => ?_)
  · have d0 := c0; try simp at d0
    refine awp_reg_seq fun K hK => ?_
    simp [go_sem, c0, d0]
    repeat refine ⟨by omega, ?_⟩
    refine hK _ ?_; clear hK K
    refine awp_thawT 2 2 (fun i => Lnk.enc (g i)) (by simp [go_sem]) (by simp [go_sem]; rfl) ?_
    refine awp_ret ?_
    obtain rfl := hb1 c0
    simp [go_sem, Tryz.results31]
  · have d0 := c0; try simp at d0
    refine awp_skip ?_
    refine awp_reg_seq fun K hK => ?_
    simp [go_sem, c0, d0, hwf.one, hwf.zero]
    repeat refine ⟨by omega, ?_⟩
    refine hK _ ?_; clear hK K
    refine awp_ret ?_
    simp [go_sem, Tryz.results31, c0, d0] <;> omega
theorem equalInt_cs (σ : List Blk) (c c' : Option Nat) (n m : Nat) (f g : Nat → Int) (hn : n < 1000000000) (hm : m < 1000000000) : CSF Tryz.prog 29 [.d (SL c 1 encI n f), .d (SL c' 1 encI m g)] σ (.d (B (eqL (lst n f) (lst m g)))) := by
  refine CSF.of_body T.en29 Tryz.func29 rfl (by simp [Tryz.ntmps29]) (by simp [go_sem]) fun hwf => ?_
  refine awp_reg_seq fun K hK => ?_
  simp [go_sem, Tryz.ntmps29]
  repeat refine ⟨by omega, ?_⟩
  refine hK _ ?_; clear hK K
  refine awp_seq ?_
  refine awp_reg_seq fun K hK => ?_
  simp [go_sem]
  repeat refine ⟨by omega, ?_⟩
  refine hK _ ?_; clear hK K
  refine awp_forget [0, 1, 10] (by simp only [restr, List.contains_cons, List.contains_nil, Nat.reduceBEq, Bool.or_false, Bool.or_true, Bool.true_or, Bool.false_or, if_true, if_false, Bool.false_eq_true]; rfl) ?_
  refine awp_cond rfl (fun c0 => ?_) (fun c0 => ?_)
  · have d0 := c0; try simp at d0
    have hz : eqL (lst n f) (lst m g) = false := eqL_len (by omega)
    refine awp_reg_seq fun K hK => ?_
    simp [go_sem, c0, d0]
    repeat refine ⟨by omega, ?_⟩
    refine hK _ ?_; clear hK K
    refine awp_ret ?_
    rw [hz]; simp [go_sem, Tryz.results29]
  · have d0 := c0; try simp at d0
    refine awp_skip ?_
    refine awp_seq ?_
    refine awp_reg_seq fun K hK => ?_
    simp [go_sem, c0, d0]
    repeat refine ⟨by omega, ?_⟩
    refine hK _ ?_; clear hK K
    refine awp_block ?_
    refine awp_forget [0, 1, 12, 13] (by simp [go_sem, restr]; rfl) ?_
    refine awp_loopU (α := Nat) (fun i => [(13, .d (I i))]) (fun i => _) (fun i => i ≤ n ∧ ∀ q, q < i → f q = g q) (fun i => n - i) 0 (by simp [go_sem]) (rfl) (by simp) ?_
    rintro i ⟨hi, hx⟩
    refine awp_reg_seq fun K hK => ?_
    simp [go_sem, c0, d0]
    repeat refine ⟨by omega, ?_⟩
    refine hK _ ?_; clear hK K
    refine awp_seq ?_
    refine awp_forget [0, 1, 12, 13, 14] (by simp only [restr, List.contains_cons, List.contains_nil, Nat.reduceBEq, Bool.or_false, Bool.or_true, Bool.true_or, Bool.false_or, if_true, if_false, Bool.false_eq_true]; rfl) ?_
    refine awp_cond rfl (fun c1 => ?_) (fun c1 => ?_)
    · have d1 := c1; try simp at d1
      refine awp_skip ?_
      refine awp_seq ?_
      refine awp_block ?_
      refine awp_reg_seq fun K hK => ?_
      simp [go_sem, c0, d0, c1, d1]
      repeat refine ⟨by omega, ?_⟩
      refine hK _ ?_; clear hK K
      refine awp_draw_seq 9 T.mixed (by kernel_rfl) fun K hK => ?_
      simp [go_sem, c0, d0, c1, d1]
      repeat refine ⟨by omega, ?_⟩
      refine hK _ ?_; clear hK K
      refine awp_forget [0, 1, 12, 13, 24] (by simp only [restr, List.contains_cons, List.contains_nil, Nat.reduceBEq, Bool.or_false, Bool.or_true, Bool.true_or, Bool.false_or, if_true, if_false, Bool.false_eq_true]; rfl) ?_
      refine awp_cond rfl (fun c2 => ?_) (fun c2 => ?_)
      · have d2 := c2; try simp at d2
        have hz : eqL (lst n f) (lst m g) = false := eqL_at (i := i) (by omega) (by omega) (fun h => by simp [h] at d2)
        refine awp_reg_seq fun K hK => ?_
        simp [go_sem, c0, d0, c1, d1, c2, d2]
        repeat refine ⟨by omega, ?_⟩
        refine hK _ ?_; clear hK K
        refine awp_ret ?_
        rw [hz]; simp [go_sem, Tryz.results29]
      · have d2 := c2; try simp at d2
        have heq : f i = g i := by
          revert c2; rcases f i with _; rcases g i with _; simp <;> (intros; simp_all)
        refine awp_skip ?_
        refine awp_reg_end fun K hK => ?_
        simp [go_sem, c0, d0, c1, d1, c2, d2]
        try simp (disch := omega) only [wrapI]
        repeat refine ⟨by omega, ?_⟩
        refine hK _ ?_; clear hK K
        refine ⟨i + 1, back_of' (by simp) (.refl _) (by (simp [go_sem, wrap_succ (i := i) (by omega), c0, d0, c1, d1, c2, d2] <;> omega)), ⟨by omega, fun q hq => by rcases Nat.lt_or_eq_of_le (Nat.le_of_lt_succ hq) with h | h; exact hx q h; rw [h]; exact heq⟩, by first | omega | (dsimp only; omega)⟩
    · have d1 := c1; try simp at d1
      have hz : eqL (lst n f) (lst m g) = true := eqL_yes (by omega) (fun q hq => hx q (by omega))
      refine awp_exit ?_
      refine awp_reg_seq fun K hK => ?_
      simp [go_sem, c0, d0, c1, d1]
      repeat refine ⟨by omega, ?_⟩
      refine hK _ ?_; clear hK K
      refine awp_ret ?_
      rw [hz]; simp [go_sem, Tryz.results29]
end Go.Proofs.YtldnolgijfkfpaaGreatDoor

/-! Azw -/
namespace Go.Abs
set_option linter.unusedVariables false
set_option linter.unusedSimpArgs false
def arrV (k : IntKind) (n : Nat) (f : Nat → Int) : List AV := (List.range n).map fun i => .d (.v (.int k (f i)))
def upd (f : Nat → Int) (i : Nat) (z : Int) : Nat → Int := fun q => if q = i then z else f q
variable {k : IntKind} {n : Nat} {f : Nat → Int}
theorem arrV_length : (arrV k n f).length = n := by simp [arrV]
theorem arrV_get {i : Nat} (h : i < n) : (arrV k n f)[i]? = some (.d (.v (.int k (f i)))) := by simp [arrV, h]
theorem arrV_ext {g : Nat → Int} (h : ∀ i, i < n → f i = g i) : arrV k n f = arrV k n g := by
  unfold arrV
  exact List.map_congr_left fun i hi => by rw [h i (List.mem_range.1 hi)]
theorem arrV_at {i : Nat} (h : i < n) : List.take 1 (List.drop i (arrV k n f)) = [.d (.v (.int k (f i)))] := by
  have h1 : i < (arrV k n f).length := by rw [arrV_length]; exact h
  rw [List.drop_eq_getElem_cons h1]
  simp [arrV]
theorem arrV_set {i : Nat} {z : Int} (h : i < n) : List.take i (arrV k n f) ++ AV.d (.v (.int k z)) :: List.drop (i + 1) (arrV k n f) = arrV k n (upd f i z) := by
  apply List.ext_getElem?
  intro q
  rw [List.getElem?_append]
  simp only [List.length_take, arrV_length, List.getElem?_take]
  have e : min i n = i := by omega
  rw [e]
  by_cases h1 : q < i
  · rw [if_pos h1, if_pos h1, arrV_get (by omega), arrV_get (by omega)]
    simp [upd, show ¬ q = i by omega]
  · rw [if_neg h1]
    rcases Nat.eq_or_lt_of_le (Nat.le_of_not_lt h1) with h2 | h2
    · subst h2
      rw [Nat.sub_self, arrV_get h]
      simp [upd]
    · have e1 : q - i = (q - i - 1) + 1 := by omega
      rw [e1, List.getElem?_cons_succ, List.getElem?_drop]
      have e2 : i + 1 + (q - i - 1) = q := by omega
      rw [e2]
      by_cases h3 : q < n
      · rw [arrV_get h3, arrV_get h3]; simp [upd, show ¬ q = i by omega]
      · rw [List.getElem?_eq_none (by rw [arrV_length]; omega), List.getElem?_eq_none (by rw [arrV_length]; omega)]
theorem arrV_at0 (h : 0 < n) : List.take 1 (arrV k n f) = [.d (.v (.int k (f 0)))] := arrV_at (i := 0) h
theorem arrV_set0 {z : Int} (h : 0 < n) : AV.d (.v (.int k z)) :: (arrV k n f).tail = arrV k n (upd f 0 z) := by
  have := arrV_set (k := k) (f := f) (z := z) h
  simpa using this
theorem arrV_take : List.take n (arrV k n f) = arrV k n f := List.take_of_length_le (by rw [arrV_length]; exact Nat.le_refl _)
theorem arrV_takeA {l : List AV} : List.take n (arrV k n f ++ l) = arrV k n f := by
  rw [List.take_append_of_le_length (by rw [arrV_length]; exact Nat.le_refl _), arrV_take]
theorem arrV_takeB {l : List AV} {i : Nat} (h : n ≤ i) : List.take i (arrV k n f ++ l) = arrV k n f ++ List.take (i - n) l := by
  rw [List.take_append, arrV_length, List.take_of_length_le (by rw [arrV_length]; exact h)]
theorem arrV_dropA {l : List AV} {i : Nat} (h : n ≤ i) : List.drop i (arrV k n f ++ l) = List.drop (i - n) l := by
  rw [List.drop_append, List.drop_eq_nil_of_le (by rw [arrV_length]; exact h), arrV_length, List.nil_append]
theorem arrV_drop {i : Nat} (h : n ≤ i) : List.drop i (arrV k n f) = [] := List.drop_eq_nil_of_le (by rw [arrV_length]; exact h)
theorem arrV_allOne : allOne (arrV k n f) = true := by
  unfold arrV
  have : ∀ l : List Nat, allOne (l.map fun i => AV.d (.v (.int k (f i)))) = true := by
    intro l
    induction l with
    | nil => rfl
    | cons x l ih => simp [allOne, oneOk, Value.oneCell'] at ih ⊢; first | exact ih | simp_all
  exact this _
theorem dataL_under {m : Nat} {α : Type} (g : α → D) : ∀ l : List α, underL m (l.map fun i => AV.d (g i))
  | [] => trivial
  | x :: l => ⟨trivial, dataL_under g l⟩
theorem dataL_avoids {X : List Nat} {α : Type} (g : α → D) : ∀ l : List α, avoidsL X (l.map fun i => AV.d (g i)) = true
  | [] => rfl
  | x :: l => by simp only [List.map_cons, avoidsL, AV.avoids, Bool.true_and]; exact dataL_avoids g l
theorem arrV_under {m : Nat} : underL m (arrV k n f) := dataL_under _ _
theorem arrV_avoids {X : List Nat} : avoidsL X (arrV k n f) = true := dataL_avoids _ _
theorem arrV_scrub {X : List Nat} : (arrV k n f).map (fun c => if c.avoids X then c else .undef) = arrV k n f := by
  unfold arrV; rw [List.map_map]; exact List.map_congr_left fun i _ => rfl
theorem arrV_frzT {b sz n' : Nat} {row : Nat → List D} : (arrV k n f).map (frzT b sz n' row) = arrV k n f := by
  unfold arrV; rw [List.map_map]; exact List.map_congr_left fun i _ => rfl
theorem arrV_same : sameL0 (arrV k n f) (arrV k n f) := by
  unfold arrV
  have : ∀ l : List Nat, sameL0 (l.map fun i => AV.d (.v (.int k (f i)))) (l.map fun i => AV.d (.v (.int k (f i)))) := by
    intro l
    induction l with
    | nil => trivial
    | cons x l ih => exact ⟨rfl, ih⟩
  exact this _
theorem underL_app {m : Nat} : ∀ {l l' : List AV}, underL m l → underL m l' → underL m (l ++ l')
  | [], _, _, h => h
  | x :: l, l', h, h' => ⟨h.1, underL_app h.2 h'⟩
theorem arrV_underA {m : Nat} {l : List AV} : underL m (arrV k n f ++ l) = underL m l := by
  apply propext
  constructor
  · intro h
    have : ∀ (l1 l2 : List AV), underL m (l1 ++ l2) → underL m l2 := by
      intro l1; induction l1 with
      | nil => exact fun _ h => h
      | cons x l1 ih => exact fun l2 h => ih l2 h.2
    exact this _ _ h
  · exact underL_app arrV_under
end Go.Abs

/-! Cb -/
namespace Go.Proofs.YtldnolgijfkfpaaGreatDoor
open Go.Abs
set_option linter.unusedVariables false
set_option linter.unusedSimpArgs false
set_option maxRecDepth 100000
set_option maxHeartbeats 1000000
attribute [go_sem] arrV_length arrV_take arrV_takeA arrV_dropA arrV_allOne arrV_at arrV_set arrV_at0 arrV_set0 arrV_under arrV_avoids arrV_scrub arrV_frzT arrV_underA
abbrev U (x : Int) : D := .v (.int .u64 x)
theorem wrapU {n : Int} (h0 : 0 ≤ n) (h1 : n < 18446744073709551616) : IntKind.u64.wrap n = n := by
  rw [IntKind.wrap_u64]; omega
def rotL : List Nat := [0, 1, 62, 28, 27, 36, 44, 6, 55, 20, 3, 10, 43, 25, 39, 41, 45, 15, 21, 8, 18, 2, 61, 56, 14]
def rotN (i : Nat) : Nat := rotL.getD i 0
def rotF (i : Nat) : Int := rotN i
theorem rotN_lt (i : Nat) : rotN i < 64 := by
  unfold rotN
  by_cases h : i < rotL.length
  · have : ∀ j : Fin 25, rotL.getD j.val 0 < 64 := by decide
    exact this ⟨i, h⟩
  · rw [List.getD_eq_getElem?_getD, List.getElem?_eq_none (by omega)]; decide
def rcL : List Int := [0x0000000000000001, 0x0000000000008082, 0x800000000000808a, 0x8000000080008000, 0x000000000000808b, 0x0000000080000001, 0x8000000080008081, 0x8000000000008009, 0x000000000000008a, 0x0000000000000088, 0x0000000080008009, 0x000000008000000a, 0x000000008000808b, 0x800000000000008b, 0x8000000000008089, 0x8000000000008003, 0x8000000000008002, 0x8000000000000080, 0x000000000000800a, 0x800000008000000a, 0x8000000080008081, 0x8000000000008080, 0x0000000080000001, 0x8000000080008008]
def rcF (i : Nat) : Int := rcL.getD i 0
def rotI (x : Int) (k : Nat) : Int := orI .u64 (shlI .u64 x k) (shrI .u64 x (64 - (k : Int)))
theorem and63 {k : Nat} (h : k < 64) : andI .u64 (k : Int) 63 = k := by
  have : ∀ j : Fin 64, andI .u64 ((j.val : Nat) : Int) 63 = ((j.val : Nat) : Int) := by decide
  exact this ⟨k, h⟩
def sumsL (a : Nat → Int) : Nat → (Nat → Int)
  | 0 => fun _ => 0
  | i + 1 => upd (sumsL a i) (i % 5) (xorI .u64 (sumsL a i (i % 5)) (a i))
def wordP (a s : Nat → Int) (x y : Nat) : Int := xorI .u64 (xorI .u64 (a (x + 5 * y)) (s ((x + 4) % 5))) (rotI (s ((x + 1) % 5)) 1)
def bIn (a s : Nat → Int) (y : Nat) (b : Nat → Int) : Nat → (Nat → Int)
  | 0 => b
  | x + 1 => upd (bIn a s y b x) (y + 5 * ((2 * x + 3 * y) % 5)) (rotI (wordP a s x y) (rotN (x + 5 * y)))
def bOut (a s : Nat → Int) : Nat → (Nat → Int)
  | 0 => fun _ => 0
  | y + 1 => bIn a s y (bOut a s y) 5
def chiP (b : Nat → Int) (x y : Nat) : Int := xorI .u64 (b (x + 5 * y)) (andI .u64 (comI .u64 (b ((x + 1) % 5 + 5 * y))) (b ((x + 2) % 5 + 5 * y)))
def oIn (b : Nat → Int) (y : Nat) (o : Nat → Int) : Nat → (Nat → Int)
  | 0 => o
  | x + 1 => upd (oIn b y o x) (x + 5 * y) (chiP b x y)
def oOut (b : Nat → Int) : Nat → (Nat → Int)
  | 0 => fun _ => 0
  | y + 1 => oIn b y (oOut b y) 5
def roundP (a : Nat → Int) (c : Int) : Nat → Int := upd (oOut (bOut a (sumsL a 25) 5) 5) 0 (xorI .u64 (oOut (bOut a (sumsL a 25) 5) 5 0) c)
def permL (s : Nat → Int) : Nat → (Nat → Int)
  | 0 => s
  | i + 1 => roundP (permL s i) (rcF i)
theorem wk_5 {y : Nat} (h : y < 5) : IntKind.i64.wrap (5 * (y : Int)) = 5 * (y : Int) := wrapI (by omega) (by omega)
theorem wk_2 {y : Nat} (h : y < 5) : IntKind.i64.wrap (2 * (y : Int)) = 2 * (y : Int) := wrapI (by omega) (by omega)
theorem wk_3 {y : Nat} (h : y < 5) : IntKind.i64.wrap (3 * (y : Int)) = 3 * (y : Int) := wrapI (by omega) (by omega)
theorem wk_xy {x y : Nat} (hx : x < 5) (hy : y < 5) : IntKind.i64.wrap ((x : Int) + 5 * (y : Int)) = (x : Int) + 5 * (y : Int) := wrapI (by omega) (by omega)
theorem wk_23 {x y : Nat} (hx : x < 5) (hy : y < 5) : IntKind.i64.wrap (2 * (x : Int) + 3 * (y : Int)) = 2 * (x : Int) + 3 * (y : Int) := wrapI (by omega) (by omega)
theorem wk_x4 {x : Nat} (hx : x < 5) : IntKind.i64.wrap ((x : Int) + 4) = (x : Int) + 4 := wrapI (by omega) (by omega)
theorem wk_x1 {x : Nat} (hx : x < 5) : IntKind.i64.wrap ((x : Int) + 1) = (x : Int) + 1 := wrapI (by omega) (by omega)
theorem wk_x2 {x : Nat} (hx : x < 5) : IntKind.i64.wrap ((x : Int) + 2) = (x : Int) + 2 := wrapI (by omega) (by omega)
theorem md_x4 {x : Nat} : ((x : Int) + 4).tmod 5 = ((x : Int) + 4) % 5 := tmodI (by omega)
theorem md_x1 {x : Nat} : ((x : Int) + 1).tmod 5 = ((x : Int) + 1) % 5 := tmodI (by omega)
theorem md_x2 {x : Nat} : ((x : Int) + 2).tmod 5 = ((x : Int) + 2) % 5 := tmodI (by omega)
theorem md_23 {x y : Nat} : (2 * (x : Int) + 3 * (y : Int)).tmod 5 = (2 * (x : Int) + 3 * (y : Int)) % 5 := tmodI (by omega)
theorem wk_m5 {x y : Nat} : IntKind.i64.wrap (5 * ((2 * (x : Int) + 3 * (y : Int)) % 5)) = 5 * ((2 * (x : Int) + 3 * (y : Int)) % 5) := wrapI (by omega) (by omega)
theorem wk_b {x y : Nat} (hy : y < 5) : IntKind.i64.wrap ((y : Int) + 5 * ((2 * (x : Int) + 3 * (y : Int)) % 5)) = (y : Int) + 5 * ((2 * (x : Int) + 3 * (y : Int)) % 5) := wrapI (by omega) (by omega)
theorem wk_c1 {x y : Nat} (hy : y < 5) : IntKind.i64.wrap (((x : Int) + 1) % 5 + 5 * (y : Int)) = ((x : Int) + 1) % 5 + 5 * (y : Int) := wrapI (by omega) (by omega)
theorem wk_c2 {x y : Nat} (hy : y < 5) : IntKind.i64.wrap (((x : Int) + 2) % 5 + 5 * (y : Int)) = ((x : Int) + 2) % 5 + 5 * (y : Int) := wrapI (by omega) (by omega)
theorem lt_xy {x y : Nat} (hx : x < 5) (hy : y < 5) : x + 5 * y < 25 := by omega
theorem le_xy {x y : Nat} (hx : x < 5) (hy : y < 5) : x + 5 * y ≤ 24 := by omega
theorem lt_m5 (i : Nat) : i % 5 < 5 := Nat.mod_lt _ (by decide)
theorem le_m5 (i : Nat) : i % 5 ≤ 4 := Nat.le_of_lt_succ (Nat.mod_lt _ (by decide))
theorem lt_b {x y : Nat} (hy : y < 5) : y + 5 * ((2 * x + 3 * y) % 5) < 25 := by have := lt_m5 (2 * x + 3 * y); omega
theorem le_b {x y : Nat} (hy : y < 5) : y + 5 * ((2 * x + 3 * y) % 5) ≤ 24 := Nat.le_of_lt_succ (lt_b hy)
theorem lt_c {x y : Nat} (hy : y < 5) : x % 5 + 5 * y < 25 := by have := lt_m5 x; omega
theorem le_c {x y : Nat} (hy : y < 5) : x % 5 + 5 * y ≤ 24 := Nat.le_of_lt_succ (lt_c hy)
theorem tn_mod5 (i : Nat) : ((i : Int) % 5).toNat = i % 5 := by omega
theorem tn_xy (x y : Nat) : ((x : Int) + 5 * (y : Int)).toNat = x + 5 * y := by omega
theorem tn_x4 (x : Nat) : (((x : Int) + 4) % 5).toNat = (x + 4) % 5 := by omega
theorem tn_x1 (x : Nat) : (((x : Int) + 1) % 5).toNat = (x + 1) % 5 := by omega
theorem tn_b (x y : Nat) : ((y : Int) + 5 * ((2 * (x : Int) + 3 * (y : Int)) % 5)).toNat = y + 5 * ((2 * x + 3 * y) % 5) := by
  have h : ((2 * (x : Int) + 3 * (y : Int)) % 5) = (((2 * x + 3 * y) % 5 : Nat) : Int) := by omega
  rw [h]; omega
theorem tn_c1 (x y : Nat) : (((x : Int) + 1) % 5 + 5 * (y : Int)).toNat = (x + 1) % 5 + 5 * y := by omega
theorem tn_c2 (x y : Nat) : (((x : Int) + 2) % 5 + 5 * (y : Int)).toNat = (x + 2) % 5 + 5 * y := by omega
theorem rot64_cs (σ : List Blk) (x : Int) (k : Nat) (hk : k < 64) : CSF Tryz.prog 140 [.d (U x), .d (I k)] σ (.d (U (rotI x k))) := by
  have hw : IntKind.u64.wrap (k : Int) = k := wrapU (by omega) (by omega)
  have ha := and63 hk
  have hs : IntKind.u64.wrap (64 - (k : Int)) = 64 - (k : Int) := wrapU (by omega) (by omega)
  refine CSF.of_body T.en140 Tryz.func140 rfl (by simp [Tryz.ntmps140]) (by simp [go_sem]) fun hwf => ?_
  refine awp_reg_seq fun K hK => ?_
  simp [go_sem, Tryz.ntmps140, hw, ha, hs]
  repeat refine ⟨by omega, ?_⟩
  refine hK _ ?_; clear hK K
  refine awp_reg_seq fun K hK => ?_
  simp [go_sem, hw, ha, hs]
  repeat refine ⟨by omega, ?_⟩
  refine hK _ ?_; clear hK K
  refine awp_reg_seq fun K hK => ?_
  simp [go_sem, hw, ha, hs]
  try simp (disch := omega) only [wrapI]
  repeat refine ⟨by omega, ?_⟩
  refine hK _ ?_; clear hK K
  refine awp_ret ?_
  simp [go_sem, Tryz.results140, rotI, hw, ha, hs] <;> omega
theorem ref01_rotate_cs (σ : List Blk) (x : Int) (k : Nat) (hk : k < 64) : CSF Tryz.prog 125 [.d (U x), .d (I k)] σ (.d (U (rotI x k))) := by
  have hs : IntKind.i64.wrap (64 - (k : Int)) = 64 - (k : Int) := wrapI (by omega) (by omega)
  refine CSF.of_body T.en125 Tryz.func125 rfl (by simp [Tryz.ntmps125]) (by simp [go_sem]) fun hwf => ?_
  refine awp_reg_seq fun K hK => ?_
  simp [go_sem, Tryz.ntmps125, hs]
  repeat refine ⟨by omega, ?_⟩
  refine hK _ ?_; clear hK K
  refine awp_draw_seq 8 T.mixed (by kernel_rfl) fun K hK => ?_
  simp [go_sem, hs]
  try simp (disch := omega) only [wrapI]
  repeat refine ⟨by omega, ?_⟩
  refine hK _ ?_; clear hK K
  refine awp_ret ?_
  simp [go_sem, Tryz.results125, rotI, hs] <;> omega
theorem digest_rotations_cs (σ : List Blk)  : CSF Tryz.prog 126 [] σ (.agg (arrV .i64 25 rotF)) := by
  refine CSF.of_body T.en126 Tryz.func126 rfl (by simp [Tryz.ntmps126]) (by simp [go_sem]) fun hwf => ?_
  refine awp_reg_seq fun K hK => ?_
  simp [go_sem, Tryz.ntmps126]
  repeat refine ⟨by omega, ?_⟩
  refine hK _ ?_; clear hK K
  refine awp_reg_seq fun K hK => ?_
  simp [go_sem]
  repeat refine ⟨by omega, ?_⟩
  refine hK _ ?_; clear hK K
  refine awp_ret ?_
  simp [go_sem, Tryz.results126]; exact arrV_same (k := .i64) (n := 25) (f := rotF)
theorem digest_constants_cs (σ : List Blk)  : CSF Tryz.prog 127 [] σ (.agg (arrV .u64 24 rcF)) := by
  refine CSF.of_body T.en127 Tryz.func127 rfl (by simp [Tryz.ntmps127]) (by simp [go_sem]) fun hwf => ?_
  refine awp_reg_seq fun K hK => ?_
  simp [go_sem, Tryz.ntmps127]
  repeat refine ⟨by omega, ?_⟩
  refine hK _ ?_; clear hK K
  refine awp_reg_seq fun K hK => ?_
  simp [go_sem]
  repeat refine ⟨by omega, ?_⟩
  refine hK _ ?_; clear hK K
  refine awp_ret ?_
  simp [go_sem, Tryz.results127]; exact arrV_same (k := .u64) (n := 24) (f := rcF)
theorem ref01_rotations_cs (σ : List Blk)  : CSF Tryz.prog 104 [] σ (.agg (arrV .i64 25 rotF)) := by
  refine CSF.of_body T.en104 Tryz.func104 rfl (by simp [Tryz.ntmps104]) (by simp [go_sem]) fun hwf => ?_
  refine awp_reg_seq fun K hK => ?_
  simp [go_sem, Tryz.ntmps104]
  repeat refine ⟨by omega, ?_⟩
  refine hK _ ?_; clear hK K
  refine awp_reg_seq fun K hK => ?_
  simp [go_sem]
  repeat refine ⟨by omega, ?_⟩
  refine hK _ ?_; clear hK K
  refine awp_ret ?_
  simp [go_sem, Tryz.results104]; exact arrV_same (k := .i64) (n := 25) (f := rotF)
theorem ref01_constants_cs (σ : List Blk)  : CSF Tryz.prog 103 [] σ (.agg (arrV .u64 24 rcF)) := by
  refine CSF.of_body T.en103 Tryz.func103 rfl (by simp [Tryz.ntmps103]) (by simp [go_sem]) fun hwf => ?_
  refine awp_reg_seq fun K hK => ?_
  simp [go_sem, Tryz.ntmps103]
  repeat refine ⟨by omega, ?_⟩
  refine hK _ ?_; clear hK K
  refine awp_reg_seq fun K hK => ?_
  simp [go_sem]
  repeat refine ⟨by omega, ?_⟩
  refine hK _ ?_; clear hK K
  refine awp_ret ?_
  simp [go_sem, Tryz.results103]; exact arrV_same (k := .u64) (n := 24) (f := rcF)
theorem digest_round_cs (σ : List Blk) (a : Nat → Int) (c : Int) : CSF Tryz.prog 128 [.agg (arrV .u64 25 a), .agg (arrV .i64 25 rotF), .d (U c)] σ (.agg (arrV .u64 25 (roundP a c))) := by
  refine CSF.of_body T.en128 Tryz.func128 rfl (by simp [Tryz.ntmps128]) (by simp [go_sem]) fun hwf => ?_
  refine awp_reg_seq fun K hK => ?_
  simp [go_sem, Tryz.ntmps128, tn_mod5, tn_xy, tn_x4, tn_x1, tn_b, tn_c1, tn_c2, lt_m5, le_m5]
  repeat refine ⟨by omega, ?_⟩
  refine hK _ ?_; clear hK K
  refine awp_reg_seq fun K hK => ?_
  simp [go_sem, tn_mod5, tn_xy, tn_x4, tn_x1, tn_b, tn_c1, tn_c2, lt_m5, le_m5]
  repeat refine ⟨by omega, ?_⟩
  refine hK _ ?_; clear hK K
  refine awp_seq ?_
  refine awp_reg_seq fun K hK => ?_
  simp [go_sem, tn_mod5, tn_xy, tn_x4, tn_x1, tn_b, tn_c1, tn_c2, lt_m5, le_m5]
  repeat refine ⟨by omega, ?_⟩
  refine hK _ ?_; clear hK K
  refine awp_block ?_
  refine awp_forget [2, 3, 4, 6, 7, 18, 19] (by simp [go_sem, restr]; rfl) ?_
  refine awp_loopU (α := Nat) (fun i => [(19, .d (I i))]) (fun i => σ ++ [.var (arrV .u64 25 a), .var (arrV .i64 25 rotF), .var (arrV .u64 25 fun _ => 0), .var (arrV .u64 5 (sumsL a i))]) (fun i => i ≤ 25) (fun i => 25 - i) 0 (by simp [go_sem, tn_mod5, tn_xy, tn_x4, tn_x1, tn_b, tn_c1, tn_c2, lt_m5, le_m5]) (rfl) (by simp) ?_
  rintro i hi
  refine awp_reg_seq fun K hK => ?_
  simp [go_sem, tn_mod5, tn_xy, tn_x4, tn_x1, tn_b, tn_c1, tn_c2, lt_m5, le_m5]
  repeat refine ⟨by omega, ?_⟩
  refine hK _ ?_; clear hK K
  refine awp_seq ?_
  refine awp_forget [2, 3, 4, 6, 7, 18, 19, 20] (by simp only [restr, List.contains_cons, List.contains_nil, Nat.reduceBEq, Bool.or_false, Bool.or_true, Bool.true_or, Bool.false_or, if_true, if_false, Bool.false_eq_true]; rfl) ?_
  refine awp_cond rfl (fun c0 => ?_) (fun c0 => ?_)
  · have d0 := c0; try simp at d0
    have hi5 : i < 25 := by omega
    have ht : (i : Int).tmod 5 = (i : Int) % 5 := tmodI (by omega)
    have hsu : sumsL a (i + 1) = upd (sumsL a i) (i % 5) (xorI .u64 (sumsL a i (i % 5)) (a i)) := rfl
    refine awp_skip ?_
    refine awp_seq ?_
    refine awp_block ?_
    refine awp_reg_seq fun K hK => ?_
    simp [go_sem, tn_mod5, tn_xy, tn_x4, tn_x1, tn_b, tn_c1, tn_c2, lt_m5, le_m5, c0, d0, hi5, ht, hsu]
    repeat refine ⟨by omega, ?_⟩
    refine hK _ ?_; clear hK K
    refine awp_reg_end fun K hK => ?_
    simp [go_sem, tn_mod5, tn_xy, tn_x4, tn_x1, tn_b, tn_c1, tn_c2, lt_m5, le_m5, c0, d0, hi5, ht, hsu]
    try simp (disch := omega) only [tmodI]
    repeat refine ⟨by omega, ?_⟩
    refine hK _ ?_; clear hK K
    refine awp_reg_end fun K hK => ?_
    simp [go_sem, tn_mod5, tn_xy, tn_x4, tn_x1, tn_b, tn_c1, tn_c2, lt_m5, le_m5, c0, d0, hi5, ht, hsu]
    try simp (disch := omega) only [wrapI]
    repeat refine ⟨by omega, ?_⟩
    refine hK _ ?_; clear hK K
    refine ⟨i + 1, back_of' (by simp [go_sem, wrap_succ (i := i) (by omega), tn_mod5, tn_xy, tn_x4, tn_x1, tn_b, tn_c1, tn_c2, lt_m5, le_m5, c0, d0, hi5, ht, hsu]) ((leaves_app (by simp [go_sem]))) (by (simp [go_sem, wrap_succ (i := i) (by omega), tn_mod5, tn_xy, tn_x4, tn_x1, tn_b, tn_c1, tn_c2, lt_m5, le_m5, c0, d0, hi5, ht, hsu] <;> omega)), by omega, by first | omega | (dsimp only; omega)⟩
  · have d0 := c0; try simp at d0
    obtain rfl : i = 25 := by omega
    refine awp_exit ?_
    refine awp_reg_seq fun K hK => ?_
    simp [go_sem, tn_mod5, tn_xy, tn_x4, tn_x1, tn_b, tn_c1, tn_c2, lt_m5, le_m5, c0, d0]
    repeat refine ⟨by omega, ?_⟩
    refine hK _ ?_; clear hK K
    refine awp_seq ?_
    refine awp_reg_seq fun K hK => ?_
    simp [go_sem, tn_mod5, tn_xy, tn_x4, tn_x1, tn_b, tn_c1, tn_c2, lt_m5, le_m5, c0, d0]
    repeat refine ⟨by omega, ?_⟩
    refine hK _ ?_; clear hK K
    refine awp_block ?_
    refine awp_forget [2, 3, 4, 6, 7, 10, 31] (by simp [go_sem, restr]; rfl) ?_
    refine awp_loopU (α := Nat) (fun y => [(31, .d (I y))]) (fun y => σ ++ [.var (arrV .u64 25 a), .var (arrV .i64 25 rotF), .var (arrV .u64 25 fun _ => 0), .var (arrV .u64 5 (sumsL a 25)), .var (arrV .u64 25 (bOut a (sumsL a 25) y))]) (fun y => y ≤ 5) (fun y => 5 - y) 0 (by simp [go_sem, tn_mod5, tn_xy, tn_x4, tn_x1, tn_b, tn_c1, tn_c2, lt_m5, le_m5]) (rfl) (by simp) ?_
    rintro y hy
    refine awp_reg_seq fun K hK => ?_
    simp [go_sem, tn_mod5, tn_xy, tn_x4, tn_x1, tn_b, tn_c1, tn_c2, lt_m5, le_m5, c0, d0]
    repeat refine ⟨by omega, ?_⟩
    refine hK _ ?_; clear hK K
    refine awp_seq ?_
    refine awp_forget [2, 3, 4, 6, 7, 10, 31, 32] (by simp only [restr, List.contains_cons, List.contains_nil, Nat.reduceBEq, Bool.or_false, Bool.or_true, Bool.true_or, Bool.false_or, if_true, if_false, Bool.false_eq_true]; rfl) ?_
    refine awp_cond rfl (fun c1 => ?_) (fun c1 => ?_)
    · have d1 := c1; try simp at d1
      have hy5 : y < 5 := by omega
      refine awp_skip ?_
      refine awp_seq ?_
      refine awp_block ?_
      refine awp_reg_seq fun K hK => ?_
      simp [go_sem, tn_mod5, tn_xy, tn_x4, tn_x1, tn_b, tn_c1, tn_c2, lt_m5, le_m5, c0, d0, c1, d1, hy5]
      repeat refine ⟨by omega, ?_⟩
      refine hK _ ?_; clear hK K
      refine awp_reg_seq fun K hK => ?_
      simp [go_sem, tn_mod5, tn_xy, tn_x4, tn_x1, tn_b, tn_c1, tn_c2, lt_m5, le_m5, c0, d0, c1, d1, hy5]
      repeat refine ⟨by omega, ?_⟩
      refine hK _ ?_; clear hK K
      refine awp_block ?_
      refine awp_forget [2, 3, 4, 6, 7, 10, 11, 31, 34] (by simp [go_sem, restr]; rfl) ?_
      refine awp_loopU (α := Nat) (fun x => [(34, .d (I x))]) (fun x => σ ++ [.var (arrV .u64 25 a), .var (arrV .i64 25 rotF), .var (arrV .u64 25 fun _ => 0), .var (arrV .u64 5 (sumsL a 25)), .var (arrV .u64 25 (bIn a (sumsL a 25) y (bOut a (sumsL a 25) y) x))]) (fun x => x ≤ 5) (fun x => 5 - x) 0 (by simp [go_sem, tn_mod5, tn_xy, tn_x4, tn_x1, tn_b, tn_c1, tn_c2, lt_m5, le_m5]) (rfl) (by simp) ?_
      rintro x hx
      refine awp_reg_seq fun K hK => ?_
      simp [go_sem, tn_mod5, tn_xy, tn_x4, tn_x1, tn_b, tn_c1, tn_c2, lt_m5, le_m5, c0, d0, c1, d1, hy5]
      repeat refine ⟨by omega, ?_⟩
      refine hK _ ?_; clear hK K
      refine awp_seq ?_
      refine awp_forget [2, 3, 4, 6, 7, 10, 11, 31, 34, 35] (by simp only [restr, List.contains_cons, List.contains_nil, Nat.reduceBEq, Bool.or_false, Bool.or_true, Bool.true_or, Bool.false_or, if_true, if_false, Bool.false_eq_true]; rfl) ?_
      refine awp_cond rfl (fun c2 => ?_) (fun c2 => ?_)
      · have d2 := c2; try simp at d2
        have hx5 : x < 5 := by omega
        have hbu : bIn a (sumsL a 25) y (bOut a (sumsL a 25) y) (x + 1) = upd (bIn a (sumsL a 25) y (bOut a (sumsL a 25) y) x) (y + 5 * ((2 * x + 3 * y) % 5)) (rotI (wordP a (sumsL a 25) x y) (rotN (x + 5 * y))) := rfl
        have hwd : xorI .u64 (xorI .u64 (a (x + 5 * y)) (sumsL a 25 ((x + 4) % 5))) (rotI (sumsL a 25 ((x + 1) % 5)) 1) = wordP a (sumsL a 25) x y := rfl
        refine awp_skip ?_
        refine awp_seq ?_
        refine awp_block ?_
        refine awp_reg_seq fun K hK => ?_
        simp [go_sem, tn_mod5, tn_xy, tn_x4, tn_x1, tn_b, tn_c1, tn_c2, lt_m5, le_m5, c0, d0, c1, d1, hy5, c2, d2, hx5, wk_5, wk_2, wk_3, wk_xy, wk_23, wk_x4, wk_x1, md_x4, md_x1, md_23, wk_m5, wk_b, lt_xy, le_xy, lt_b, le_b, hbu, hwd]
        repeat refine ⟨by omega, ?_⟩
        refine hK _ ?_; clear hK K
        refine awp_reg_seq fun K hK => ?_
        simp [go_sem, tn_mod5, tn_xy, tn_x4, tn_x1, tn_b, tn_c1, tn_c2, lt_m5, le_m5, c0, d0, c1, d1, hy5, c2, d2, hx5, wk_5, wk_2, wk_3, wk_xy, wk_23, wk_x4, wk_x1, md_x4, md_x1, md_23, wk_m5, wk_b, lt_xy, le_xy, lt_b, le_b, hbu, hwd]
        try simp (disch := omega) only [wrapI]
        repeat refine ⟨by omega, ?_⟩
        refine hK _ ?_; clear hK K
        refine awp_draw_seq 16 T.mixed (by kernel_rfl) fun K hK => ?_
        simp [go_sem, tn_mod5, tn_xy, tn_x4, tn_x1, tn_b, tn_c1, tn_c2, lt_m5, le_m5, c0, d0, c1, d1, hy5, c2, d2, hx5, wk_5, wk_2, wk_3, wk_xy, wk_23, wk_x4, wk_x1, md_x4, md_x1, md_23, wk_m5, wk_b, lt_xy, le_xy, lt_b, le_b, hbu, hwd]
        try simp (disch := omega) only [tmodI, wrapI]
        repeat refine ⟨by omega, ?_⟩
        refine CSg.mk (rot64_cs _ (sumsL a 25 ((x + 1) % 5)) 1 (by decide)) ?_
        simp [go_sem, tn_mod5, tn_xy, tn_x4, tn_x1, tn_b, tn_c1, tn_c2, lt_m5, le_m5, c0, d0, c1, d1, hy5, c2, d2, hx5, wk_5, wk_2, wk_3, wk_xy, wk_23, wk_x4, wk_x1, md_x4, md_x1, md_23, wk_m5, wk_b, lt_xy, le_xy, lt_b, le_b, hbu, hwd]
        try simp (disch := omega) only [tmodI, wrapI]
        repeat refine ⟨by omega, ?_⟩
        refine hK _ ?_; clear hK K
        refine awp_reg_end fun K hK => ?_
        simp [go_sem, tn_mod5, tn_xy, tn_x4, tn_x1, tn_b, tn_c1, tn_c2, lt_m5, le_m5, c0, d0, c1, d1, hy5, c2, d2, hx5, wk_5, wk_2, wk_3, wk_xy, wk_23, wk_x4, wk_x1, md_x4, md_x1, md_23, wk_m5, wk_b, lt_xy, le_xy, lt_b, le_b, hbu, hwd]
        try simp (disch := omega) only [tmodI, wrapI]
        repeat refine ⟨by omega, ?_⟩
        refine CSk.mk (rot64_cs _ (wordP a (sumsL a 25) x y) (rotN (x + 5 * y)) (rotN_lt _)) ?_
        simp [go_sem, tn_mod5, tn_xy, tn_x4, tn_x1, tn_b, tn_c1, tn_c2, lt_m5, le_m5, c0, d0, c1, d1, hy5, c2, d2, hx5, wk_5, wk_2, wk_3, wk_xy, wk_23, wk_x4, wk_x1, md_x4, md_x1, md_23, wk_m5, wk_b, lt_xy, le_xy, lt_b, le_b, hbu, hwd]
        try simp (disch := omega) only [tmodI, wrapI]
        repeat refine ⟨by omega, ?_⟩
        refine hK _ ?_; clear hK K
        refine awp_reg_end fun K hK => ?_
        simp [go_sem, tn_mod5, tn_xy, tn_x4, tn_x1, tn_b, tn_c1, tn_c2, lt_m5, le_m5, c0, d0, c1, d1, hy5, c2, d2, hx5, wk_5, wk_2, wk_3, wk_xy, wk_23, wk_x4, wk_x1, md_x4, md_x1, md_23, wk_m5, wk_b, lt_xy, le_xy, lt_b, le_b, hbu, hwd]
        try simp (disch := omega) only [wrapI]
        repeat refine ⟨by omega, ?_⟩
        refine hK _ ?_; clear hK K
        refine ⟨x + 1, back_of' (by simp [go_sem, wrap_succ (i := x) (by omega), tn_mod5, tn_xy, tn_x4, tn_x1, tn_b, tn_c1, tn_c2, lt_m5, le_m5, c0, d0, c1, d1, hy5, c2, d2, hx5, wk_5, wk_2, wk_3, wk_xy, wk_23, wk_x4, wk_x1, md_x4, md_x1, md_23, wk_m5, wk_b, lt_xy, le_xy, lt_b, le_b, hbu, hwd]) ((leaves_app (by simp [go_sem]))) (by (simp [go_sem, wrap_succ (i := x) (by omega), tn_mod5, tn_xy, tn_x4, tn_x1, tn_b, tn_c1, tn_c2, lt_m5, le_m5, c0, d0, c1, d1, hy5, c2, d2, hx5, wk_5, wk_2, wk_3, wk_xy, wk_23, wk_x4, wk_x1, md_x4, md_x1, md_23, wk_m5, wk_b, lt_xy, le_xy, lt_b, le_b, hbu, hwd] <;> omega)), by omega, by first | omega | (dsimp only; omega)⟩
      · have d2 := c2; try simp at d2
        obtain rfl : x = 5 := by omega
        have hbo : bOut a (sumsL a 25) (y + 1) = bIn a (sumsL a 25) y (bOut a (sumsL a 25) y) 5 := rfl
        refine awp_exit ?_
        refine awp_reg_end fun K hK => ?_
        simp [go_sem, tn_mod5, tn_xy, tn_x4, tn_x1, tn_b, tn_c1, tn_c2, lt_m5, le_m5, c0, d0, c1, d1, hy5, c2, d2, hbo]
        try simp (disch := omega) only [wrapI]
        repeat refine ⟨by omega, ?_⟩
        refine hK _ ?_; clear hK K
        refine ⟨y + 1, back_of' (by simp [go_sem, wrap_succ (i := y) (by omega), tn_mod5, tn_xy, tn_x4, tn_x1, tn_b, tn_c1, tn_c2, lt_m5, le_m5, c0, d0, c1, d1, hy5, c2, d2, hbo]) ((leaves_app (by simp [go_sem]))) (by (simp [go_sem, wrap_succ (i := y) (by omega), tn_mod5, tn_xy, tn_x4, tn_x1, tn_b, tn_c1, tn_c2, lt_m5, le_m5, c0, d0, c1, d1, hy5, c2, d2, hbo] <;> omega)), by omega, by first | omega | (dsimp only; omega)⟩
    · have d1 := c1; try simp at d1
      obtain rfl : y = 5 := by omega
      refine awp_exit ?_
      refine awp_reg_seq fun K hK => ?_
      simp [go_sem, tn_mod5, tn_xy, tn_x4, tn_x1, tn_b, tn_c1, tn_c2, lt_m5, le_m5, c0, d0, c1, d1]
      repeat refine ⟨by omega, ?_⟩
      refine hK _ ?_; clear hK K
      refine awp_seq ?_
      refine awp_reg_seq fun K hK => ?_
      simp [go_sem, tn_mod5, tn_xy, tn_x4, tn_x1, tn_b, tn_c1, tn_c2, lt_m5, le_m5, c0, d0, c1, d1]
      repeat refine ⟨by omega, ?_⟩
      refine hK _ ?_; clear hK K
      refine awp_block ?_
      refine awp_forget [2, 6, 10, 15, 74] (by simp [go_sem, restr]; rfl) ?_
      refine awp_loopU (α := Nat) (fun y => [(74, .d (I y))]) (fun y => σ ++ [.var (arrV .u64 25 a), .var (arrV .i64 25 rotF), .var (arrV .u64 25 fun _ => 0), .var (arrV .u64 5 (sumsL a 25)), .var (arrV .u64 25 (bOut a (sumsL a 25) 5)), .var (arrV .u64 25 (oOut (bOut a (sumsL a 25) 5) y))]) (fun y => y ≤ 5) (fun y => 5 - y) 0 (by simp [go_sem, tn_mod5, tn_xy, tn_x4, tn_x1, tn_b, tn_c1, tn_c2, lt_m5, le_m5]) (rfl) (by simp) ?_
      rintro y hy
      refine awp_reg_seq fun K hK => ?_
      simp [go_sem, tn_mod5, tn_xy, tn_x4, tn_x1, tn_b, tn_c1, tn_c2, lt_m5, le_m5, c0, d0, c1, d1]
      repeat refine ⟨by omega, ?_⟩
      refine hK _ ?_; clear hK K
      refine awp_seq ?_
      refine awp_forget [2, 6, 10, 15, 74, 75] (by simp only [restr, List.contains_cons, List.contains_nil, Nat.reduceBEq, Bool.or_false, Bool.or_true, Bool.true_or, Bool.false_or, if_true, if_false, Bool.false_eq_true]; rfl) ?_
      refine awp_cond rfl (fun c3 => ?_) (fun c3 => ?_)
      · have d3 := c3; try simp at d3
        have hy5 : y < 5 := by omega
        refine awp_skip ?_
        refine awp_seq ?_
        refine awp_block ?_
        refine awp_reg_seq fun K hK => ?_
        simp [go_sem, tn_mod5, tn_xy, tn_x4, tn_x1, tn_b, tn_c1, tn_c2, lt_m5, le_m5, c0, d0, c1, d1, c3, d3, hy5]
        repeat refine ⟨by omega, ?_⟩
        refine hK _ ?_; clear hK K
        refine awp_reg_seq fun K hK => ?_
        simp [go_sem, tn_mod5, tn_xy, tn_x4, tn_x1, tn_b, tn_c1, tn_c2, lt_m5, le_m5, c0, d0, c1, d1, c3, d3, hy5]
        repeat refine ⟨by omega, ?_⟩
        refine hK _ ?_; clear hK K
        refine awp_block ?_
        refine awp_forget [2, 6, 10, 15, 16, 74, 77] (by simp [go_sem, restr]; rfl) ?_
        refine awp_loopU (α := Nat) (fun x => [(77, .d (I x))]) (fun x => σ ++ [.var (arrV .u64 25 a), .var (arrV .i64 25 rotF), .var (arrV .u64 25 fun _ => 0), .var (arrV .u64 5 (sumsL a 25)), .var (arrV .u64 25 (bOut a (sumsL a 25) 5)), .var (arrV .u64 25 (oIn (bOut a (sumsL a 25) 5) y (oOut (bOut a (sumsL a 25) 5) y) x))]) (fun x => x ≤ 5) (fun x => 5 - x) 0 (by simp [go_sem, tn_mod5, tn_xy, tn_x4, tn_x1, tn_b, tn_c1, tn_c2, lt_m5, le_m5]) (rfl) (by simp) ?_
        rintro x hx
        refine awp_reg_seq fun K hK => ?_
        simp [go_sem, tn_mod5, tn_xy, tn_x4, tn_x1, tn_b, tn_c1, tn_c2, lt_m5, le_m5, c0, d0, c1, d1, c3, d3, hy5]
        repeat refine ⟨by omega, ?_⟩
        refine hK _ ?_; clear hK K
        refine awp_seq ?_
        refine awp_forget [2, 6, 10, 15, 16, 74, 77, 78] (by simp only [restr, List.contains_cons, List.contains_nil, Nat.reduceBEq, Bool.or_false, Bool.or_true, Bool.true_or, Bool.false_or, if_true, if_false, Bool.false_eq_true]; rfl) ?_
        refine awp_cond rfl (fun c4 => ?_) (fun c4 => ?_)
        · have d4 := c4; try simp at d4
          have hx5 : x < 5 := by omega
          have hou : oIn (bOut a (sumsL a 25) 5) y (oOut (bOut a (sumsL a 25) 5) y) (x + 1) = upd (oIn (bOut a (sumsL a 25) 5) y (oOut (bOut a (sumsL a 25) 5) y) x) (x + 5 * y) (chiP (bOut a (sumsL a 25) 5) x y) := rfl
          have hch : xorI .u64 ((bOut a (sumsL a 25) 5) (x + 5 * y)) (andI .u64 (comI .u64 ((bOut a (sumsL a 25) 5) ((x + 1) % 5 + 5 * y))) ((bOut a (sumsL a 25) 5) ((x + 2) % 5 + 5 * y))) = chiP (bOut a (sumsL a 25) 5) x y := rfl
          refine awp_skip ?_
          refine awp_seq ?_
          refine awp_block ?_
          refine awp_reg_seq fun K hK => ?_
          simp [go_sem, tn_mod5, tn_xy, tn_x4, tn_x1, tn_b, tn_c1, tn_c2, lt_m5, le_m5, c0, d0, c1, d1, c3, d3, hy5, c4, d4, hx5, wk_5, wk_xy, wk_x1, wk_x2, md_x1, md_x2, wk_c1, wk_c2, lt_xy, le_xy, lt_c, le_c, hou, hch]
          repeat refine ⟨by omega, ?_⟩
          refine hK _ ?_; clear hK K
          refine awp_draw_end 29 T.mixed (by kernel_rfl) fun K hK => ?_
          simp [go_sem, tn_mod5, tn_xy, tn_x4, tn_x1, tn_b, tn_c1, tn_c2, lt_m5, le_m5, c0, d0, c1, d1, c3, d3, hy5, c4, d4, hx5, wk_5, wk_xy, wk_x1, wk_x2, md_x1, md_x2, wk_c1, wk_c2, lt_xy, le_xy, lt_c, le_c, hou, hch]
          try simp (disch := omega) only [tmodI, wrapI]
          repeat refine ⟨by omega, ?_⟩
          refine hK _ ?_; clear hK K
          refine awp_reg_end fun K hK => ?_
          simp [go_sem, tn_mod5, tn_xy, tn_x4, tn_x1, tn_b, tn_c1, tn_c2, lt_m5, le_m5, c0, d0, c1, d1, c3, d3, hy5, c4, d4, hx5, wk_5, wk_xy, wk_x1, wk_x2, md_x1, md_x2, wk_c1, wk_c2, lt_xy, le_xy, lt_c, le_c, hou, hch]
          try simp (disch := omega) only [wrapI]
          repeat refine ⟨by omega, ?_⟩
          refine hK _ ?_; clear hK K
          refine ⟨x + 1, back_of' (by simp [go_sem, wrap_succ (i := x) (by omega), tn_mod5, tn_xy, tn_x4, tn_x1, tn_b, tn_c1, tn_c2, lt_m5, le_m5, c0, d0, c1, d1, c3, d3, hy5, c4, d4, hx5, wk_5, wk_xy, wk_x1, wk_x2, md_x1, md_x2, wk_c1, wk_c2, lt_xy, le_xy, lt_c, le_c, hou, hch]) ((leaves_app (by simp [go_sem]))) (by (simp [go_sem, wrap_succ (i := x) (by omega), tn_mod5, tn_xy, tn_x4, tn_x1, tn_b, tn_c1, tn_c2, lt_m5, le_m5, c0, d0, c1, d1, c3, d3, hy5, c4, d4, hx5, wk_5, wk_xy, wk_x1, wk_x2, md_x1, md_x2, wk_c1, wk_c2, lt_xy, le_xy, lt_c, le_c, hou, hch] <;> omega)), by omega, by first | omega | (dsimp only; omega)⟩
        · have d4 := c4; try simp at d4
          obtain rfl : x = 5 := by omega
          have hoo : oOut (bOut a (sumsL a 25) 5) (y + 1) = oIn (bOut a (sumsL a 25) 5) y (oOut (bOut a (sumsL a 25) 5) y) 5 := rfl
          refine awp_exit ?_
          refine awp_reg_end fun K hK => ?_
          simp [go_sem, tn_mod5, tn_xy, tn_x4, tn_x1, tn_b, tn_c1, tn_c2, lt_m5, le_m5, c0, d0, c1, d1, c3, d3, hy5, c4, d4, hoo]
          try simp (disch := omega) only [wrapI]
          repeat refine ⟨by omega, ?_⟩
          refine hK _ ?_; clear hK K
          refine ⟨y + 1, back_of' (by simp [go_sem, wrap_succ (i := y) (by omega), tn_mod5, tn_xy, tn_x4, tn_x1, tn_b, tn_c1, tn_c2, lt_m5, le_m5, c0, d0, c1, d1, c3, d3, hy5, c4, d4, hoo]) ((leaves_app (by simp [go_sem]))) (by (simp [go_sem, wrap_succ (i := y) (by omega), tn_mod5, tn_xy, tn_x4, tn_x1, tn_b, tn_c1, tn_c2, lt_m5, le_m5, c0, d0, c1, d1, c3, d3, hy5, c4, d4, hoo] <;> omega)), by omega, by first | omega | (dsimp only; omega)⟩
      · have d3 := c3; try simp at d3
        obtain rfl : y = 5 := by omega
        refine awp_exit ?_
        refine awp_reg_seq fun K hK => ?_
        simp [go_sem, tn_mod5, tn_xy, tn_x4, tn_x1, tn_b, tn_c1, tn_c2, lt_m5, le_m5, c0, d0, c1, d1, c3, d3]
        repeat refine ⟨by omega, ?_⟩
        refine hK _ ?_; clear hK K
        refine awp_reg_seq fun K hK => ?_
        simp [go_sem, tn_mod5, tn_xy, tn_x4, tn_x1, tn_b, tn_c1, tn_c2, lt_m5, le_m5, c0, d0, c1, d1, c3, d3]
        repeat refine ⟨by omega, ?_⟩
        refine hK _ ?_; clear hK K
        refine awp_ret ?_
        simp [go_sem, Tryz.results128]; exact arrV_same (k := .u64) (n := 25) (f := roundP a c)
end Go.Proofs.YtldnolgijfkfpaaGreatDoor
