/- Contracts and lemmas (Es, Axm, Dp), joined out of smaller texts by a program; no conditions. -/
import Derived.Test.YtkochmppmpmddaaGreatKA6
import Derived.Test.YtkochmppmpmddaaGreatKA2
/-! Es -/
namespace Go.Proofs.YtkochmppmpmddaaGreat
open Go.Abs Go.Arch
open Go.ChangeShapes Go.WideShapes Go.ChangeAt Go.RowKit
set_option linter.unusedVariables false
set_option linter.unusedSimpArgs false

theorem opn85 : Opn Tryz.prog 85 fun ds => ∃ r : Ground, ds = [I r.Kind, I r.Source, I r.Unit, I r.Until] := (opn_struct Tryz.underlying85 (by kernel_rfl) (.cons opn3 (.cons opn3 (.cons opn3 (.cons opn3 .nil))))).mono fun ds h => by
  obtain ⟨_, _, rfl, ⟨a, rfl, _⟩, _, _, rfl, ⟨b, rfl, _⟩, _, _, rfl, ⟨c, rfl, _⟩, _, _, rfl, ⟨e, rfl, _⟩, rfl⟩ := h
  exact ⟨⟨a, b, c, e⟩, rfl⟩
theorem opn87 : Opn Tryz.prog 87 fun ds => ∃ r : Reason, ds = r.enc := (opn_struct Tryz.underlying87 (by kernel_rfl) (.cons opn85 (.cons opn3 .nil))).mono fun ds h => by
  obtain ⟨_, _, rfl, ⟨s, rfl⟩, _, _, rfl, ⟨b, rfl, _⟩, rfl⟩ := h
  exact ⟨⟨s, b⟩, rfl⟩
theorem opn47 : Opn Tryz.prog 47 fun ds => ∃ y, ds = [y] ∧ ∃ n g, y = SL none 5 Reason.enc n g ∧ n ≤ maxLen := (opn_slice (sz := 5) (Reason.enc default) Tryz.underlying47 (by kernel_rfl) (by omega) opn87 ⟨_, rfl⟩).mono fun ds h => by
  obtain ⟨n, row, rfl, hn, h⟩ := h
  exact ⟨_, rfl, n, fun i => (h i).choose, congrArg (D.sl none 5 n) (funext fun i => (h i).choose_spec), hn⟩
theorem opn49 : Opn Tryz.prog 49 fun ds => ∃ r : Acc, ds = r.enc := (opn_struct Tryz.underlying49 (by kernel_rfl) (.cons opn3 (.cons opn3 (.cons opn3 (.cons opn4 (.cons opn47 .nil)))))).mono fun ds h => by
  obtain ⟨_, _, rfl, ⟨a, rfl, _⟩, _, _, rfl, ⟨b, rfl, _⟩, _, _, rfl, ⟨c, rfl, _⟩, _, _, rfl, ⟨e, rfl⟩, _, _, rfl, ⟨y, rfl, n, g, rfl, _⟩, rfl⟩ := h
  exact ⟨⟨a, b, c, e, n, g⟩, rfl⟩
theorem opn45 : Opn Tryz.prog 45 fun ds => ∃ (n : Nat) (g : Nat → Row) (p : Pol), ds = (SL none 3 Row.enc n g) :: p.enc ∧ p.ns ≤ 9223372036854775807 ∧ p.np ≤ 9223372036854775807 := (opn_struct Tryz.underlying45 (by kernel_rfl) (.cons opn22 (.cons opn29 .nil))).mono fun ds h => by
  obtain ⟨_, _, rfl, ⟨y, rfl, n, g, rfl, _⟩, _, _, rfl, ⟨p, rfl, h1, h2⟩, rfl⟩ := h
  exact ⟨n, g, p, by simp, h1, h2⟩
theorem opn60 : Opn Tryz.prog 60 fun ds => ∃ a b c e, ds = [I a, I b, I c, I e] ∧ -9223372036854775808 ≤ e ∧ e ≤ 9223372036854775807 := (opn_array Tryz.underlying60 (by kernel_rfl) opn3).mono fun ds h => by
  obtain ⟨_, _, rfl, ⟨a, rfl, _⟩, _, _, rfl, ⟨b, rfl, _⟩, _, _, rfl, ⟨c, rfl, _⟩, _, _, rfl, ⟨e, rfl, he⟩, rfl⟩ := h
  simp [Lit.wf, IntKind.min, IntKind.max, IntKind.signed, IntKind.bits] at he
  exact ⟨a, b, c, e, rfl, he.1, he.2⟩

end Go.Proofs.YtkochmppmpmddaaGreat

/-! Axm -/
namespace Go.Abs
set_option linter.unusedVariables false
set_option linter.unusedSimpArgs false

def lateOk2 (ops : List Oper) (m i1 i2 : Nat) : Bool := lateOk ops m i1 && lateOk ops m i2 && Nat.blt i1 i2 && (match ops[i2]? with
    | some o => depB o i1
    | none => false)

def cur2 (i1 i2 : Nat) (σ σ2 σ3 : List Blk) (listed : Array Bool) : List Blk := if listed.getD i2 false then σ3 else if listed.getD i1 false then σ2 else σ

structure InvM (s : St) (ops : List Oper) (m i1 i2 : Nat) (σ2 σ3 : List Blk) (t1 : List (Nat × AV)) (j0 : J0) (listed : Array Bool) (j : Js) (a : Act) (w : World) : Prop where
  defers : Marks j0.n0 w j a.defers
  rdok : ∀ l, j0.rd = some l → ∃ r, w.heap[l]? = some (.loop r)
  size : a.tmps.size = s.N
  sto : RelS w j (cur2 i1 i2 s.σ σ2 σ3 listed)
  len0 : j0.js.length ≤ j.length
  ag : Ag j0.js j s.mv
  lsize : listed.size = ops.length
  lB : ∀ k, m ≤ k → k < ops.length → ∀ b, listed.getD k b = false
  cl : ∀ q oq, q < m → ops[q]? = some oq → listed.getD q true = true → ∀ e ∈ oq.after, Region.binds .any e = true → listed.getD e.on false = true
  c1 : ∀ q oq k av, q < m → ops[q]? = some oq → oq.dst = some k → listed.getD q true = true → get t1 k = some av → k < s.N ∧ R w j av (a.tmps.getD k Go.undef)
  c2 : ∀ k av, (∀ q oq, q < m → ops[q]? = some oq → oq.dst = some k → listed.getD q true = false) → get s.t k = some av → k < s.N ∧ R w j av (a.tmps.getD k Go.undef)

section
variable {P : Program} {ops : List Oper} {m i1 i2 : Nat}

/-- what the operations of the part that computes come to, whether it is stored or not -/
structure PureM (P : Program) (s : St) (ops : List Oper) (m i1 i2 : Nat) (σ2 σ3 : List Blk) (t1 : List (Nat × AV)) : Prop where
  at_ : ∀ listed : Array Bool, ∃ xs : Nat → AV, (stAt s (ops.take m) xs m).t = t1 ∧
    ∀ i o, i < m → ops[i]? = some o → i ≠ i1 → i ≠ i2 → Local P ops o ⟨s.N, (stAt s (ops.take m) xs i).t, cur2 i1 i2 s.σ σ2 σ3 listed, s.mv⟩ (xs i)

theorem InvM.looks_rel (hok : drawOk ops m = true) (hmn : m ≤ ops.length) {s : St} {σ2 σ3 : List Blk} {t1 : List (Nat × AV)} {j0 : J0} {listed : Array Bool} {j : Js} {a : Act} {w : World}
    (hI : InvM s ops m i1 i2 σ2 σ3 t1 j0 listed j a w) {xs : Nat → AV} (hxs : (stAt s (ops.take m) xs m).t = t1) {i : Nat} {o : Oper} (him : i < m) (ho : ops[i]? = some o) (h0 : listed.getD i true = false)
    (hall : ∀ e ∈ o.after, Region.binds .any e = true → listed.getD e.on false = true) {k : Nat} {av : AV} (hkl : k ∈ looks ops o) (hk : get (stAt s (ops.take m) xs i).t k = some av) : k < s.N ∧ R w j av (a.tmps.getD k Go.undef) := by
  have hokA := okA_spec ((drawOk_spec hok ho).2.1 him)
  have hil : i < ops.length := by omega
  by_cases hw : ∃ q oq, q < i ∧ ops[q]? = some oq ∧ oq.dst = some k
  · obtain ⟨q, oq, hq, hqo, hqd⟩ := hw
    have hdep := (hokA.1 k hkl q oq hqo hqd).1 hq
    obtain ⟨e, he1, he2, he3⟩ := depB_spec hdep
    have hlq := hall e he1 he3
    rw [he2, getD_tf hI.lsize (by omega)] at hlq
    rw [get_writ hok hmn (by omega) hqo hqd hq (by omega)] at hk
    have hk1 : get t1 k = some av := by
      rw [← hxs, get_writ hok hmn (by omega) hqo hqd (by omega) (Nat.le_refl _)]; exact hk
    exact hI.c1 q oq k av (by omega) hqo hqd hlq hk1
  · rw [get_unwrit (by omega) hw] at hk
    refine hI.c2 k av (fun q oq h1 h2 h3 => ?_) hk
    rcases Nat.lt_trichotomy q i with h | h | h
    · exact absurd ⟨q, oq, h, h2, h3⟩ hw
    · subst h; exact h0
    · have hdep := (hokA.1 k hkl q oq h2 h3).2 h
      obtain ⟨e, he1, he2, he3⟩ := depB_spec hdep
      by_cases hb : listed.getD q true = true
      · have := hI.cl q oq h1 h2 hb e he1 he3
        rw [he2, getD_tf hI.lsize hil, h0] at this; cases this
      · simpa using hb

structure LateS1 (P : Program) (ops : List Oper) (m ist : Nat) (N : Nat) (mv : List Nat) (t1 : List (Nat × AV)) (σ σ2 : List Blk) : Prop where
  lt : ist < m
  st : ∃ os t p v agg pv av c, ops[ist]? = some os ∧ os.op = .store t p v ∧ os.guard = none ∧ os.dst = none ∧ (∀ q oq k, ist < q → q < m → ops[q]? = some oq → oq.dst = some k → k ∉ looks ops os) ∧
    tyA P t = some (agg, (cellsOf av).length) ∧ allOne (cellsOf av) = true ∧ storeBlk σ pv (cellsOf av) = some (c, σ2) ∧ c ∧ Arg true ((⟨N, t1, σ, mv⟩ : St).restr (looks ops os)) p pv ∧ Arg true ((⟨N, t1, σ, mv⟩ : St).restr (looks ops os)) v av

theorem phaseM (hok : drawOk ops m = true) (hmn : m ≤ ops.length) {Q : Exit → St → Prop} {j0 : J0} {j1 : Js} {w1 : World} {s : St} {t1 : List (Nat × AV)} {σ2 σ3 : List Blk}
    (hW : LateS1 P ops m i1 s.N s.mv t1 s.σ σ2) (hW2 : LateS1 P ops m i2 s.N s.mv t1 σ2 σ3) (h12 : i1 < i2) (hdep : ∀ o, ops[i2]? = some o → depB o i1 = true) (hP : PureM P s ops m i1 i2 σ2 σ3 t1)
    (hK : evalOps P false ops (ops.drop m) ⟨s.N, t1, σ3, s.mv⟩ (Q .normal)) :
    ∀ (fuel : Nat) (j : Js) (a : Act) (w : World) (listed : Array Bool), left listed ops.length = fuel → InvM s ops m i1 i2 σ2 σ3 t1 j0 listed j a w → Ev j1 w1 j w → wpAnyIn (FW j0.rd) 0 P .any ops.toArray (APost j0 j1 w1 Q) fuel listed a w := by
  have fin : ∀ (j : Js) (a : Act) (w : World) (listed : Array Bool), (∀ q, q < m → listed.getD q true = true) → InvM s ops m i1 i2 σ2 σ3 t1 j0 listed j a w → Rel j0 ⟨s.N, t1, σ3, s.mv⟩ j a w := by
    intro j a w listed hdone hI
    have hia : listed.getD i2 false = true := by rw [getD_tf hI.lsize (by have := hW2.lt; omega)]; exact hdone i2 hW2.lt
    have htau : cur2 i1 i2 s.σ σ2 σ3 listed = σ3 := by simp only [cur2, hia, if_true]
    refine ⟨hI.defers, hI.rdok, hI.size, fun k av hk => ?_, by have := hI.sto; rw [htau] at this; exact this, hI.len0, hI.ag⟩
    by_cases hw : ∃ q oq, q < m ∧ ops[q]? = some oq ∧ oq.dst = some k
    · obtain ⟨q, oq, hq, hqo, hqd⟩ := hw
      exact hI.c1 q oq k av hq hqo hqd (hdone q hq) hk
    · obtain ⟨xs, hxs, _⟩ := hP.at_ listed
      have hk' : get t1 k = some av := hk
      rw [← hxs, get_unwrit (Nat.le_refl _) hw] at hk'
      exact hI.c2 k av (fun q oq h1 h2 h3 => absurd ⟨q, oq, h1, h2, h3⟩ hw) hk'
  intro fuel
  induction fuel with
  | zero =>
    intro j a w listed hf hI he
    have hall : ∀ k, k < ops.length → listed.getD k true = true := by
      intro k hk
      by_cases hb : listed.getD k true = true
      · exact hb
      · have : k ∈ (List.range ops.length).filter fun k => !listed.getD k true := by
          rw [List.mem_filter]; exact ⟨by simpa using hk, by simpa using hb⟩
        have h0 : (List.range ops.length).filter (fun k => !listed.getD k true) = [] := List.length_eq_zero_iff.1 hf
        rw [h0] at this; simp at this
    have hme : m = ops.length := by
      rcases Nat.lt_or_ge m ops.length with h | h
      · have := hall m h; rw [hI.lB m (Nat.le_refl _) h] at this; simp at this
      · omega
    exact phaseB hok 0 m _ j a w listed (by omega) (Nat.le_refl _) (by omega) hI.lsize (fun k hk b => by
      have h1 := hall k hk
      have hsz : k < listed.size := by rw [hI.lsize]; exact hk
      have h2 : listed[k] = true := by simpa [hsz] using h1
      simp [hsz, h2, show k < m by omega]) (fin j a w listed (fun q hq => hall q (by omega)) hI) he hK
  | succ fuel ih =>
    intro j a w listed hf hI he
    by_cases hdone : ∀ q, q < m → listed.getD q true = true
    · have hL : ∀ k, k < ops.length → ∀ b, listed.getD k b = decide (k < m) := by
        intro k hk b
        rcases Nat.lt_or_ge k m with h | h
        · have h1 := hdone k h
          have hsz : k < listed.size := by rw [hI.lsize]; exact hk
          have h2 : listed[k] = true := by simpa [hsz] using h1
          simp [hsz, h2, h]
        · rw [hI.lB k h hk]; simp; omega
      have hfuel : fuel + 1 = ops.length - m := by
        rw [← hf]
        unfold left
        have gen : ∀ n, n ≤ ops.length → ((List.range n).filter fun k => !listed.getD k true).length = n - m := by
          intro n
          induction n with
          | zero => simp
          | succ n ihn =>
            intro hn
            rw [List.range_succ, List.filter_append, List.length_append, ihn (by omega)]
            have h1 := hL n (by omega) true
            by_cases hnm : n < m
            · have : (List.filter (fun k => !listed.getD k true) [n]).length = 0 := by
                rw [List.filter_cons_of_neg (by rw [h1]; simp [hnm])]; simp
              omega
            · have : (List.filter (fun k => !listed.getD k true) [n]).length = 1 := by
                rw [List.filter_cons_of_pos (by rw [h1]; simp; omega)]; simp
              omega
        exact gen _ (Nat.le_refl _)
      exact phaseB hok (fuel + 1) m _ j a w listed hfuel.symm (Nat.le_refl _) (by omega) hI.lsize hL (fin j a w listed hdone hI) he hK
    · have hex : ∃ q, q < m ∧ listed.getD q true = false ∧ ∀ p, p < q → listed.getD p true = true := by
        have hex0 : ∃ q, q < m ∧ listed.getD q true = false := by
          apply Classical.byContradiction
          intro hne
          apply hdone
          intro q hq
          by_cases hb : listed.getD q true = true
          · exact hb
          · exact absurd ⟨q, hq, by simpa using hb⟩ hne
        obtain ⟨q, hq1, hq2⟩ := hex0
        induction q using Nat.strongRecOn with
        | _ q ihq =>
          by_cases hall : ∀ p, p < q → listed.getD p true = true
          · exact ⟨q, hq1, hq2, hall⟩
          · have : ∃ p, p < q ∧ listed.getD p true = false := by
              apply Classical.byContradiction
              intro hne
              apply hall
              intro p hp
              by_cases hb : listed.getD p true = true
              · exact hb
              · exact absurd ⟨p, hp, by simpa using hb⟩ hne
            obtain ⟨p, hp1, hp2⟩ := this
            exact ihq p hp1 (by omega) hp2
      obtain ⟨q0, hq0, hq0l, hq0all⟩ := hex
      have hlt0 : q0 < ops.length := by omega
      have hready : q0 ∈ Region.ready .any ops.toArray listed := by
        rw [mem_ready]
        refine ⟨hq0l, ops[q0], by simp [hlt0], fun e he hb => ?_⟩
        have h1 := (drawOk_spec hok (i := q0) (o := ops[q0]) (by simp [hlt0])).1 e he hb
        rw [getD_tf hI.lsize (by omega)]
        exact hq0all e.on h1
      refine ⟨fun h0 => by rw [h0] at hready; simp at hready, fun i hi => ?_⟩
      rw [mem_ready] at hi
      obtain ⟨h0, o, ho, hall⟩ := hi
      have ho' : ops[i]? = some o := by simpa using ho
      have hil : i < ops.length := lt_of_getElem? ho'
      have him : i < m := by
        rcases Nat.lt_or_ge i m with h | h
        · exact h
        · obtain ⟨e, he1, he2, he3⟩ := depB_spec ((drawOk_spec hok ho').2.2 h q0 (by omega))
          have := hall e he1 he3
          rw [he2, getD_tf hI.lsize hlt0, hq0l] at this; cases this
      have hokA := okA_spec ((drawOk_spec hok ho').2.1 him)
      have hset0 : left (listed.setIfInBounds i true) ops.length = fuel := by
        have := left_set hI.lsize hil h0; omega
      have hszi : i < listed.size := by rw [hI.lsize]; exact hil
      have hseti : ∀ b, (listed.setIfInBounds i true).getD i b = true := by intro b; simp [hszi]
      -- the step, whatever it was
      have step : ∀ (j' : Js) (w' : World) (v : Value), RelS w' j' (cur2 i1 i2 s.σ σ2 σ3 (listed.setIfInBounds i true)) → Ev j w j' w' → Ag j j' [] → j.length ≤ j'.length →
          (∀ k av, o.dst = some k → get t1 k = some av → k < s.N ∧ R w' j' av v) → wpAnyIn (FW j0.rd) 0 P .any ops.toArray (APost j0 j1 w1 Q) fuel (listed.setIfInBounds i true) (a.put o.dst v) w' := by
        intro j' w' v hsto hev hagj hlj hv
        have oth : ∀ {k}, o.dst ≠ some k → (a.put o.dst v).tmps.getD k Go.undef = a.tmps.getD k Go.undef := by
          intro k hne
          cases hd : o.dst with
          | none => rfl
          | some d =>
            have hdk : d ≠ k := fun h => hne (by rw [hd, h])
            simp [Act.put, Array.getD_eq_getD_getElem?, Array.getElem?_setIfInBounds, hdk]
        refine ih j' _ w' _ hset0 ⟨?_, fun l hl => (by obtain ⟨r, hr⟩ := hI.rdok l hl; exact hev.lps l r hr), ?_, hsto, Nat.le_trans hI.len0 hlj, ?_, by simpa using hI.lsize, ?_, ?_, ?_, ?_⟩ (he.trans hev)
        · have := hI.defers.mono hev
          cases hd : o.dst <;> simpa [Act.put] using this
        · cases hd : o.dst <;> simp [Act.put, hI.size]
        · intro b hb hn
          rw [hagj b (by have := hI.len0; omega) (by simp)]
          exact hI.ag b hb hn
        · intro k hk1 hk2 b
          rw [getD_set_ne b (by omega)]; exact hI.lB k hk1 hk2 b
        · intro q oq hq hqo hl e he1 he2
          by_cases hqi : i = q
          · subst hqi
            have : oq = o := by rw [ho'] at hqo; exact (Option.some.inj hqo).symm
            subst this
            exact getD_set_true (hall e he1 he2)
          · rw [getD_set_ne true hqi] at hl
            exact getD_set_true (hI.cl q oq hq hqo hl e he1 he2)
        · intro q oq k av hq hqo hqd hl hk
          by_cases hqi : i = q
          · subst hqi
            have : oq = o := by rw [ho'] at hqo; exact (Option.some.inj hqo).symm
            subst this
            have h1 := hv k av hqd hk
            simp only [Act.put, hqd]
            rw [R_setIfInBounds (w := w) (j := j) (by rw [hI.size]; exact h1.1), if_pos rfl]; exact h1
          · rw [getD_set_ne true hqi] at hl
            have h1 := hI.c1 q oq k av hq hqo hqd hl hk
            rw [oth (fun hd => hokA.2 q oq k hq (fun h => hqi h.symm) hqo hd hqd)]
            exact ⟨h1.1, h1.2.mono0 hev hI.sto.lt hagj⟩
        · intro k av hk hg
          have hne : o.dst ≠ some k := fun hd => by
            have := hk i o him ho' hd
            rw [hseti] at this; cases this
          have h1 := hI.c2 k av (fun q oq h1 h2 h3 => by
            have hqi : i ≠ q := fun h => by subst h; rw [ho'] at h2; cases h2; exact hne h3
            have := hk q oq h1 h2 h3
            rwa [getD_set_ne true hqi] at this) hg
          rw [oth hne]; exact ⟨h1.1, h1.2.mono0 hev hI.sto.lt hagj⟩
      simp only [wpOpIn, ho]
      · by_cases his : i = i1
        · -- it is stored
          subst his
          obtain ⟨os, t, p, v, agg, pv, av, c, hos, hop, hgd, hdst, hlate, hty, hone, hst, hc, hp, hv⟩ := hW.st
          obtain rfl : o = os := by rw [ho'] at hos; exact Option.some.inj hos
          have hni : listed.getD i false = false := by rw [getD_tf hI.lsize hil]; exact h0
          have hn2 : listed.getD i2 false = false := by
            by_cases hb : listed.getD i2 true = true
            · obtain ⟨o2, ho2⟩ : ∃ o2, ops[i2]? = some o2 := ⟨ops[i2]'(by have := hW2.lt; omega), by simp⟩
              obtain ⟨e, he1, he2, he3⟩ := depB_spec (hdep o2 ho2)
              have := hI.cl i2 o2 hW2.lt ho2 hb e he1 he3
              rw [he2, hni] at this; cases this
            · rw [getD_tf hI.lsize (by have := hW2.lt; omega)]; simpa using hb
          have hsto := hI.sto
          have htau : cur2 i i2 s.σ σ2 σ3 listed = s.σ := by simp only [cur2, hni, hn2]; rfl
          rw [htau] at hsto
          have hr : Rel j0 ((⟨s.N, t1, s.σ, s.mv⟩ : St).restr (looks ops o)) j a w := by
            refine ⟨hI.defers, hI.rdok, hI.size, fun k av hk => ?_, hsto, hI.len0, hI.ag⟩
            simp only [St.restr, get_restr] at hk
            split at hk
            · rename_i hkl
              have hkl : k ∈ looks ops o := by simpa using hkl
              by_cases hw : ∃ q oq, q < m ∧ ops[q]? = some oq ∧ oq.dst = some k
              · obtain ⟨q, oq, hq, hqo, hqd⟩ := hw
                have hqi : q < i := by
                  rcases Nat.lt_trichotomy q i with h | h | h
                  · exact h
                  · subst h; rw [ho'] at hqo; cases hqo; rw [hdst] at hqd; cases hqd
                  · exact absurd hkl (hlate q oq k h hq hqo hqd)
                obtain ⟨e, he1, he2, he3⟩ := depB_spec ((hokA.1 k hkl q oq hqo hqd).1 hqi)
                have hlq := hall e he1 he3
                rw [he2, getD_tf hI.lsize (by omega)] at hlq
                exact hI.c1 q oq k av hq hqo hqd hlq hk
              · obtain ⟨xs, hxs, _⟩ := hP.at_ listed
                rw [← hxs, get_unwrit (Nat.le_refl _) hw] at hk
                exact hI.c2 k av (fun q oq h1 h2 h3 => absurd ⟨q, oq, h1, h2, h3⟩ hw) hk
            · simp at hk
          obtain ⟨w', h1, h2, h3⟩ := store_sound (P := P) hsto hty (hp rfl j0 j a w hr) (hv rfl j0 j a w hr) hone rfl hst hc
          have hrun : (execOp a.eval o).run P w = .ok .skip w' := by simp [execOp, hop, h1]
          have hw : Region.wanted o (yielded ops.toArray a.tmps) = true := by simp [Region.wanted, hgd]
          rw [if_pos hw]
          refine opw (by simp [hop]) hrun ?_
          refine step j w' _ ?_ h3 (.refl _ _) (Nat.le_refl _) (fun k av hk => by rw [hdst] at hk; cases hk)
          have hn2' : (listed.setIfInBounds i true).getD i2 false = false := by rw [getD_set_ne false (by omega)]; exact hn2
          have : cur2 i i2 s.σ σ2 σ3 (listed.setIfInBounds i true) = σ2 := by simp only [cur2, hseti, hn2', if_true]; rfl
          rw [this]; exact h2
        · by_cases his2 : i = i2
          · -- and again
            subst his2
            obtain ⟨os, t, p, v, agg, pv, av, c, hos, hop, hgd, hdst, hlate, hty, hone, hst, hc, hp, hv⟩ := hW2.st
            obtain rfl : o = os := by rw [ho'] at hos; exact Option.some.inj hos
            have hni : listed.getD i false = false := by rw [getD_tf hI.lsize hil]; exact h0
            have hl1 : listed.getD i1 false = true := by
              obtain ⟨e, he1, he2, he3⟩ := depB_spec (hdep o ho')
              have := hall e he1 he3
              rw [he2] at this; exact this
            have hsto := hI.sto
            have htau : cur2 i1 i s.σ σ2 σ3 listed = σ2 := by simp only [cur2, hni, hl1, if_true]; rfl
            rw [htau] at hsto
            have hr : Rel j0 ((⟨s.N, t1, σ2, s.mv⟩ : St).restr (looks ops o)) j a w := by
              refine ⟨hI.defers, hI.rdok, hI.size, fun k av hk => ?_, hsto, hI.len0, hI.ag⟩
              simp only [St.restr, get_restr] at hk
              split at hk
              · rename_i hkl
                have hkl : k ∈ looks ops o := by simpa using hkl
                by_cases hw : ∃ q oq, q < m ∧ ops[q]? = some oq ∧ oq.dst = some k
                · obtain ⟨q, oq, hq, hqo, hqd⟩ := hw
                  have hqi : q < i := by
                    rcases Nat.lt_trichotomy q i with h | h | h
                    · exact h
                    · subst h; rw [ho'] at hqo; cases hqo; rw [hdst] at hqd; cases hqd
                    · exact absurd hkl (hlate q oq k h hq hqo hqd)
                  obtain ⟨e, he1, he2, he3⟩ := depB_spec ((hokA.1 k hkl q oq hqo hqd).1 hqi)
                  have hlq := hall e he1 he3
                  rw [he2, getD_tf hI.lsize (by omega)] at hlq
                  exact hI.c1 q oq k av hq hqo hqd hlq hk
                · obtain ⟨xs, hxs, _⟩ := hP.at_ listed
                  rw [← hxs, get_unwrit (Nat.le_refl _) hw] at hk
                  exact hI.c2 k av (fun q oq h1 h2 h3 => absurd ⟨q, oq, h1, h2, h3⟩ hw) hk
              · simp at hk
            obtain ⟨w', h1, h2, h3⟩ := store_sound (P := P) hsto hty (hp rfl j0 j a w hr) (hv rfl j0 j a w hr) hone rfl hst hc
            have hrun : (execOp a.eval o).run P w = .ok .skip w' := by simp [execOp, hop, h1]
            have hw : Region.wanted o (yielded ops.toArray a.tmps) = true := by simp [Region.wanted, hgd]
            rw [if_pos hw]
            refine opw (by simp [hop]) hrun ?_
            refine step j w' _ ?_ h3 (.refl _ _) (Nat.le_refl _) (fun k av hk => by rw [hdst] at hk; cases hk)
            have : cur2 i1 i s.σ σ2 σ3 (listed.setIfInBounds i true) = σ3 := by simp only [cur2, hseti, if_true]
            rw [this]; exact h2
          · -- one that computes
            obtain ⟨xs, hxs, hloc⟩ := hP.at_ listed
            have hL := hloc i o him ho' his his2
            have hrel : Rel j0 ((⟨s.N, (stAt s (ops.take m) xs i).t, cur2 i1 i2 s.σ σ2 σ3 listed, s.mv⟩ : St).restr (looks ops o)) j a w := by
              refine ⟨hI.defers, hI.rdok, hI.size, fun k av hk => ?_, hI.sto, hI.len0, hI.ag⟩
              simp only [St.restr, get_restr] at hk
              split at hk
              · rename_i hkl
                exact hI.looks_rel hok hmn hxs him ho' h0 hall (by simpa using hkl) hk
              · simp at hk
            have htau : cur2 i1 i2 s.σ σ2 σ3 (listed.setIfInBounds i true) = cur2 i1 i2 s.σ σ2 σ3 listed := by
              simp only [cur2, getD_set_ne false his, getD_set_ne false his2]
            have hval : ∀ (w' : World) (v : Value), R w' j (xs i) v → ∀ k av, o.dst = some k → get t1 k = some av → k < s.N ∧ R w' j av v := by
              intro w' v hr k av hk hgt
              rw [← hxs, get_writ hok hmn him ho' hk him (Nat.le_refl _)] at hgt
              split at hgt
              · rename_i hlt
                obtain rfl : xs i = av := Option.some.inj hgt
                exact ⟨hlt, hr⟩
              · simp at hgt
            by_cases hw : Region.wanted o (yielded ops.toArray a.tmps) = true
            · rw [if_pos hw]
              exact hL.run j0 j a w _ _ hrel hw fun w' v h1 h2 h3 => step j w' v (by rw [htau]; exact h1) h2 (.refl _ _) (Nat.le_refl _) (hval w' v h3)
            · rw [if_neg hw]
              exact ⟨fun _ _ => trivial, step j w Go.undef (by rw [htau]; exact hI.sto) (.refl _ _) (.refl _ _) (Nat.le_refl _) (hval w _ (hL.skip j0 j a w hrel (by simpa using hw)))⟩

end

theorem lateS_of {P : Program} {ops : List Oper} {m ist N : Nat} {mv : List Nat} {t1 : List (Nat × AV)} {σ σ2 : List Blk} (hok : lateOk ops m ist = true) (h2 : lateA P ops ist ⟨N, t1, σ, mv⟩ fun σ' => σ' = σ2) : LateS1 P ops m ist N mv t1 σ σ2 := by
  obtain ⟨hlt, os, t', p, v, g1, g2, g3, g4, g5⟩ := lateOk_spec hok
  unfold lateA at h2
  rw [nthOp_eq, g1] at h2
  simp only [g2] at h2
  have hmp : ∀ t, p = .tmp t → t ∈ looks ops os := fun t ht => List.mem_append.2 (.inl (mem_opTmps (x := p) (by simp [g2, Op.operands]) ht))
  have hmv : ∀ t, v = .tmp t → t ∈ looks ops os := fun t ht => List.mem_append.2 (.inl (mem_opTmps (x := v) (by simp [g2, Op.operands]) ht))
  rw [← arg_restr hmp] at h2
  obtain ⟨pv, h2, hp⟩ := arg_sound h2
  rw [← arg_restr hmv] at h2
  obtain ⟨av, h2, hv⟩ := arg_sound h2
  split at h2
  · rename_i agg mm hty
    obtain ⟨k1, k2, h2⟩ := h2
    split at h2
    · rename_i c σ2' hst
      obtain ⟨hc, rfl⟩ := h2
      exact ⟨hlt, os, t', p, v, agg, pv, av, c, g1, g2, g3, g4, g5, by rw [k2]; exact hty, k1, hst, hc, hp, hv⟩
    · exact h2.elim
  · exact h2.elim

/-- the operations that compute; two stores are passed over -/
def evalO2 (P : Program) (all : List Oper) (i1 i2 : Nat) : List Oper → Nat → St → (St → Prop) → Prop
  | [], _, s, K => K s
  | o :: os, i, s, K => if Nat.beq i i1 || Nat.beq i i2 then evalO2 P all i1 i2 os (i + 1) s K
    else guardA all s o fun gd g => opA P true gd g o s fun s' => evalO2 P all i1 i2 os (i + 1) s' K

theorem unrollO2 {P : Program} {all : List Oper} {i1 i2 : Nat} : ∀ {os : List Oper} {i0 : Nat} {s : St} {K : St → Prop}, evalO2 P all i1 i2 os i0 s K →
    (∀ i o, os[i]? = some o → i0 + i = i1 ∨ i0 + i = i2 → o.dst = none) →
    ∃ xs : Nat → AV, K (stAt s os xs os.length) ∧ ∀ i o, os[i]? = some o → i0 + i ≠ i1 → i0 + i ≠ i2 → Local P all o (stAt s os xs i) (xs i)
  | [], i0, s, K, h, _ => ⟨fun _ => .undef, h, by simp⟩
  | o :: os, i0, s, K, h, hd => by
    have key : ∀ x : AV, evalO2 P all i1 i2 os (i0 + 1) (s.put o.dst x) K → (i0 ≠ i1 → i0 ≠ i2 → Local P all o s x) →
        ∃ xs : Nat → AV, K (stAt s (o :: os) xs (o :: os).length) ∧ ∀ i o', (o :: os)[i]? = some o' → i0 + i ≠ i1 → i0 + i ≠ i2 → Local P all o' (stAt s (o :: os) xs i) (xs i) := by
      intro x h hl
      obtain ⟨xs, hK, hloc⟩ := unrollO2 h (fun i o' hi he => hd (i + 1) o' (by simpa using hi) (by omega))
      have hst : ∀ i, stAt s (o :: os) (fun | 0 => x | i + 1 => xs i) (i + 1) = stAt (s.put o.dst x) os xs i := by
        intro i
        induction i with
        | zero => rfl
        | succ i ih =>
          show (match (o :: os)[i + 1]? with | some o' => (stAt s (o :: os) (fun | 0 => x | i + 1 => xs i) (i + 1)).put o'.dst (xs i) | none => stAt s (o :: os) (fun | 0 => x | i + 1 => xs i) (i + 1)) = _
          rw [ih]
          simp only [List.getElem?_cons_succ]
          rfl
      refine ⟨fun | 0 => x | i + 1 => xs i, ?_, fun i o' hi h1 h2 => ?_⟩
      · rw [List.length_cons, hst]; exact hK
      · cases i with
        | zero => simp at hi; subst hi; exact hl (by simpa using h1) (by simpa using h2)
        | succ i => rw [hst]; exact hloc i o' (by simpa using hi) (by omega) (by omega)
    simp only [evalO2] at h
    by_cases h1 : i0 = i1 ∨ i0 = i2
    · rw [if_pos (by simpa using h1)] at h
      have hdn := hd 0 o (by simp) (by simpa using h1)
      exact key .undef (by rw [hdn]; exact h) (fun h2 h3 => absurd h1 (by omega))
    · rw [if_neg (by simpa using h1)] at h
      obtain ⟨x, hl, h⟩ := local_of h
      exact key x h (fun _ _ => hl)

theorem awp_late2 {P : Program} {Q : Exit → St → Prop} {N : Nat} {t : List (Nat × AV)} {σ : List Blk} {mv : List Nat} {id : Nat} {ops : List Oper} (m i1 i2 : Nat) (hm : P.follows .mixedOrders = true) (hok : (drawOk ops m && Nat.ble m ops.length && lateOk2 ops m i1 i2) = true) {t1 : List (Nat × AV)} {σ2 σ3 : List Blk}
    (h1 : ∀ K : St → Prop, (∀ σ' mv', K ⟨N, t1, σ', mv'⟩) → evalO2 P ops i1 i2 (ops.take m) 0 ⟨N, t, σ, mv⟩ K)
    (h2 : lateA P ops i1 ⟨N, t1, σ, mv⟩ fun σ' => σ' = σ2)
    (h3 : ∀ K : St → Prop, (∀ σ' mv', K ⟨N, t1, σ', mv'⟩) → evalO2 P ops i1 i2 (ops.take m) 0 ⟨N, t, σ2, mv⟩ K)
    (h4 : lateA P ops i2 ⟨N, t1, σ2, mv⟩ fun σ' => σ' = σ3)
    (h5 : ∀ K : St → Prop, (∀ σ' mv', K ⟨N, t1, σ', mv'⟩) → evalO2 P ops i1 i2 (ops.take m) 0 ⟨N, t, σ3, mv⟩ K)
    (h6 : evalOps P false ops (ops.drop m) ⟨N, t1, σ3, mv⟩ (Q .normal)) : AWP P (.region id ops.toArray true) Q ⟨N, t, σ, mv⟩ := by
  intro j0 j a w hr
  simp only [Bool.and_eq_true, Nat.ble_eq, lateOk2, Nat.blt_eq] at hok
  obtain ⟨⟨hok, hmn⟩, ⟨⟨hl1, hl2⟩, h12⟩, hdep⟩ := hok
  obtain ⟨hlt1, os1, _, _, _, g1, _, _, g4, _⟩ := lateOk_spec hl1
  obtain ⟨hlt2, os2, _, _, _, k1, _, _, k4, _⟩ := lateOk_spec hl2
  have hdep' : ∀ o, ops[i2]? = some o → depB o i1 = true := fun o ho => by rw [ho] at hdep; exact hdep
  have hlen : (ops.take m).length = m := by simp; omega
  have hone : ∀ σx, (∀ K : St → Prop, (∀ σ' mv', K ⟨N, t1, σ', mv'⟩) → evalO2 P ops i1 i2 (ops.take m) 0 ⟨N, t, σx, mv⟩ K) →
      ∃ xs : Nat → AV, (stAt ⟨N, t, σ, mv⟩ (ops.take m) xs m).t = t1 ∧ ∀ i o, i < m → ops[i]? = some o → i ≠ i1 → i ≠ i2 → Local P ops o ⟨N, (stAt ⟨N, t, σ, mv⟩ (ops.take m) xs i).t, σx, mv⟩ (xs i) := by
    intro σx hx
    have h := hx (fun s' => s'.t = t1) (fun _ _ => rfl)
    obtain ⟨xs, hK, hloc⟩ := unrollO2 h (fun i o hi he => by
      have him : i < m := by have := lt_of_getElem? hi; omega
      rw [take_get him] at hi
      rcases he with he | he
      · have he : i = i1 := by omega
        subst he
        rw [g1] at hi; cases hi; exact g4
      · have he : i = i2 := by omega
        subst he
        rw [k1] at hi; cases hi; exact k4)
    have hext := stAt_sto ⟨N, t, σ, mv⟩ σx (ops.take m) xs
    refine ⟨xs, ?_, fun i o him ho h4 h5 => ?_⟩
    · rw [hlen, hext] at hK; exact hK
    · have := hloc i o (by rw [take_get him]; exact ho) (by omega) (by omega)
      rw [hext] at this; exact this
  have hP : PureM P ⟨N, t, σ, mv⟩ ops m i1 i2 σ2 σ3 t1 := ⟨fun listed => by
    unfold cur2
    split
    · exact hone σ3 h5
    · split
      · exact hone σ2 h3
      · exact hone σ h1⟩
  have hr' : Rel j0 ⟨N, t, σ, mv⟩ j a w.drew := hr.after (ev_drew j w) hr.sto.drew (Nat.le_refl _) (.refl _ [])
  have hf : ∀ k b, k < ops.length → (Array.replicate ops.toArray.size false).getD k b = false := by
    intro k b hk; simp [hk]
  refine wpIn_region_any hm ?_
  refine phaseM hok hmn (lateS_of hl1 h2) (lateS_of hl2 h4) h12 hdep' hP h6 _ j a w.drew _ ?_ ⟨hr'.defers, hr'.rdok, hr'.size, ?_, hr'.len0, hr'.ag, by simp, fun k _ hk b => hf k b hk, fun q oq hq hqo hl => ?_, fun q oq k av hq hqo hd hl => ?_, fun k av _ hk => hr'.tmp k av hk⟩ (ev_drew j w)
  · unfold left
    have : (List.range ops.length).filter (fun k => !(Array.replicate ops.toArray.size false).getD k true) = List.range ops.length := by
      apply List.filter_eq_self.2
      intro k hk
      rw [hf k true (by simpa using hk)]; rfl
    rw [this]; simp
  · have : cur2 i1 i2 σ σ2 σ3 (Array.replicate ops.toArray.size false) = σ := by simp only [cur2, hf i1 false (by omega), hf i2 false (by omega)]; rfl
    rw [this]; exact hr'.sto
  · rw [hf q true (by omega)] at hl; cases hl
  · rw [hf q true (by omega)] at hl; cases hl

theorem awp_late2_seq {P : Program} {Q : Exit → St → Prop} {N : Nat} {t : List (Nat × AV)} {σ : List Blk} {mv : List Nat} {id : Nat} {ops : List Oper} {y : Code} (m i1 i2 : Nat) (hm : P.follows .mixedOrders = true) (hok : (drawOk ops m && Nat.ble m ops.length && lateOk2 ops m i1 i2) = true) {t1 : List (Nat × AV)} {σ2 σ3 : List Blk}
    (h1 : ∀ K : St → Prop, (∀ σ' mv', K ⟨N, t1, σ', mv'⟩) → evalO2 P ops i1 i2 (ops.take m) 0 ⟨N, t, σ, mv⟩ K)
    (h2 : lateA P ops i1 ⟨N, t1, σ, mv⟩ fun σ' => σ' = σ2)
    (h3 : ∀ K : St → Prop, (∀ σ' mv', K ⟨N, t1, σ', mv'⟩) → evalO2 P ops i1 i2 (ops.take m) 0 ⟨N, t, σ2, mv⟩ K)
    (h4 : lateA P ops i2 ⟨N, t1, σ2, mv⟩ fun σ' => σ' = σ3)
    (h5 : ∀ K : St → Prop, (∀ σ' mv', K ⟨N, t1, σ', mv'⟩) → evalO2 P ops i1 i2 (ops.take m) 0 ⟨N, t, σ3, mv⟩ K)
    (h6 : ∀ K : St → Prop, (∀ s', AWP P y Q s' → K s') → evalOps P false ops (ops.drop m) ⟨N, t1, σ3, mv⟩ K) : AWP P (.seq (.region id ops.toArray true) y) Q ⟨N, t, σ, mv⟩ :=
  awp_seq (awp_late2 m i1 i2 hm hok h1 h2 h3 h4 h5 (h6 _ fun s' h => h))

def RestO2 (P : Program) (all : List Oper) (i1 i2 : Nat) (os : List Oper) (i : Nat) (K : St → Prop) (s : St) : Prop := evalO2 P all i1 i2 os i s K
theorem evalO2_nil (P : Program) (all : List Oper) (i1 i2 i : Nat) (s : St) (K : St → Prop) : evalO2 P all i1 i2 [] i s K = K s := rfl
theorem evalO2_cons (P : Program) (all os : List Oper) (i1 i2 i : Nat) (o : Oper) (s : St) (K : St → Prop) : evalO2 P all i1 i2 (o :: os) i s K = if Nat.beq i i1 || Nat.beq i i2 then evalO2 P all i1 i2 os (i + 1) s K
    else guardA all s o fun gd g => opA P true gd g o s (RestO2 P all i1 i2 os (i + 1) K) := rfl
theorem RestO2_mk (P : Program) (all os : List Oper) (i1 i2 i : Nat) (K : St → Prop) (N : Nat) (t : List (Nat × AV)) (σ : List Blk) (mv : List Nat) : RestO2 P all i1 i2 os i K ⟨N, t, σ, mv⟩ = evalO2 P all i1 i2 os i ⟨N, t, σ, mv⟩ K := rfl
attribute [go_sem ↓] evalO2_nil evalO2_cons RestO2_mk
attribute [go_sem] RestO2_mk
end Go.Abs

/-! Dp -/
namespace Go.Proofs.YtkochmppmpmddaaGreat
open Go.Abs Go.Arch
set_option linter.unusedVariables false
set_option linter.unusedSimpArgs false
set_option maxRecDepth 100000
set_option maxHeartbeats 1000000

theorem eqL_symm {α : Type} (l m : List α) : eqL l m = eqL m l := by
  rw [Bool.eq_iff_iff, eqL_iff, eqL_iff]; exact ⟨Eq.symm, Eq.symm⟩
theorem decide_err {n : Nat} {g : Nat → Row} {p : Pol} {r u d : Int} (h : (decideR n g p r u d).2 ≠ 0) : decideR n g p r u d = (Acc.zero, askR n g p r u d) := by
  unfold decideR at h ⊢
  split
  · rfl
  · rename_i hn; rw [if_neg hn] at h; exact absurd rfl h
theorem decide_ok {n : Nat} {g : Nat → Row} {p : Pol} {r u d : Int} (h : (decideR n g p r u d).2 = 0) : askR n g p r u d = 0 ∧ decideR n g p r u d = (decW n g p r u d, 0) := by
  unfold decideR at h ⊢
  split
  · rename_i hn; rw [if_pos hn] at h; exact absurd h hn
  · rename_i hn; exact ⟨Decidable.not_not.1 hn, rfl⟩
theorem ver_same {n : Nat} {g : Nat → Row} {p : Pol} {r u d : Int} (h : askR n g p r u d = 0) (b : Bool) (k : Nat) (f : Nat → Reason) : (verR n g p ⟨r, u, d, b, k, f⟩ == 0) = sameB (decW n g p r u d) ⟨r, u, d, b, k, f⟩ := by
  have e1 : (decW n g p r u d).Reader = r := rfl
  have e2 : (decW n g p r u d).Unit = u := rfl
  have e3 : (decW n g p r u d).Day = d := rfl
  unfold verR sameB
  simp only [e1, e2, e3, decide_true, Bool.true_and]
  rw [if_neg (by simp [h]), eqL_symm (lst k f)]
  by_cases hb : (decW n g p r u d).Granted = b
  · cases he : eqL (lst (decW n g p r u d).nr (decW n g p r u d).rs) (lst k f) with
    | true => rw [if_neg (by simp [hb])]; simp [hb]
    | false => rw [if_pos (by simp)]; simp
  · rw [if_pos (.inl (fun h => hb h.symm))]; simp [hb]
theorem gather_shift {β : Type} (f : Nat → List β) : ∀ k, gather f (k + 1) = f 0 ++ gather (fun i => f (i + 1)) k
  | 0 => by simp [gather]
  | k + 1 => by rw [gather, gather_shift f k, gather]; simp
theorem way_below {n : Nat} {g : Nat → Row} (h : rowsChk n g = 0) {i : Nat} (hi : i < n) (hf : 0 ≤ findR n g (g i).Parent) : wayK n g (g i).Unit = wayK n g (g i).Parent + 1 ∧ wayX n g (g i).Unit 0 = i ∧ ∀ k, wayX n g (g i).Unit (k + 1) = wayX n g (g i).Parent k := by
  have hg := (rows_good h).1
  have hfi := hg.find hi
  have hx : ∀ k, wayX n g (g i).Unit (k + 1) = wayX n g (g i).Parent k := fun k => by
    unfold wayX
    rw [hfi, Int.toNat_natCast, Nat.add_comm, chain_add]
    rfl
  have hx0 : wayX n g (g i).Unit 0 = i := by unfold wayX; rw [hfi]; rfl
  refine ⟨?_, hx0, hx⟩
  obtain ⟨u0, u1, u2⟩ := way_units h (g i).Unit
  obtain ⟨p0, p1, p2⟩ := way_units h (g i).Parent
  have hp1 := unit_pos h hf
  have hKu : wayK n g (g i).Unit ≠ 0 := fun he => by have := (way_zero h _).1 he; omega
  have hKp : wayK n g (g i).Parent ≠ 0 := fun he => by have := (way_zero h _).1 he; omega
  have hK1 : wayK n g (g i).Unit ≠ 1 := fun he => by have := u2 0 he.symm; rw [hx0] at this; omega
  rcases Nat.lt_trichotomy (wayK n g (g i).Unit) (wayK n g (g i).Parent + 1) with hlt | heq | hgt
  · have h1 := u2 (wayK n g (g i).Unit - 1) (by omega)
    have h2 := (p1 (wayK n g (g i).Unit - 2) (by omega)).2
    rw [← hx, show wayK n g (g i).Unit - 2 + 1 = wayK n g (g i).Unit - 1 by omega] at h2
    exact absurd h1 h2
  · exact heq
  · have h1 := p2 (wayK n g (g i).Parent - 1) (by omega)
    have h2 := (u1 (wayK n g (g i).Parent) (by omega)).2
    rw [← hx, show wayK n g (g i).Parent - 1 + 1 = wayK n g (g i).Parent by omega] at h1
    exact absurd h1 h2
theorem wayG_below {n : Nat} {g : Nat → Row} {p : Pol} {d : Int} (h : rowsChk n g = 0) {i : Nat} (hi : i < n) (hf : 0 ≤ findR n g (g i).Parent) : wayG n g p (g i).Unit d = rowG p d (g i) ++ wayG n g p (g i).Parent d := by
  obtain ⟨h1, h2, h3⟩ := way_below h hi hf
  unfold wayG
  rw [h1, gather_shift, h2]
  simp only [h3]
theorem grd_ok {n : Nat} {g : Nat → Row} {p : Pol} {u d : Int} (h : (grdR n g p u d).2 = 0) : askR n g p 1 u d = 0 ∧ grdR n g p u d = (wayG n g p u d, 0) := by
  unfold grdR at h ⊢
  split
  · rename_i hn; rw [if_pos hn] at h; exact absurd h hn
  · rename_i hn; exact ⟨Decidable.not_not.1 hn, rfl⟩
theorem suffix_eq (A B : List Ground) : eqL (lst B.length fun q => nth (A ++ B) (A.length + q)) (lst B.length (nth B)) = true := eqL_yes rfl fun q hq => by
  simp [nth, List.getElem?_append_right (Nat.le_add_right _ _)]
theorem open_cases (gr : Int → List Ground) (d : Int) : (∃ e, openD gr d = (e, 0) ∧ d ≤ e ∧ e ≤ 1048575 ∧ gr e = [] ∧ ∀ d', d ≤ d' → d' < e → gr d' ≠ []) ∨ (openD gr d = (0, 23) ∧ ∀ e, d ≤ e → e ≤ 1048575 → gr e ≠ []) := by
  by_cases h : ∃ e, d ≤ e ∧ e ≤ 1048575 ∧ gr e = [] ∧ ∀ d', d ≤ d' → d' < e → gr d' ≠ []
  · obtain ⟨e, h1, h2, h3, h4⟩ := h
    exact .inl ⟨e, open_at h1 h2 h3 h4, h1, h2, h3, h4⟩
  · right
    have key : ∀ (m : Nat) (e : Int), d ≤ e → e ≤ 1048575 → (e - d).toNat = m → gr e ≠ [] := by
      intro m
      induction m using Nat.strongRecOn with
      | _ m ih =>
        intro e h1 h2 hm hn
        exact h ⟨e, h1, h2, hn, fun d' h3 h4 => ih (d' - d).toNat (by omega) d' h3 (by omega) rfl⟩
    have hno : ∀ e, d ≤ e → e ≤ 1048575 → gr e ≠ [] := fun e h1 h2 => key _ e h1 h2 rfl
    exact ⟨open_no hno, hno⟩


theorem law35_PolicyProves_cs (σ : List Blk) (n : Nat) (g : Nat → Row) (p : Pol) (x0 x1 x2 : Int) (y : Acc) (hs : p.ns ≤ 9223372036854775807) (hq : p.np ≤ 9223372036854775807) (hσ : σ[0]? = some (.loc 0)) : CSF Tryz.prog 4 [.agg (.d (SL none 3 Row.enc n g) :: p.enc.map .d), .agg [.d (I x0), .d (I x1), .d (I x2)], .agg (y.enc.map .d)] σ (.d (B true)) := by
  refine CSF.of_body T.en4 Tryz.func4 rfl (by simp [Tryz.ntmps4]) (by simp [go_sem]) fun hwf => ?_
  refine awp_reg_seq fun K hK => ?_
  simp [go_sem, Tryz.ntmps4]
  repeat refine ⟨by omega, ?_⟩
  refine hK _ ?_; clear hK K
  refine awp_seq ?_
  refine awp_reg_seq fun K hK => ?_
  simp [go_sem]
  repeat refine ⟨by omega, ?_⟩
  refine CSk.mk (law35_awake_cs _ (loc_app hσ)) ?_
  simp [go_sem]
  repeat refine ⟨by omega, ?_⟩
  refine hK _ ?_; clear hK K
  refine awp_forget [3, 4, 5, 12] (by simp only [restr, List.contains_cons, List.contains_nil, Nat.reduceBEq, Bool.or_false, Bool.or_true, Bool.true_or, Bool.false_or, if_true, if_false, Bool.false_eq_true]; rfl) ?_
  refine awp_cond rfl (fun c0 => ?_) (fun c0 => ?_)
  · have d0 := c0; try simp at d0
  · have d0 := c0; try simp at d0
    refine awp_skip ?_
    apply awp_own_seq 6 4 7 T.mixed (by kernel_rfl)
    · intro τ K hK
      simp [go_sem, c0, d0]
      repeat refine ⟨by omega, ?_⟩
      exact hK _ _
    intro K hK
    simp [go_sem, c0, d0]
    repeat refine ⟨by omega, ?_⟩
    refine hK _ ?_; clear hK K
    refine awp_seq ?_
    refine awp_reg_seq fun K hK => ?_
    simp [go_sem, c0, d0]
    repeat refine ⟨by omega, ?_⟩
    refine CSk.mk (ref35_Few_cs _ none n g p hs hq) ?_
    simp [go_sem, c0, d0]
    repeat refine ⟨by omega, ?_⟩
    refine hK _ ?_; clear hK K
    refine awp_forget [4, 5, 7, 8, 26] (by simp only [restr, List.contains_cons, List.contains_nil, Nat.reduceBEq, Bool.or_false, Bool.or_true, Bool.true_or, Bool.false_or, if_true, if_false, Bool.false_eq_true]; rfl) ?_
    refine awp_cond rfl (fun c1 => ?_) (fun c1 => ?_)
    · have d1 := c1; try simp at d1
      refine awp_reg_seq fun K hK => ?_
      simp [go_sem, c0, d0, c1, d1]
      repeat refine ⟨by omega, ?_⟩
      refine hK _ ?_; clear hK K
      refine awp_ret ?_
      simp [go_sem, Tryz.results4, c0, d0, c1, d1] <;> omega
    · have d1 := c1; try simp at d1
      obtain ⟨hp, hn⟩ := few_ok d1.1
      have hyn : y.nr ≤ 40 := by omega
      refine awp_skip ?_
      apply awp_own_seq 16 14 15 T.mixed (by kernel_rfl)
      · intro τ K hK
        simp [go_sem, c0, d0, c1, d1]
        repeat refine ⟨by omega, ?_⟩
        refine CSg.mk (cloneRow_cs _ none n g (by omega)) ?_
        simp [go_sem, c0, d0, c1, d1]
        repeat refine ⟨by omega, ?_⟩
        refine CSg.mk (law35_cp_cs _ p hp) ?_
        simp [go_sem, c0, d0, c1, d1]
        repeat refine ⟨by omega, ?_⟩
        refine CSg.mk (policy_Decide_cs _ none n g p x0 x1 x2 (by omega) hp (loc_app hσ)) ?_
        simp [go_sem, c0, d0, c1, d1]
        repeat refine ⟨by omega, ?_⟩
        exact hK _ _
      intro K hK
      simp [go_sem, c0, d0, c1, d1]
      repeat refine ⟨by omega, ?_⟩
      refine hK _ ?_; clear hK K
      refine awp_seq ?_
      refine awp_reg_seq fun K hK => ?_
      simp [go_sem, c0, d0, c1, d1]
      repeat refine ⟨by omega, ?_⟩
      refine hK _ ?_; clear hK K
      refine awp_forget [4, 5, 7, 8, 9, 42] (by simp only [restr, List.contains_cons, List.contains_nil, Nat.reduceBEq, Bool.or_false, Bool.or_true, Bool.true_or, Bool.false_or, if_true, if_false, Bool.false_eq_true]; rfl) ?_
      refine awp_cond rfl (fun c2 => ?_) (fun c2 => ?_)
      · have d2 := c2; try simp at d2
        have hz := decide_err d2
        refine awp_reg_seq fun K hK => ?_
        simp [go_sem, c0, d0, c1, d1, c2, d2]
        repeat refine ⟨by omega, ?_⟩
        refine hK _ ?_; clear hK K
        refine awp_ret ?_
        simp [go_sem, Tryz.results4, hz, Acc.zero]
      · have d2 := c2; try simp at d2
        obtain ⟨hak, hz⟩ := decide_ok d2
        have hver := ver_own hak
        have hdn := decW_nr hp (ask_zero hak).1 x0 x1 x2
        have hvs := ver_same hak y.Granted y.nr y.rs
        refine awp_skip ?_
        refine awp_seq ?_
        refine awp_draw_seq 7 T.mixed (by kernel_rfl) fun K hK => ?_
        simp [go_sem, c0, d0, c1, d1, c2, d2, hz, hver]
        repeat refine ⟨by omega, ?_⟩
        refine CSg.mk (cloneRow_cs _ none n g (by omega)) ?_
        simp [go_sem, c0, d0, c1, d1, c2, d2, hz, hver]
        repeat refine ⟨by omega, ?_⟩
        refine CSg.mk (law35_cp_cs _ p hp) ?_
        simp [go_sem, c0, d0, c1, d1, c2, d2, hz, hver]
        repeat refine ⟨by omega, ?_⟩
        refine CSg.mk (policy_Verify_cs _ none n g p (decW n g p x0 x1 x2) (by omega) hp (by omega) (loc_app hσ)) ?_
        simp [go_sem, c0, d0, c1, d1, c2, d2, hz, hver]
        repeat refine ⟨by omega, ?_⟩
        refine hK _ ?_; clear hK K
        refine awp_forget [4, 5, 7, 8, 9, 58] (by simp only [restr, List.contains_cons, List.contains_nil, Nat.reduceBEq, Bool.or_false, Bool.or_true, Bool.true_or, Bool.false_or, if_true, if_false, Bool.false_eq_true]; rfl) ?_
        refine awp_cond rfl (fun c3 => ?_) (fun c3 => ?_)
        · have d3 := c3; try simp at d3
        · have d3 := c3; try simp at d3
          refine awp_skip ?_
          apply awp_late2_seq 10 7 9 T.mixed (by kernel_rfl)
          · intro K hK
            simp [go_sem, c0, d0, c1, d1, c2, d2, hz, hver, c3, d3]
            repeat refine ⟨by omega, ?_⟩
            exact hK _ _
          · simp [go_sem, c0, d0, c1, d1, c2, d2, hz, hver, c3, d3]; rfl
          · intro K hK
            simp [go_sem, c0, d0, c1, d1, c2, d2, hz, hver, c3, d3]
            repeat refine ⟨by omega, ?_⟩
            exact hK _ _
          · simp [go_sem, c0, d0, c1, d1, c2, d2, hz, hver, c3, d3]; rfl
          · intro K hK
            simp [go_sem, c0, d0, c1, d1, c2, d2, hz, hver, c3, d3]
            repeat refine ⟨by omega, ?_⟩
            exact hK _ _
          intro K hK
          simp [go_sem, c0, d0, c1, d1, c2, d2, hz, hver, c3, d3]
          repeat refine ⟨by omega, ?_⟩
          refine hK _ ?_; clear hK K
          refine awp_draw_seq 11 T.mixed (by kernel_rfl) fun K hK => ?_
          simp [go_sem, c0, d0, c1, d1, c2, d2, hz, hver, c3, d3]
          repeat refine ⟨by omega, ?_⟩
          refine CSg.mk (cloneRow_cs _ none n g (by omega)) ?_
          simp [go_sem, c0, d0, c1, d1, c2, d2, hz, hver, c3, d3]
          repeat refine ⟨by omega, ?_⟩
          refine CSg.mk (law35_cp_cs _ p hp) ?_
          simp [go_sem, c0, d0, c1, d1, c2, d2, hz, hver, c3, d3]
          repeat refine ⟨by omega, ?_⟩
          refine CSg.mk (policy_Verify_cs _ none n g p ⟨x0, x1, x2, y.Granted, y.nr, y.rs⟩ (by omega) hp (by dsimp only; omega) (loc_app hσ)) ?_
          simp [go_sem, c0, d0, c1, d1, c2, d2, hz, hver, c3, d3]
          repeat refine ⟨by omega, ?_⟩
          refine CSg.mk (ref35_Same_cs _ (decW n g p x0 x1 x2) ⟨x0, x1, x2, y.Granted, y.nr, y.rs⟩ (by omega) (by dsimp only; omega)) ?_
          simp [go_sem, c0, d0, c1, d1, c2, d2, hz, hver, c3, d3]
          repeat refine ⟨by omega, ?_⟩
          refine hK _ ?_; clear hK K
          refine awp_ret ?_
          simp [go_sem, Tryz.results4, hvs]

theorem law35_PolicyBelow_cs (σ : List Blk) (c : Option Nat) (n : Nat) (g : Nat → Row) (p : Pol) (d : Int) (hs : p.ns ≤ 9223372036854775807) (hq : p.np ≤ 9223372036854775807) (hσ : σ[0]? = some (.loc 0)) : CSF Tryz.prog 6 [.d (SL c 3 Row.enc n g), .agg (p.enc.map .d), .d (I d)] σ (.d (B true)) := by
  refine CSF.of_body T.en6 Tryz.func6 rfl (by simp [Tryz.ntmps6]) (by simp [go_sem]) fun hwf => ?_
  refine awp_reg_seq fun K hK => ?_
  simp [go_sem, Tryz.ntmps6]
  repeat refine ⟨by omega, ?_⟩
  refine hK _ ?_; clear hK K
  refine awp_seq ?_
  refine awp_reg_seq fun K hK => ?_
  simp [go_sem]
  repeat refine ⟨by omega, ?_⟩
  refine CSk.mk (law35_awake_cs _ (loc_app hσ)) ?_
  simp [go_sem]
  repeat refine ⟨by omega, ?_⟩
  refine hK _ ?_; clear hK K
  refine awp_forget [0, 2, 4, 14] (by simp only [restr, List.contains_cons, List.contains_nil, Nat.reduceBEq, Bool.or_false, Bool.or_true, Bool.true_or, Bool.false_or, if_true, if_false, Bool.false_eq_true]; rfl) ?_
  refine awp_cond rfl (fun c0 => ?_) (fun c0 => ?_)
  · have d0 := c0; try simp at d0
  · have d0 := c0; try simp at d0
    refine awp_skip ?_
    refine awp_seq ?_
    refine awp_reg_seq fun K hK => ?_
    simp [go_sem, c0, d0]
    repeat refine ⟨by omega, ?_⟩
    refine CSk.mk (ref35_Few_cs _ c n g p hs hq) ?_
    simp [go_sem, c0, d0]
    repeat refine ⟨by omega, ?_⟩
    refine hK _ ?_; clear hK K
    refine awp_forget [0, 2, 4, 18] (by simp only [restr, List.contains_cons, List.contains_nil, Nat.reduceBEq, Bool.or_false, Bool.or_true, Bool.true_or, Bool.false_or, if_true, if_false, Bool.false_eq_true]; rfl) ?_
    refine awp_cond rfl (fun c1 => ?_) (fun c1 => ?_)
    · have d1 := c1; try simp at d1
      refine awp_reg_seq fun K hK => ?_
      simp [go_sem, c0, d0, c1, d1]
      repeat refine ⟨by omega, ?_⟩
      refine hK _ ?_; clear hK K
      refine awp_ret ?_
      simp [go_sem, Tryz.results6, c0, d0, c1, d1] <;> omega
    · have d1 := c1; try simp at d1
      obtain ⟨hp, hn⟩ := few_ok d1
      refine awp_skip ?_
      refine awp_seq ?_
      refine awp_reg_seq fun K hK => ?_
      simp [go_sem, c0, d0, c1, d1]
      repeat refine ⟨by omega, ?_⟩
      refine hK _ ?_; clear hK K
      refine awp_block ?_
      refine awp_forget [0, 2, 4, 19, 20, 21] (by simp [go_sem, restr]; rfl) ?_
      refine awp_loopU (α := Nat) (fun i => [(21, .d (I i))]) (fun i => σ ++ [.var (p.enc.map .d)]) (fun i => i ≤ n) (fun i => n - i) 0 (by simp [go_sem]) (rfl) (by simp) ?_
      rintro i hi
      refine awp_reg_seq fun K hK => ?_
      simp [go_sem, c0, d0, c1, d1]
      repeat refine ⟨by omega, ?_⟩
      refine hK _ ?_; clear hK K
      refine awp_seq ?_
      refine awp_forget [0, 2, 4, 19, 20, 21, 22] (by simp only [restr, List.contains_cons, List.contains_nil, Nat.reduceBEq, Bool.or_false, Bool.or_true, Bool.true_or, Bool.false_or, if_true, if_false, Bool.false_eq_true]; rfl) ?_
      refine awp_cond rfl (fun c2 => ?_) (fun c2 => ?_)
      · have d2 := c2; try simp at d2
        refine awp_skip ?_
        refine awp_seq ?_
        refine awp_block ?_
        refine awp_reg_seq fun K hK => ?_
        simp [go_sem, c0, d0, c1, d1, c2, d2]
        repeat refine ⟨by omega, ?_⟩
        refine hK _ ?_; clear hK K
        refine awp_draw_seq 12 T.mixed (by kernel_rfl) fun K hK => ?_
        simp [go_sem, c0, d0, c1, d1, c2, d2]
        repeat refine ⟨by omega, ?_⟩
        refine CSg.mk (cloneRow_cs _ c n g (by omega)) ?_
        simp [go_sem, c0, d0, c1, d1, c2, d2]
        repeat refine ⟨by omega, ?_⟩
        refine CSg.mk (law35_cp_cs _ p hp) ?_
        simp [go_sem, c0, d0, c1, d1, c2, d2]
        repeat refine ⟨by omega, ?_⟩
        refine CSg.mk (policy_Grounds_cs _ none n g p (g i).Unit d (by omega) hp (loc_app hσ)) ?_
        simp [go_sem, c0, d0, c1, d1, c2, d2]
        repeat refine ⟨by omega, ?_⟩
        refine hK _ ?_; clear hK K
        refine awp_draw_seq 12 T.mixed (by kernel_rfl) fun K hK => ?_
        simp [go_sem, c0, d0, c1, d1, c2, d2]
        repeat refine ⟨by omega, ?_⟩
        refine CSg.mk (cloneRow_cs _ c n g (by omega)) ?_
        simp [go_sem, c0, d0, c1, d1, c2, d2]
        repeat refine ⟨by omega, ?_⟩
        refine CSg.mk (law35_cp_cs _ p hp) ?_
        simp [go_sem, c0, d0, c1, d1, c2, d2]
        repeat refine ⟨by omega, ?_⟩
        refine CSg.mk (policy_Grounds_cs _ none n g p (g i).Parent d (by omega) hp (loc_app hσ)) ?_
        simp [go_sem, c0, d0, c1, d1, c2, d2]
        repeat refine ⟨by omega, ?_⟩
        refine hK _ ?_; clear hK K
        refine awp_seq ?_
        refine awp_reg_seq fun K hK => ?_
        simp [go_sem, c0, d0, c1, d1, c2, d2]
        repeat refine ⟨by omega, ?_⟩
        refine hK _ ?_; clear hK K
        refine awp_forget [0, 2, 4, 9, 11, 19, 20, 21, 52] (by simp only [restr, List.contains_cons, List.contains_nil, Nat.reduceBEq, Bool.or_false, Bool.or_true, Bool.true_or, Bool.false_or, if_true, if_false, Bool.false_eq_true]; rfl) ?_
        refine awp_cond rfl (fun c3 => ?_) (fun c3 => ?_)
        · have d3 := c3; try simp at d3
          refine awp_exit ?_
          refine awp_reg_end fun K hK => ?_
          simp [go_sem, c0, d0, c1, d1, c2, d2, c3, d3]
          try simp (disch := omega) only [wrapI]
          repeat refine ⟨by omega, ?_⟩
          refine hK _ ?_; clear hK K
          refine ⟨i + 1, back_of' (by simp [go_sem, wrap_succ (i := i) (by omega), c0, d0, c1, d1, c2, d2, c3, d3]) (.refl _) (by (simp [go_sem, wrap_succ (i := i) (by omega), c0, d0, c1, d1, c2, d2, c3, d3] <;> omega)), by omega, by first | omega | (dsimp only; omega)⟩
        · have d3 := c3; try simp at d3
          obtain ⟨ha1, hg1⟩ := grd_ok d3.1
          obtain ⟨ha2, hg2⟩ := grd_ok d3.2
          have hbl := wayG_below (p := p) (d := d) (ask_zero ha1).1 (i := i) (by omega) (ask_zero ha2).2.2.2.2.2
          have hl1 := wayG_len hp (by omega) (ask_zero ha1).1 (g i).Unit d
          have hll := congrArg List.length hbl
          rw [List.length_append] at hll
          have hnl : ¬ (wayG n g p (g i).Unit d).length < (wayG n g p (g i).Parent d).length := by omega
          refine awp_skip ?_
          refine awp_reg_seq fun K hK => ?_
          simp [go_sem, c0, d0, c1, d1, c2, d2, c3, d3, hg1, hg2, hnl, suffix_eq]
          try simp (disch := omega) only [wrapI]
          repeat refine ⟨by omega, ?_⟩
          refine CSm.mk ((equalGround_cs _ none none (wayG n g p (g i).Parent d).length (wayG n g p (g i).Parent d).length (fun q => nth (rowG p d (g i) ++ wayG n g p (g i).Parent d) ((rowG p d (g i)).length + q)) (nth (wayG n g p (g i).Parent d)) (by omega) (by omega)).sub (by have e1 : (((wayG n g p (g i).Unit d).length : Int) - ((wayG n g p (g i).Parent d).length : Int)).toNat = (rowG p d (g i)).length := (by omega); have e2 : (((wayG n g p (g i).Unit d).length : Int) - (((wayG n g p (g i).Unit d).length : Int) - ((wayG n g p (g i).Parent d).length : Int))).toNat = (wayG n g p (g i).Parent d).length := (by omega); simp only [go_sem, sameL, sameE, sameA]; simp only [e1, e2, hbl]; simp; omega)) ?_
          simp [go_sem, c0, d0, c1, d1, c2, d2, c3, d3, hg1, hg2, hnl, suffix_eq]
          try simp (disch := omega) only [wrapI]
          repeat refine ⟨by omega, ?_⟩
          refine hK _ ?_; clear hK K
          refine awp_forget [0, 2, 4, 19, 20, 21, 69] (by simp only [restr, List.contains_cons, List.contains_nil, Nat.reduceBEq, Bool.or_false, Bool.or_true, Bool.true_or, Bool.false_or, if_true, if_false, Bool.false_eq_true]; rfl) ?_
          refine awp_cond rfl (fun c4 => ?_) (fun c4 => ?_)
          · have d4 := c4; try simp at d4
          · have d4 := c4; try simp at d4
            refine awp_skip ?_
            refine awp_reg_end fun K hK => ?_
            simp [go_sem, c0, d0, c1, d1, c2, d2, c3, d3, hg1, hg2, hnl, suffix_eq, c4, d4]
            try simp (disch := omega) only [wrapI]
            repeat refine ⟨by omega, ?_⟩
            refine hK _ ?_; clear hK K
            refine ⟨i + 1, back_of' (by simp [go_sem, wrap_succ (i := i) (by omega), c0, d0, c1, d1, c2, d2, c3, d3, hg1, hg2, hnl, suffix_eq, c4, d4]) (.refl _) (by (simp [go_sem, wrap_succ (i := i) (by omega), c0, d0, c1, d1, c2, d2, c3, d3, hg1, hg2, hnl, suffix_eq, c4, d4] <;> omega)), by omega, by first | omega | (dsimp only; omega)⟩
      · have d2 := c2; try simp at d2
        refine awp_exit ?_
        refine awp_reg_seq fun K hK => ?_
        simp [go_sem, c0, d0, c1, d1, c2, d2]
        repeat refine ⟨by omega, ?_⟩
        refine hK _ ?_; clear hK K
        refine awp_ret ?_
        simp [go_sem, Tryz.results6, c0, d0, c1, d1, c2, d2] <;> omega

end Go.Proofs.YtkochmppmpmddaaGreat
