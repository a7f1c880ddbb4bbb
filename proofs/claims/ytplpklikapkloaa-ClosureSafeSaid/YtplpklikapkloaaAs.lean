/- Abstract values: the rule for a region that draws its order, whole. -/
import Derived.Test.YtplpklikapkloaaAr
namespace Go.Abs
set_option linter.unusedVariables false
set_option linter.unusedSimpArgs false

def depB (o : Oper) (p : Nat) : Bool := o.after.toList.any fun e => Nat.beq e.on p && Region.binds .any e

def dstIs (o : Oper) (k : Nat) : Bool := match o.dst with
  | some d => Nat.beq d k
  | none => false

theorem dstIs_iff {o : Oper} {k : Nat} : dstIs o k = true ↔ o.dst = some k := by
  unfold dstIs
  split
  · rename_i d hd; rw [hd]
    constructor
    · intro h; rw [Nat.eq_of_beq_eq_true h]
    · intro h; cases h; simp
  · rename_i hd; rw [hd]; simp

def okA (all : List Oper) (m i : Nat) (o : Oper) : Bool :=
  (looks all o).all (fun k => (List.range all.length).all fun p => match all[p]? with
    | some op => !dstIs op k || (if Nat.blt p i then depB o p else if Nat.beq p i then true else depB op i)
    | none => true) &&
  (List.range m).all (fun p => Nat.beq p i || (match all[p]?, o.dst with
    | some op, some d => !dstIs op d
    | _, _ => true))

def drawOk (all : List Oper) (m : Nat) : Bool :=
  (List.range all.length).all fun i => match all[i]? with
    | some o => (o.after.toList.all fun e => !Region.binds .any e || Nat.blt e.on i) && (if Nat.blt i m then okA all m i o else (List.range i).all (depB o))
    | none => true

theorem depB_spec {o : Oper} {p : Nat} (h : depB o p = true) : ∃ e ∈ o.after, e.on = p ∧ Region.binds .any e = true := by
  simp only [depB, List.any_eq_true, Bool.and_eq_true] at h
  obtain ⟨e, h1, h2, h3⟩ := h
  exact ⟨e, by simpa using h1, Nat.eq_of_beq_eq_true h2, h3⟩

theorem lt_of_getElem? {α : Type} {l : List α} {i : Nat} {x : α} (h : l[i]? = some x) : i < l.length := (List.getElem?_eq_some_iff.1 h).1

section
variable {P : Program} {ops : List Oper} {m : Nat}

theorem drawOk_spec (h : drawOk ops m = true) {i : Nat} {o : Oper} (hi : ops[i]? = some o) : (∀ e ∈ o.after, Region.binds .any e = true → e.on < i) ∧ (i < m → okA ops m i o = true) ∧ (m ≤ i → ∀ p, p < i → depB o p = true) := by
  simp only [drawOk, List.all_eq_true, List.mem_range] at h
  have := h i (lt_of_getElem? hi)
  simp only [hi, Bool.and_eq_true, List.all_eq_true] at this
  obtain ⟨h1, h2⟩ := this
  refine ⟨fun e he hb => ?_, fun hm => ?_, fun hm p hp => ?_⟩
  · have := h1 e (by simpa using he)
    simp only [hb, Bool.not_true, Bool.false_or] at this
    simpa using this
  · rw [if_pos (by simpa using hm)] at h2; exact h2
  · rw [if_neg (by simpa using hm)] at h2
    simp only [List.all_eq_true, List.mem_range] at h2
    exact h2 p hp

theorem phaseB (hok : drawOk ops m = true) {Q : Exit → St → Prop} {j0 : J0} {j1 : Js} {w1 : World} : ∀ (d p : Nat) (s : St) (j : Js) (a : Act) (w : World) (listed : Array Bool), ops.length - p = d → m ≤ p → p ≤ ops.length → listed.size = ops.length →
    (∀ k, k < ops.length → ∀ b, listed.getD k b = decide (k < p)) → Rel j0 s j a w → Ev j1 w1 j w → evalOps P false ops (ops.drop p) s (Q .normal) → wpAnyIn (FW j0.rd) 0 P .any ops.toArray (APost j0 j1 w1 Q) d listed a w := by
  intro d
  induction d with
  | zero =>
    intro p s j a w listed hd hm hp hs hL hr he h
    have hpe : p = ops.length := by omega
    subst hpe
    refine ⟨?_, ⟨s, j, hr, he, by simpa [evalOps] using h⟩⟩
    rw [List.eq_nil_iff_forall_not_mem]
    intro i hi
    rw [mem_ready] at hi
    obtain ⟨h0, o, ho, _⟩ := hi
    have hlt : i < ops.length := lt_of_getElem? (by simpa using ho)
    rw [hL i hlt] at h0
    simp [hlt] at h0
  | succ d ih =>
    intro p s j a w listed hd hm hp hs hL hr he h
    have hpl : p < ops.length := by omega
    have hop : ops[p]? = some ops[p] := by simp [hpl]
    have hdrop : ops.drop p = ops[p] :: ops.drop (p + 1) := List.drop_eq_getElem_cons hpl
    rw [hdrop] at h
    have hsp := drawOk_spec hok hop
    have hready : p ∈ Region.ready .any ops.toArray listed := by
      rw [mem_ready]
      refine ⟨by rw [hL p hpl]; simp, ops[p], by simp [hpl], fun e he hb => ?_⟩
      have := hsp.1 e he hb
      rw [hL e.on (by omega)]; simpa using this
    refine ⟨fun h0 => by rw [h0] at hready; simp at hready, fun i hi => ?_⟩
    rw [mem_ready] at hi
    obtain ⟨h0, o, ho, hall⟩ := hi
    have ho' : ops[i]? = some o := by simpa using ho
    have hil : i < ops.length := lt_of_getElem? ho'
    have hip : i = p := by
      rw [hL i hil] at h0
      have hge : p ≤ i := by simpa using h0
      rcases Nat.eq_or_lt_of_le hge with h | h
      · exact h.symm
      · obtain ⟨e, he1, he2, he3⟩ := depB_spec ((drawOk_spec hok ho').2.2 (by omega) p h)
        have := hall e he1 he3
        rw [he2, hL p hpl] at this
        simp at this
    subst hip
    have hoe : o = ops[i] := by simpa [hpl] using ho'.symm
    subst hoe
    have hset : ∀ k, k < ops.length → ∀ b, (listed.setIfInBounds i true).getD k b = decide (k < i + 1) := by
      intro k hk b
      by_cases hki : i = k
      · subst hki; simp [hs, hpl]
      · rw [getD_set_ne b hki, hL k hk]
        congr 1; apply propext; omega
    obtain ⟨gd, g, h, hgd, hw⟩ := guard_sound h
    obtain ⟨h1, h2⟩ := opA_sound h hgd
    have hw := hw hr
    simp only [wpOpIn, ho, hw]
    cases g with
    | true =>
      simp only [if_true]
      exact h1 rfl j0 j a w _ _ hr fun s' j' a' w' hr' he' hK => ih (i + 1) s' j' a' w' _ (by omega) (by omega) (by omega) (by simpa using hs) hset hr' (he.trans he') hK
    | false =>
      simp only [Bool.false_eq_true, if_false]
      obtain ⟨s', hK, hs'⟩ := h2 rfl
      exact ⟨fun _ _ => trivial, ih (i + 1) s' j _ w _ (by omega) (by omega) (by omega) (by simpa using hs) hset (hs' j0 j a w hr) he hK⟩

/-- how many are still to come -/
def left (listed : Array Bool) (n : Nat) : Nat := ((List.range n).filter fun k => !listed.getD k true).length

theorem left_set {listed : Array Bool} {n i : Nat} (hs : listed.size = n) (hi : i < n) (h0 : listed.getD i true = false) : left listed n = left (listed.setIfInBounds i true) n + 1 := by
  unfold left
  have gen : ∀ l : List Nat, l.Nodup → i ∈ l → (l.filter fun k => !listed.getD k true).length = (l.filter fun k => !(listed.setIfInBounds i true).getD k true).length + 1 := by
    intro l
    induction l with
    | nil => simp
    | cons x l ih =>
      intro hn hm
      simp only [List.nodup_cons] at hn
      by_cases hx : x = i
      · subst hx
        have hrest : (l.filter fun k => !listed.getD k true) = l.filter fun k => !(listed.setIfInBounds x true).getD k true := by
          apply List.filter_congr
          intro k hk
          have hne : x ≠ k := fun he => hn.1 (by rw [he]; exact hk)
          rw [getD_set_ne true hne]
        have h1 : (listed.setIfInBounds x true).getD x true = true := by
          simp [show x < listed.size by omega]
        rw [List.filter_cons_of_pos (by rw [h0]; rfl), List.filter_cons_of_neg (by rw [h1]; simp), hrest, List.length_cons]
      · have hm' : i ∈ l := by simpa [Ne.symm hx] using hm
        have ih := ih hn.2 hm'
        have hxe : (listed.setIfInBounds i true).getD x true = listed.getD x true := getD_set_ne true (Ne.symm hx)
        by_cases hb : listed.getD x true = true
        · rw [List.filter_cons_of_neg (by rw [hb]; simp), List.filter_cons_of_neg (by rw [hxe, hb]; simp)]; exact ih
        · have hb : listed.getD x true = false := by simpa using hb
          rw [List.filter_cons_of_pos (by rw [hb]; rfl), List.filter_cons_of_pos (by rw [hxe, hb]; rfl), List.length_cons, List.length_cons, ih]
  exact gen _ List.nodup_range (by simpa using hi)

structure InvA (s : St) (ops : List Oper) (m : Nat) (xs : Nat → AV) (j0 : J0) (listed : Array Bool) (j : Js) (a : Act) (w : World) : Prop where
  defers : Marks j0.n0 w j a.defers
  rdok : ∀ l, j0.rd = some l → ∃ r, w.heap[l]? = some (.loop r)
  size : a.tmps.size = s.N
  sto : RelS w j s.σ
  len0 : j0.js.length ≤ j.length
  ag : Ag j0.js j s.mv
  lsize : listed.size = ops.length
  lB : ∀ k, m ≤ k → k < ops.length → ∀ b, listed.getD k b = false
  cl : ∀ q oq, q < m → ops[q]? = some oq → listed.getD q true = true → ∀ e ∈ oq.after, Region.binds .any e = true → listed.getD e.on false = true
  c1 : ∀ q oq k, q < m → ops[q]? = some oq → oq.dst = some k → listed.getD q true = true → k < s.N → R w j (xs q) (a.tmps.getD k Go.undef)
  c2 : ∀ k av, (∀ q oq, q < m → ops[q]? = some oq → oq.dst = some k → listed.getD q true = false) → get s.t k = some av → k < s.N ∧ R w j av (a.tmps.getD k Go.undef)

theorem okA_spec {i : Nat} {o : Oper} (h : okA ops m i o = true) : (∀ k ∈ looks ops o, ∀ p op, ops[p]? = some op → op.dst = some k → (p < i → depB o p = true) ∧ (i < p → depB op i = true)) ∧ (∀ p op d, p < m → p ≠ i → ops[p]? = some op → o.dst = some d → op.dst ≠ some d) := by
  simp only [okA, Bool.and_eq_true, List.all_eq_true, List.mem_range] at h
  obtain ⟨h1, h2⟩ := h
  refine ⟨fun k hk p op hp hd => ?_, fun p op d hp hne hpo hd hpd => ?_⟩
  · have := h1 k hk p (lt_of_getElem? hp)
    simp only [hp, dstIs_iff.2 hd, Bool.not_true, Bool.false_or] at this
    refine ⟨fun hlt => ?_, fun hlt => ?_⟩
    · rw [if_pos (by simpa using hlt)] at this; exact this
    · rw [if_neg (by simp; omega), if_neg (by simp; omega)] at this; exact this
  · have := h2 p hp
    simp only [hpo, hd, Bool.or_eq_true] at this
    rcases this with h | h
    · exact hne (Nat.eq_of_beq_eq_true h)
    · rw [dstIs_iff.2 hpd] at h; simp at h

theorem take_get {i : Nat} (h : i < m) : (ops.take m)[i]? = ops[i]? := by rw [List.getElem?_take, if_pos h]

theorem phaseA (hok : drawOk ops m = true) (hmn : m ≤ ops.length) {Q : Exit → St → Prop} {j0 : J0} {j1 : Js} {w1 : World} {s : St} {xs : Nat → AV}
    (hK : evalOps P false ops (ops.drop m) (stAt s (ops.take m) xs (ops.take m).length) (Q .normal)) (hloc : ∀ i o, (ops.take m)[i]? = some o → Local P ops o (stAt s (ops.take m) xs i) (xs i)) :
    ∀ (fuel : Nat) (j : Js) (a : Act) (w : World) (listed : Array Bool), left listed ops.length = fuel → InvA s ops m xs j0 listed j a w → Ev j1 w1 j w → wpAnyIn (FW j0.rd) 0 P .any ops.toArray (APost j0 j1 w1 Q) fuel listed a w := by
  have hlen : (ops.take m).length = m := by simp; omega
  intro fuel
  induction fuel with
  | zero =>
    intro j a w listed hf hI he
    -- all are listed: then m = n
    have hall : ∀ k, k < ops.length → listed.getD k true = true := by
      intro k hk
      by_cases hb : listed.getD k true = true
      · exact hb
      · have : k ∈ (List.range ops.length).filter fun k => !listed.getD k true := by
          rw [List.mem_filter]; exact ⟨by simpa using hk, by simpa using hb⟩
        have h0 : (List.range ops.length).filter (fun k => !listed.getD k true) = [] := List.length_eq_zero_iff.1 hf
        rw [h0] at this; simp at this
    have hme : m = ops.length := by
      rcases Nat.lt_or_ge m ops.length with h | h
      · have := hall m h; rw [hI.lB m (Nat.le_refl _) h] at this; simp at this
      · omega
    have hrel : Rel j0 (stAt s (ops.take m) xs m) j a w := by
      have hfs := stAt_fields s (ops.take m) xs m
      refine ⟨hI.defers, hI.rdok, by rw [hfs.1]; exact hI.size, fun k av hk => ?_, by rw [hfs.2.1]; exact hI.sto, hI.len0, by rw [hfs.2.2]; exact hI.ag⟩
      rw [hfs.1]
      by_cases hw : ∃ q oq, q < m ∧ ops[q]? = some oq ∧ oq.dst = some k
      · obtain ⟨q, oq, hq, hqo, hqd⟩ := hw
        rw [get_stAt_some (oq := oq) (by rw [take_get hq]; exact hqo) hqd hq (fun p o h1 h2 h3 => by
          rw [take_get h2] at h3
          exact (okA_spec ((drawOk_spec hok hqo).2.1 hq)).2 p o k h2 (by omega) h3 hqd)] at hk
        split at hk <;> simp at hk
        subst hk
        rename_i hkN
        exact ⟨hkN, hI.c1 q oq k hq hqo hqd (hall q (by omega)) hkN⟩
      · rw [get_stAt_none (fun p o h1 h2 => by
          rw [take_get h1] at h2
          exact fun hd => hw ⟨p, o, h1, h2, hd⟩)] at hk
        exact hI.c2 k av (fun q oq h1 h2 h3 => absurd ⟨q, oq, h1, h2, h3⟩ hw) hk
    rw [hlen] at hK
    exact phaseB hok 0 m _ j a w listed (by omega) (Nat.le_refl _) (by omega) hI.lsize (fun k hk b => by
      have h1 := hall k hk
      have hsz : k < listed.size := by rw [hI.lsize]; exact hk
      have h2 : listed[k] = true := by simpa [hsz] using h1
      simp [hsz, h2, show k < m by omega]) hrel he hK
  | succ fuel ih =>
    intro j a w listed hf hI he
    by_cases hdone : ∀ q, q < m → listed.getD q true = true
    · -- the part that computes is done
      have hrel : Rel j0 (stAt s (ops.take m) xs m) j a w := by
        have hfs := stAt_fields s (ops.take m) xs m
        refine ⟨hI.defers, hI.rdok, by rw [hfs.1]; exact hI.size, fun k av hk => ?_, by rw [hfs.2.1]; exact hI.sto, hI.len0, by rw [hfs.2.2]; exact hI.ag⟩
        rw [hfs.1]
        by_cases hw : ∃ q oq, q < m ∧ ops[q]? = some oq ∧ oq.dst = some k
        · obtain ⟨q, oq, hq, hqo, hqd⟩ := hw
          rw [get_stAt_some (oq := oq) (by rw [take_get hq]; exact hqo) hqd hq (fun p o h1 h2 h3 => by
            rw [take_get h2] at h3
            exact (okA_spec ((drawOk_spec hok hqo).2.1 hq)).2 p o k h2 (by omega) h3 hqd)] at hk
          split at hk <;> simp at hk
          subst hk
          rename_i hkN
          exact ⟨hkN, hI.c1 q oq k hq hqo hqd (hdone q hq) hkN⟩
        · rw [get_stAt_none (fun p o h1 h2 => by
            rw [take_get h1] at h2
            exact fun hd => hw ⟨p, o, h1, h2, hd⟩)] at hk
          exact hI.c2 k av (fun q oq h1 h2 h3 => absurd ⟨q, oq, h1, h2, h3⟩ hw) hk
      have hL : ∀ k, k < ops.length → ∀ b, listed.getD k b = decide (k < m) := by
        intro k hk b
        rcases Nat.lt_or_ge k m with h | h
        · have h1 := hdone k h
          have hsz : k < listed.size := by rw [hI.lsize]; exact hk
          have h2 : listed[k] = true := by simpa [hsz] using h1
          simp [hsz, h2, h]
        · rw [hI.lB k h hk]; simp; omega
      have hfuel : fuel + 1 = ops.length - m := by
        rw [← hf]
        unfold left
        have gen : ∀ n, n ≤ ops.length → ((List.range n).filter fun k => !listed.getD k true).length = n - m := by
          intro n
          induction n with
          | zero => simp
          | succ n ihn =>
            intro hn
            rw [List.range_succ, List.filter_append, List.length_append, ihn (by omega)]
            have h1 := hL n (by omega) true
            by_cases hnm : n < m
            · have : (List.filter (fun k => !listed.getD k true) [n]).length = 0 := by
                rw [List.filter_cons_of_neg (by rw [h1]; simp [hnm])]; simp
              omega
            · have : (List.filter (fun k => !listed.getD k true) [n]).length = 1 := by
                rw [List.filter_cons_of_pos (by rw [h1]; simp; omega)]; simp
              omega
        exact gen _ (Nat.le_refl _)
      rw [hlen] at hK
      exact phaseB hok (fuel + 1) m _ j a w listed hfuel.symm (Nat.le_refl _) (by omega) hI.lsize hL hrel he hK
    · -- there is one that is not listed, a least one
      have hex : ∃ q, q < m ∧ listed.getD q true = false ∧ ∀ p, p < q → listed.getD p true = true := by
        have hex0 : ∃ q, q < m ∧ listed.getD q true = false := by
          apply Classical.byContradiction
          intro hne
          apply hdone
          intro q hq
          by_cases hb : listed.getD q true = true
          · exact hb
          · exact absurd ⟨q, hq, by simpa using hb⟩ hne
        obtain ⟨q, hq1, hq2⟩ := hex0
        induction q using Nat.strongRecOn with
        | _ q ihq =>
          by_cases hall : ∀ p, p < q → listed.getD p true = true
          · exact ⟨q, hq1, hq2, hall⟩
          · have : ∃ p, p < q ∧ listed.getD p true = false := by
              apply Classical.byContradiction
              intro hne
              apply hall
              intro p hp
              by_cases hb : listed.getD p true = true
              · exact hb
              · exact absurd ⟨p, hp, by simpa using hb⟩ hne
            obtain ⟨p, hp1, hp2⟩ := this
            exact ihq p hp1 (by omega) hp2
      obtain ⟨q0, hq0, hq0l, hq0all⟩ := hex
      have hlt0 : q0 < ops.length := by omega
      have hready : q0 ∈ Region.ready .any ops.toArray listed := by
        rw [mem_ready]
        refine ⟨hq0l, ops[q0], by simp [hlt0], fun e he hb => ?_⟩
        have h1 := (drawOk_spec hok (i := q0) (o := ops[q0]) (by simp [hlt0])).1 e he hb
        have h2 := hq0all e.on h1
        have hsz : e.on < listed.size := by rw [hI.lsize]; omega
        have h3 : listed[e.on] = true := by simpa [hsz] using h2
        simp [hsz, h3]
      refine ⟨fun h0 => by rw [h0] at hready; simp at hready, fun i hi => ?_⟩
      rw [mem_ready] at hi
      obtain ⟨h0, o, ho, hall⟩ := hi
      have ho' : ops[i]? = some o := by simpa using ho
      have hil : i < ops.length := lt_of_getElem? ho'
      have him : i < m := by
        rcases Nat.lt_or_ge i m with h | h
        · exact h
        · obtain ⟨e, he1, he2, he3⟩ := depB_spec ((drawOk_spec hok ho').2.2 h q0 (by omega))
          have := hall e he1 he3
          rw [he2] at this
          have hsz : q0 < listed.size := by rw [hI.lsize]; omega
          have h3 : listed[q0] = true := by simpa [hsz] using this
          have h4 : listed[q0] = false := by simpa [hsz] using hq0l
          rw [h3] at h4; cases h4
      have hokA := okA_spec ((drawOk_spec hok ho').2.1 him)
      have hfs := stAt_fields s (ops.take m) xs i
      have tf : ∀ {q : Nat}, q < ops.length → listed.getD q false = true → listed.getD q true = true := by
        intro q hq h
        have hsz : q < listed.size := by rw [hI.lsize]; exact hq
        have h3 : listed[q] = true := by simpa [hsz] using h
        simp [hsz, h3]
      have hrel : Rel j0 ((stAt s (ops.take m) xs i).restr (looks ops o)) j a w := by
        refine ⟨hI.defers, hI.rdok, by show a.tmps.size = (stAt s (ops.take m) xs i).N; rw [hfs.1]; exact hI.size, fun k av hk => ?_, by show RelS w j (stAt s (ops.take m) xs i).σ; rw [hfs.2.1]; exact hI.sto, hI.len0, by show Ag j0.js j (stAt s (ops.take m) xs i).mv; rw [hfs.2.2]; exact hI.ag⟩
        show k < (stAt s (ops.take m) xs i).N ∧ _
        rw [hfs.1]
        simp only [St.restr, get_restr] at hk
        split at hk
        · rename_i hkl
          have hkl : k ∈ looks ops o := by simpa using hkl
          by_cases hw : ∃ q oq, q < i ∧ ops[q]? = some oq ∧ oq.dst = some k
          · obtain ⟨q, oq, hq, hqo, hqd⟩ := hw
            have hdep := (hokA.1 k hkl q oq hqo hqd).1 hq
            obtain ⟨e, he1, he2, he3⟩ := depB_spec hdep
            have hlq := hall e he1 he3
            rw [he2] at hlq
            rw [get_stAt_some (oq := oq) (by rw [take_get (by omega)]; exact hqo) hqd hq (fun p op h1 h2 h3 => by
              rw [take_get (by omega)] at h3
              exact (okA_spec ((drawOk_spec hok hqo).2.1 (by omega))).2 p op k (by omega) (by omega) h3 hqd)] at hk
            split at hk <;> simp at hk
            subst hk
            rename_i hkN
            exact ⟨hkN, hI.c1 q oq k (by omega) hqo hqd (tf (by omega) hlq) hkN⟩
          · rw [get_stAt_none (fun p op h1 h2 => by
              rw [take_get (by omega)] at h2
              exact fun hd => hw ⟨p, op, h1, h2, hd⟩)] at hk
            refine hI.c2 k av (fun q oq h1 h2 h3 => ?_) hk
            rcases Nat.lt_trichotomy q i with h | h | h
            · exact absurd ⟨q, oq, h, h2, h3⟩ hw
            · subst h; exact h0
            · have hdep := (hokA.1 k hkl q oq h2 h3).2 h
              obtain ⟨e, he1, he2, he3⟩ := depB_spec hdep
              by_cases hb : listed.getD q true = true
              · have := hI.cl q oq h1 h2 hb e he1 he3
                rw [he2] at this
                have := tf hil this
                rw [h0] at this; cases this
              · simpa using hb
        · simp at hk
      have hL := hloc i o (by rw [take_get him]; exact ho')
      have hset0 : left (listed.setIfInBounds i true) ops.length = fuel := by
        have := left_set hI.lsize hil h0; omega
      have hszi : i < listed.size := by rw [hI.lsize]; exact hil
      have fin : ∀ w' v, RelS w' j s.σ → Ev j w j w' → R w' j (xs i) v → wpAnyIn (FW j0.rd) 0 P .any ops.toArray (APost j0 j1 w1 Q) fuel (listed.setIfInBounds i true) (a.put o.dst v) w' := by
        intro w' v hsto hev hv
        refine ih j _ w' _ hset0 ⟨?_, fun l hl => (by obtain ⟨r, hr⟩ := hI.rdok l hl; exact hev.lps l r hr), ?_, hsto, hI.len0, hI.ag, by simpa using hI.lsize, ?_, ?_, ?_, ?_⟩ (he.trans hev)
        · have := hI.defers.mono hev
          cases hd : o.dst <;> simpa [Act.put] using this
        · cases hd : o.dst <;> simp [Act.put, hI.size]
        · intro k hk1 hk2 b
          rw [getD_set_ne b (by omega)]; exact hI.lB k hk1 hk2 b
        · intro q oq hq hqo hl e he1 he2
          by_cases hqi : i = q
          · subst hqi
            have : oq = o := by rw [ho'] at hqo; exact (Option.some.inj hqo).symm
            subst this
            exact getD_set_true (hall e he1 he2)
          · rw [getD_set_ne true hqi] at hl
            exact getD_set_true (hI.cl q oq hq hqo hl e he1 he2)
        · intro q oq k hq hqo hqd hl hkN
          by_cases hqi : i = q
          · subst hqi
            have : oq = o := by rw [ho'] at hqo; exact (Option.some.inj hqo).symm
            subst this
            simp only [Act.put, hqd]
            rw [R_setIfInBounds (w := w) (j := j) (by rw [hI.size]; exact hkN), if_pos rfl]; exact hv
          · rw [getD_set_ne true hqi] at hl
            have h1 := hI.c1 q oq k hq hqo hqd hl hkN
            have hne : o.dst ≠ some k := fun hd => hokA.2 q oq k hq (fun h => hqi h.symm) hqo hd hqd
            have h2 : (a.put o.dst v).tmps.getD k Go.undef = a.tmps.getD k Go.undef := by
              cases hd : o.dst with
              | none => rfl
              | some d =>
                have hdk : d ≠ k := fun h => hne (by rw [hd, h])
                simp [Act.put, Array.getD_eq_getD_getElem?, Array.getElem?_setIfInBounds, hdk]
            rw [h2]; exact h1.mono0 hev hI.sto.lt (.refl _ _)
        · intro k av hk hg
          have hne : o.dst ≠ some k := fun hd => by
            have := hk i o him ho' hd
            simp [hszi] at this
          have h1 := hI.c2 k av (fun q oq h1 h2 h3 => by
            have hqi : i ≠ q := fun h => by subst h; rw [ho'] at h2; cases h2; exact hne h3
            have := hk q oq h1 h2 h3
            rwa [getD_set_ne true hqi] at this) hg
          have h2 : (a.put o.dst v).tmps.getD k Go.undef = a.tmps.getD k Go.undef := by
            cases hd : o.dst with
            | none => rfl
            | some d =>
              have hdk : d ≠ k := fun h => hne (by rw [hd, h])
              simp [Act.put, Array.getD_eq_getD_getElem?, Array.getElem?_setIfInBounds, hdk]
          rw [h2]; exact ⟨h1.1, h1.2.mono0 hev hI.sto.lt (.refl _ _)⟩
      simp only [wpOpIn, ho]
      by_cases hw : Region.wanted o (yielded ops.toArray a.tmps) = true
      · rw [if_pos hw]
        exact hL.run j0 j a w _ _ hrel hw fun w' v h1 h2 h3 => fin w' v (by rw [hfs.2.1] at h1; exact h1) h2 h3
      · rw [if_neg hw]
        exact ⟨fun _ _ => trivial, fin w Go.undef hI.sto (.refl _ _) (hL.skip j0 j a w hrel (by simpa using hw))⟩

end

theorem awp_draw {P : Program} {Q : Exit → St → Prop} {s : St} {id : Nat} {ops : List Oper} (m : Nat) (hm : P.follows .mixedOrders = true) (hok : (drawOk ops m && Nat.ble m ops.length) = true)
    (h : evalOps P true ops (ops.take m) s fun s' => evalOps P false ops (ops.drop m) s' (Q .normal)) : AWP P (.region id ops.toArray true) Q s := by
  intro j0 j a w hr
  simp only [Bool.and_eq_true, Nat.ble_eq] at hok
  obtain ⟨xs, hK, hloc⟩ := unroll h
  refine wpIn_region_any hm ?_
  have hr' : Rel j0 s j a w.drew := hr.after (ev_drew j w) hr.sto.drew (Nat.le_refl _) (.refl _ [])
  have hf : ∀ k b, k < ops.length → (Array.replicate ops.toArray.size false).getD k b = false := by
    intro k b hk; simp [hk]
  refine phaseA hok.1 hok.2 hK hloc _ j a w.drew _ ?_ ⟨hr'.defers, hr'.rdok, hr'.size, hr'.sto, hr'.len0, hr'.ag, by simp, fun k _ hk b => hf k b hk, fun q oq hq hqo hl => ?_, fun q oq k hq hqo hd hl => ?_, fun k av _ hk => hr'.tmp k av hk⟩ (ev_drew j w)
  · unfold left
    have : (List.range ops.length).filter (fun k => !(Array.replicate ops.toArray.size false).getD k true) = List.range ops.length := by
      apply List.filter_eq_self.2
      intro k hk
      rw [hf k true (by simpa using hk)]; rfl
    rw [this]; simp
  · rw [hf q true (by omega)] at hl; cases hl
  · rw [hf q true (by omega)] at hl; cases hl

end Go.Abs
