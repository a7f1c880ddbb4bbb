/- Abstract values: the rule for a region that draws its order. -/
import Derived.Test.YtplpklikapkloaaAq
namespace Go.Abs
set_option linter.unusedVariables false
set_option linter.unusedSimpArgs false

/-- what one operation of the part that computes comes to: whatever else has been done -/
structure Local (P : Program) (all : List Oper) (o : Oper) (s : St) (x : AV) : Prop where
  run : ∀ (j0 : J0) j a w (next : Act → World → Prop) (Q : Exit → Act → World → Prop), Rel j0 (s.restr (looks all o)) j a w → Region.wanted o (yielded all.toArray a.tmps) = true →
    (∀ w' v, RelS w' j s.σ → Ev j w j w' → R w' j x v → next (a.put o.dst v) w') → o.wpIn (FW j0.rd) 0 P a w next Q
  skip : ∀ j0 j a w, Rel j0 (s.restr (looks all o)) j a w → Region.wanted o (yielded all.toArray a.tmps) = false → R w j x Go.undef

theorem js_same {j j' : Js} (hl : j'.length = j.length) (h : Ag j j' []) : j' = j := by
  apply List.ext_getElem?
  intro b
  rcases Nat.lt_or_ge b j.length with hb | hb
  · exact h b hb (by simp)
  · rw [List.getElem?_eq_none (by omega), List.getElem?_eq_none hb]

theorem guardA_restr {all : List Oper} {o : Oper} {s : St} {K : Bool → Bool → Prop} : guardA all (s.restr (looks all o)) o K = guardA all s o K := by
  unfold guardA
  split
  · rfl
  · rename_i jx want hg
    have : gvA all (s.restr (looks all o)) jx = gvA all s jx := by
      unfold gvA
      rw [nthOp_eq]
      split
      · rename_i g hjx
        split
        · rename_i d hd
          simp only [St.restr, get_restr]
          rw [if_pos]
          simp [looks, gTmps, hg, hjx, hd]
        · rfl
      · rfl
    rw [this]

theorem local_of {P : Program} {all : List Oper} {o : Oper} {s : St} {K : St → Prop} (h : guardA all s o fun gd g => opA P true gd g o s K) : ∃ x, Local P all o s x ∧ K (s.put o.dst x) := by
  rw [← guardA_restr] at h
  obtain ⟨gd, g, h, hgd, hw⟩ := guard_sound h
  have hmem : ∀ x ∈ o.op.operands, ∀ t, x = .tmp t → t ∈ looks all o := fun x hx t ht => List.mem_append.2 (.inl (mem_opTmps hx ht))
  have pureK : ∀ {op : Op}, o.op = op → pv P g s op (fun av => K (s.put o.dst (wrapG gd g av))) → ∃ x, Local P all o s x ∧ K (s.put o.dst x) := by
    intro op ho hp
    have hnd : ∀ c, o.op ≠ .defer c := by rw [ho]; exact pv_nodefer hp
    rw [← ho, ← pv_restr hmem] at hp
    obtain ⟨av, h1, h2⟩ := pv_sound hp
    refine ⟨_, ⟨fun j0 j a w next Q hr hwt hn => ?_, fun j0 j a w hr hwf => ?_⟩, h1⟩
    · have hg : g = true := by rw [← hw hr]; exact hwt
      obtain ⟨v, h3, h4⟩ := h2 hg j0 j a w o rfl hr
      refine opw hnd h3 ?_
      refine hn w v hr.sto (.refl _ _) ?_
      cases gd with
      | false => exact h4
      | true => exact .iff (fun _ => h4) (fun hf => by rw [hg] at hf; cases hf)
    · have hg : g = false := by rw [← hw hr]; exact hwf
      cases gd with
      | false => rw [hgd rfl] at hg; cases hg
      | true => exact .iff (fun ht => by rw [hg] at ht; cases ht) (fun _ => rfl)
  unfold opA at h
  split at h
  all_goals first
    | exact absurd h.1 (by simp)
    | exact pureK (by assumption) h
    | skip
  · rename_i op t x y ty ho
    split at h
    · exact absurd h.1 (by simp)
    · exact pureK ho h
  · rename_i c ho
    split at h
    · rename_i b hb
      split at h
      · exact absurd h.1 (by simp)
      · exact absurd h.1 (by simp)
      · exact pureK ho h
    · rename_i f hf
      have hmf : ∀ t, f = .tmp t → t ∈ looks all o := hmem f (by simp [ho, Op.operands, Call.operands, hf])
      have hma : ∀ x ∈ c.args.toList, ∀ t, x = .tmp t → t ∈ looks all o := fun x hx => hmem x (by
        simp only [ho, Op.operands, Call.operands, Array.mem_append]; exact .inr (by simpa using hx))
      rw [← arg_restr hmf] at h
      obtain ⟨fa, h, hfa⟩ := arg_sound h
      split at h
      · rw [← args_restr hma] at h
        obtain ⟨as, h, hl, ha⟩ := args_sound h
        obtain ⟨r, h1, h2⟩ := h
        refine ⟨_, ⟨fun j0 j a w next Q hr hwt hn => ?_, fun j0 j a w hr hwf => ?_⟩, h2⟩
        · have hg : g = true := by rw [← hw hr]; exact hwt
          have hcs := h1 hg
          have hfv := hfa hg j0 j a w hr
          have hen := hcs.1
          generalize hv : a.eval f = u at hfv
          cases hfv with
          | clo ff cc g2 g3 g4 g5 =>
            refine opw (by simp [ho]) (call_run (P := P) (w := w) ho hf hv hen) ?_
            refine ⟨by simp [FW], FW_calls ?_⟩
            have hrs := rs_append (rs_append ⟨g2, g4⟩ (rs_args hg hl ha hr)) ⟨g3, g5⟩
            have e : (c.args.toList.map a.eval).toArray = c.args.map a.eval := by apply Array.ext'; simp
            rw [e, List.append_assoc] at hrs
            refine (hcs.2 j w _ hr.sto hrs).mono ?_
            rintro e w' ⟨v, r', σ', j', X, rfl, h6, h7, h8, h9, h10, rfl, rfl, rfl⟩
            have hj : j' = j := js_same (by rw [h6.len, hr.sto.len]; rfl) h10
            subst hj
            refine hn w' v h6 h8 ?_
            cases gd with
            | false => exact h7
            | true => exact .iff (fun _ => h7) (fun hf => by rw [hg] at hf; cases hf)
        · have hg : g = false := by rw [← hw hr]; exact hwf
          cases gd with
          | false => rw [hgd rfl] at hg; cases hg
          | true => exact .iff (fun ht => by rw [hg] at ht; cases ht) (fun _ => rfl)
      · obtain ⟨as, h, hl, ha⟩ := args_sound h
        exact h.elim
      · exact h.elim
    · exact h.elim
  · exact pureK rfl h

/-- the states of the part that computes, in the order of the text -/
def stAt (s : St) (os : List Oper) (xs : Nat → AV) : Nat → St
  | 0 => s
  | i + 1 => match os[i]? with
    | some o => (stAt s os xs i).put o.dst (xs i)
    | none => stAt s os xs i

theorem unroll {P : Program} {all : List Oper} : ∀ {os : List Oper} {s : St} {K : St → Prop}, evalOps P true all os s K → ∃ xs : Nat → AV, K (stAt s os xs os.length) ∧ ∀ i o, os[i]? = some o → Local P all o (stAt s os xs i) (xs i)
  | [], s, K, h => ⟨fun _ => .undef, h, by simp⟩
  | o :: os, s, K, h => by
    obtain ⟨x, hl, h⟩ := local_of h
    obtain ⟨xs, hK, hloc⟩ := unroll h
    have hst : ∀ i, stAt s (o :: os) (fun | 0 => x | i + 1 => xs i) (i + 1) = stAt (s.put o.dst x) os xs i := by
      intro i
      induction i with
      | zero => rfl
      | succ i ih =>
        show (match (o :: os)[i + 1]? with | some o' => (stAt s (o :: os) (fun | 0 => x | i + 1 => xs i) (i + 1)).put o'.dst (xs i) | none => stAt s (o :: os) (fun | 0 => x | i + 1 => xs i) (i + 1)) = _
        rw [ih]
        simp only [List.getElem?_cons_succ]
        rfl
    refine ⟨fun | 0 => x | i + 1 => xs i, ?_, fun i o' hi => ?_⟩
    · rw [List.length_cons, hst]; exact hK
    · cases i with
      | zero => simp at hi; subst hi; exact hl
      | succ i => rw [hst]; exact hloc i o' (by simpa using hi)

theorem stAt_fields (s : St) (os : List Oper) (xs : Nat → AV) : ∀ i, (stAt s os xs i).N = s.N ∧ (stAt s os xs i).σ = s.σ ∧ (stAt s os xs i).mv = s.mv
  | 0 => ⟨rfl, rfl, rfl⟩
  | i + 1 => by
    have ih := stAt_fields s os xs i
    simp only [stAt]
    split
    · rename_i o _
      simp only [St.put]
      split
      · exact ih
      · split <;> exact ih
    · exact ih

theorem get_stput {s : St} {dst : Option Tmp} {x : AV} {k : Nat} : get (s.put dst x).t k = if dst = some k then (if k < s.N then some x else none) else get s.t k := by
  cases dst with
  | none => simp [St.put]
  | some d =>
    simp only [St.put, Option.some.injEq]
    by_cases hd : d < s.N
    · rw [if_pos (by simpa using hd)]
      simp only [get_put]
      by_cases hk : d = k
      · subst hk; simp [hd]
      · simp [hk]
    · rw [if_neg (by simpa using hd)]
      simp only [get_del]
      by_cases hk : d = k
      · subst hk; simp [hd]
      · simp [hk]

theorem get_stAt_none {s : St} {os : List Oper} {xs : Nat → AV} {k : Nat} : ∀ {i : Nat}, (∀ p o, p < i → os[p]? = some o → o.dst ≠ some k) → get (stAt s os xs i).t k = get s.t k
  | 0, _ => rfl
  | i + 1, h => by
    simp only [stAt]
    have ih := get_stAt_none (s := s) (os := os) (xs := xs) (k := k) (i := i) (fun p o hp => h p o (by omega))
    split
    · rename_i o ho
      rw [get_stput, if_neg (h i o (by omega) ho)]; exact ih
    · exact ih

theorem get_stAt_some {s : St} {os : List Oper} {xs : Nat → AV} {k q : Nat} {oq : Oper} (hq : os[q]? = some oq) (hd : oq.dst = some k) : ∀ {i : Nat}, q < i → (∀ p o, q < p → p < i → os[p]? = some o → o.dst ≠ some k) → get (stAt s os xs i).t k = if k < s.N then some (xs q) else none
  | i + 1, hqi, h => by
    simp only [stAt]
    by_cases hqe : q = i
    · subst hqe
      simp only [hq]
      rw [get_stput, if_pos hd, (stAt_fields s os xs q).1]
    · have ih := get_stAt_some (s := s) (xs := xs) hq hd (i := i) (by omega) (fun p o h1 h2 => h p o h1 (by omega))
      split
      · rename_i o ho
        rw [get_stput, if_neg (h i o (by omega) (by omega) ho)]; exact ih
      · exact ih

end Go.Abs
