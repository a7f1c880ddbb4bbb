/- Abstract values: the operations of a region are sound; the rule for a region in the order of its text. -/
import Derived.Test.YtplpklikapkloaaAo
namespace Go.Abs
set_option linter.unusedVariables false
set_option linter.unusedSimpArgs false

/-- where the guard says no, too, a state is left -/
def Skips (o : Oper) (s : St) (K : St → Prop) : Prop := ∃ s', K s' ∧ ∀ j0 j a w, Rel j0 s j a w → Rel j0 s' j (a.put o.dst Go.undef) w

theorem skips_del {o : Oper} {s : St} {K : St → Prop} (h : K (s.del o.dst)) : Skips o s K := ⟨_, h, fun _ _ _ _ hr => hr.del o.dst Go.undef⟩

theorem skips_wrap {o : Oper} {s : St} {K : St → Prop} {gd g : Bool} {av : AV} (hgd : gd = false → g = true) (hg : g = false) (h : K (s.put o.dst (wrapG gd g av))) : Skips o s K := by
  cases gd with
  | false => rw [hgd rfl] at hg; cases hg
  | true => exact ⟨_, h, fun _ _ _ _ hr => hr.put o.dst (.iff (fun ht => by rw [hg] at ht; cases ht) (fun _ => rfl))⟩

theorem callFunc_enters {P : Program} {f : FuncId} (h : entersB P f = true) (args : Array Value) (w : World) : (callFunc f args).run P w = .ok (.enter f args) w := by
  unfold entersB at h
  split at h
  · rename_i fn hf
    simp only [Bool.and_eq_true, Bool.not_eq_true', Option.isSome_iff_ne_none, ne_eq] at h
    have h1 : fn.name ≠ "runtime.NumGoroutine" := by simpa using h.2
    have h2 : fn.body.isNone = false := by
      cases hb : fn.body with
      | none => simp [hb] at h
      | some c => rfl
    simp [callFunc, hf, h1]
    intro hn; exact absurd hn h.1
  · simp at h

theorem call_run {P : Program} {w : World} {a : Act} {o : Oper} {c : Call} {f : Operand} {fid : FuncId} {ff cc : Array Value} (ho : o.op = .call c) (hc : c.callee = .value f) (hf : a.eval f = .func (.func fid) ff cc) (hen : entersB P fid = true) :
    (execOp a.eval o).run P w = .ok (.enter fid (ff ++ c.args.map a.eval ++ cc)) w := by
  simp only [execOp, ho, resolve, hc, hf, Deferred.ofValue]
  simp [invoke, callFunc_enters hen]

theorem rs_append {w : World} {j : Js} {xs ys : List AV} {us vs : Array Value} (h1 : Rs w j xs us) (h2 : Rs w j ys vs) : Rs w j (xs ++ ys) (us ++ vs) := by
  refine ⟨by simp [h1.1, h2.1], fun k hk => ?_⟩
  simp only [List.length_append] at hk
  simp only [List.getD_eq_getElem?_getD, List.getElem?_append, Array.getD_eq_getD_getElem?, Array.getElem?_append, h1.1]
  by_cases hk1 : k < xs.length
  · have := h1.2 k hk1
    simp only [hk1, if_true]
    simpa [List.getD_eq_getElem?_getD, Array.getD_eq_getD_getElem?] using this
  · have := h2.2 (k - xs.length) (by omega)
    simp only [hk1, if_false]
    simpa [List.getD_eq_getElem?_getD, Array.getD_eq_getD_getElem?] using this

theorem rs_args {g : Bool} (hg : g = true) {s : St} {xs : List Operand} {as : List AV} (hl : as.length = xs.length) (h : ∀ k, k < xs.length → Arg g s (xs.getD k (.const Go.undef)) (as.getD k .undef)) {j0 : J0} {j : Js} {a : Act} {w : World} (hr : Rel j0 s j a w) : Rs w j as (xs.map a.eval).toArray := by
  refine ⟨by simp [hl], fun k hk => ?_⟩
  have hk' : k < xs.length := by omega
  have := h k hk' hg j0 j a w hr
  simpa [List.getD_eq_getElem?_getD, Array.getD_eq_getD_getElem?, hk'] using this

theorem runs_call {P : Program} {o : Oper} {s : St} {K : St → Prop} {c : Call} {f : Operand} {fid : FuncId} {first captured as : List AV} {g : Bool} (hg : g = true) (ho : o.op = .call c) (hc : c.callee = .value f) (hf : Arg g s f (.clo (.func fid) first captured))
    (hl : as.length = c.args.toList.length) (ha : ∀ k, k < c.args.toList.length → Arg g s (c.args.toList.getD k (.const Go.undef)) (as.getD k .undef))
    (gd : Bool) (h : CS P fid (first ++ (as ++ captured)) s.σ fun r σ' X => K ((s.after σ' X).put o.dst (wrapG gd g r))) : Runs P o s K := by
  intro j0 j a w next Q hr hn
  have h1 := hf hg j0 j a w hr
  have hen := h.1
  generalize hv : a.eval f = u at h1
  cases h1 with
  | clo ff cc h2 h3 h4 h5 =>
    refine opw (by simp [ho]) (call_run (P := P) (w := w) ho hc hv hen) ?_
    refine ⟨by simp [FW], FW_calls ?_⟩
    have hrs : Rs w j (first ++ as ++ captured) (ff ++ c.args.map a.eval ++ cc) := by
      refine rs_append (rs_append ⟨h2, h4⟩ ?_) ⟨h3, h5⟩
      have := rs_args hg hl ha hr
      have e : (c.args.toList.map a.eval).toArray = c.args.map a.eval := by apply Array.ext'; simp
      rwa [e] at this
    rw [List.append_assoc] at hrs
    refine (h.2 j w _ hr.sto hrs).mono ?_
    rintro e w' ⟨v, r, σ', j', X, rfl, h6, h7, h8, h9, h10, h11⟩
    refine hn _ j' _ w' ((hr.after h8 h6 h9 h10).put o.dst ?_) h8 h11
    cases gd with
    | false => exact h7
    | true => exact .iff (fun _ => h7) (fun hf => by rw [hg] at hf; cases hf)

theorem yield_run {P : Program} {w w' : World} {a : Act} {o : Oper} {c : Call} {f : Operand} {cb : Nat} {x : Next} (ho : o.op = .call c) (hc : c.callee = .value f) (hf : a.eval f = .func (.yield cb) #[] #[]) (h : (Instr.yield cb (c.args.map a.eval)).run P w = .ok x w') :
    (execOp a.eval o).run P w = .ok x w' := by
  simp only [execOp, ho, resolve, hc, hf, Deferred.ofValue]
  simp [invoke, h]

theorem runs_yield {P : Program} {o : Oper} {s : St} {K : St → Prop} {c : Call} {f : Operand} {b : Nat} {as : List AV} {g : Bool} (hg : g = true) (ho : o.op = .call c) (hc : c.callee = .value f) (hf : Arg g s f (.yld b))
    (hl : as.length = c.args.toList.length) (ha : ∀ k, k < c.args.toList.length → Arg g s (c.args.toList.getD k (.const Go.undef)) (as.getD k .undef)) (h : YSk P b as s o.dst K) : Runs P o s K := by
  intro j0 j a w next Q hr hn
  have h1 := hf hg j0 j a w hr
  generalize hv : a.eval f = u at h1
  cases h1 with
  | @yld _ cb hb =>
    have hrs := rs_args hg hl ha hr
    have e : (c.args.toList.map a.eval).toArray = c.args.map a.eval := by apply Array.ext'; simp
    rw [e] at hrs
    obtain ⟨fn, tmps, asg, bd, h2, h3⟩ := h j0.rd j w _ cb hr.sto hrs hb
    refine opw (by simp [ho]) (yield_run ho hc hv h2) ?_
    refine ⟨by simp [FW], ?_⟩
    refine h3.mono ?_
    rintro e w' ⟨v, r, σ', j', X, rfl, h6, h7, h8, h9, h10, h11⟩
    exact hn _ j' _ w' ((hr.after h8 h6 h9 h10).put o.dst h7) h8 h11

theorem skips_iff {o : Oper} {s : St} {K : St → Prop} {r : AV} (h : K (s.put o.dst (.iff false r))) : Skips o s K :=
  ⟨_, h, fun _ _ _ _ hr => hr.put o.dst (.iff (fun ht => by cases ht) (fun _ => rfl))⟩

theorem opA_sound {P : Program} {gd g : Bool} {o : Oper} {s : St} {K : St → Prop} (h : opA P false gd g o s K) (hgd : gd = false → g = true) : (g = true → Runs P o s K) ∧ (g = false → Skips o s K) := by
  have eff : ∀ {E : (St → Prop) → Prop}, effG false gd g o s K E → (E K → Runs P o s K) → (g = true → Runs P o s K) ∧ (g = false → Skips o s K) := by
    intro E he hE
    have := effG_sound (P := P) he hgd hE
    exact ⟨this.1, fun hg => skips_del (this.2 hg)⟩
  have pureK : ∀ {op : Op}, o.op = op → pv P g s op (fun av => K (s.put o.dst (wrapG gd g av))) → (g = true → Runs P o s K) ∧ (g = false → Skips o s K) := by
    intro op ho hp
    have hd := pv_nodefer hp
    obtain ⟨av, h1, h2⟩ := pv_sound hp
    rw [← ho] at h2 hd
    exact ⟨fun hg => runs_of_yldG hd hg h2 h1, fun hg => skips_wrap hgd hg h1⟩
  unfold opA at h
  split at h
  · -- box
    rename_i t x ho
    refine eff h fun h => ?_
    obtain ⟨av, h, hx⟩ := arg_sound h
    obtain ⟨hone, hK⟩ := h
    intro j0 j a w next Q hr hn
    have h1 := hx rfl j0 j a w hr
    obtain ⟨h2, h3⟩ := cellsOf_rel h1 hone
    obtain ⟨g1, g2, g3⟩ := hr.newVar (a.eval x).cells t h2 (fun k hk => (h3 k hk).1)
    have hrun : (execOp a.eval o).run P w = .ok (.value (.pointer (some ⟨w.heap.size, 0, none⟩))) (w.alloc (.cells (a.eval x).cells t)) := by
      simp [execOp, ho, Instr.box, Go.newVar, newRow]
    refine opw (by simp [ho]) hrun ?_
    exact hn _ _ _ _ (g1.put o.dst g3) g2 hK
  · -- alloc
    rename_i t ho
    refine eff h fun h => ?_
    split at h
    · rename_i z hz
      intro j0 j a w next Q hr hn
      have hz' : ∃ i zz, P.info? t = some i ∧ i.zero = some zz ∧ zz.cells.toList = z := by
        unfold zeroA at hz
        split at hz
        · rename_i i hi
          split at hz
          · rename_i zz hzz
            simp only [Option.some.injEq] at hz
            exact ⟨i, zz, hi, hzz, hz⟩
          · simp at hz
        · simp at hz
      obtain ⟨i, zz, hi, hzz, rfl⟩ := hz'
      obtain ⟨g1, g2, g3⟩ := hr.newVar (cs := zz.cells.toList.map fun v => .d (.v v)) zz.cells t (by simp) (fun k hk => by
        simp only [List.length_map, Array.length_toList] at hk
        have e1 : (zz.cells.toList.map fun v => AV.d (.v v)).getD k .undef = .d (.v (zz.cells.getD k Go.undef)) := by
          simp [List.getD_eq_getElem?_getD, Array.getD_eq_getD_getElem?, hk]
        rw [e1]; exact .d (.v _))
      have hrun : (execOp a.eval o).run P w = .ok (.value (.pointer (some ⟨w.heap.size, 0, none⟩))) (w.alloc (.cells zz.cells t)) := by
        simp [execOp, ho, Instr.alloc, zeroValue, typeInfo, hi, hzz, Go.newVar, newRow]
      refine opw (by simp [ho]) hrun ?_
      exact hn _ _ _ _ (g1.put o.dst g3) g2 h
    · exact h.elim
  · -- store
    rename_i t p v ho
    refine eff h fun h => ?_
    obtain ⟨pa, h, hp⟩ := arg_sound h
    obtain ⟨va, h, hv⟩ := arg_sound h
    unfold storeA at h
    split at h
    · rename_i agg m ht
      obtain ⟨hone, hlen, h⟩ := h
      split at h
      · rename_i side σ' hst
        obtain ⟨hside, hK⟩ := h
        intro j0 j a w next Q hr hn
        obtain ⟨w', h1, h2, h3⟩ := store_sound (P := P) hr.sto ht (hp rfl j0 j a w hr) (hv rfl j0 j a w hr) hone hlen hst hside
        have hrun : (execOp a.eval o).run P w = .ok .skip w' := by simp [execOp, ho, h1]
        refine opw (by simp [ho]) hrun ?_
        have := hr.after h3 h2 (Nat.le_refl _) (.refl _ [])
        exact hn _ _ _ _ (this.put o.dst (.undef _)) h3 hK
      · exact h.elim
    · exact h.elim
  · -- buildSlice
    rename_i t len ps ho
    refine eff h fun h => ?_
    obtain ⟨parts, h, hl, hp⟩ := partsA_sound h
    intro j0 j a w next Q hr hn
    obtain ⟨v, w', r, h1, h2, h3, h4, h5⟩ := buildSlice_sound (P := P) (vals := ps.toList.map fun p => (p.1, a.eval p.2)) hr.sto h (by simpa using hl) (fun k hk => by
      have hk' : k < ps.toList.length := by rw [← hl]; exact hk
      have := hp k hk'
      have e : (ps.toList.map fun p => (p.1, a.eval p.2)).getD k (0, Go.undef) = ((ps.toList.getD k (0, .const Go.undef)).1, a.eval (ps.toList.getD k (0, .const Go.undef)).2) := by
        have hk2 : k < ps.size := by simpa using hk'
        simp [List.getD_eq_getElem?_getD, hk2]
      rw [e]
      exact ⟨this.1, this.2 rfl j0 j a w hr⟩)
    have e : (ps.toList.map fun p => (p.1, a.eval p.2)).toArray = ps.map fun (i, x) => (i, a.eval x) := by
      apply Array.ext'; simp
    rw [e] at h1
    have hrun : (execOp a.eval o).run P w = .ok (.value v) w' := by
      simp only [execOp, ho]; exact run_v h1
    refine opw (by simp [ho]) hrun ?_
    have := hr.after h4 h2 (Nat.le_refl _) (.refl _ [])
    exact hn _ _ _ _ (this.put o.dst h3) h4 h5
  · -- makeSlice
    rename_i t l c ho
    refine eff h fun h => ?_
    obtain ⟨la, h, hl⟩ := arg_sound h
    split at h
    · obtain ⟨ca, h, hc⟩ := arg_sound h
      split at h
      · intro j0 j a w next Q hr hn
        obtain ⟨v, w', j', r, σ', h1, h2, h3, h4, h5, h6, h7⟩ := make_sound (P := P) hr.sto h
        have e1 := R_v (hl rfl j0 j a w hr)
        have e2 := R_v (hc rfl j0 j a w hr)
        have hrun : (execOp a.eval o).run P w = .ok (.value v) w' := by
          simp only [execOp, ho, e1, e2]; exact run_v h1
        refine opw (by simp [ho]) hrun ?_
        exact hn _ _ _ _ ((hr.after h4 h2 h5 h6).put o.dst h3) h4 h7
      · exact h.elim
    · exact h.elim
  · -- binOp
    rename_i op t x y ty ho
    split at h
    · rename_i hsl
      refine eff h fun h => ?_
      have hu : ∃ e, P.underlying t = some (.slice e) := by
        unfold isSlT at hsl
        split at hsl
        · exact ⟨_, by assumption⟩
        · simp at hsl
      obtain ⟨e, hu⟩ := hu
      have eqrun : ∀ (w : World) (p : Option Addr) (n c : Nat), (Op.equal t (.slice p n c) (.slice none 0 0)).run P w = .ok p.isNone w := by
        intro w p n c
        show (Op.equalIn (9999 + 1) t _ _).run P w = _
        rw [Op.equalIn]
        cases p <;> simp [underlying, hu]
      have main : ∀ (neg : Bool) (hop : op = if neg then .neq else .eql) (hy : y = .const (.slice none 0 0)), (arg true s x fun a => nilEqA neg a fun r => K (s.put o.dst r)) → Runs P o s K := by
        intro neg hop hy h
        obtain ⟨xa, h, hx⟩ := arg_sound h
        intro j0 j a w next Q hr hn
        have h1 := hx rfl j0 j a w hr
        have hrun : ∀ (p : Option Addr) (n c : Nat), a.eval x = .slice p n c → (execOp a.eval o).run P w = .ok (.value (.bool (p.isNone != neg))) w := by
          intro p n c hp
          subst hy
          cases neg with
          | false =>
            simp only [Bool.false_eq_true, if_false] at hop
            subst hop
            simp only [execOp, ho, hp]
            have : (do eqGuard .eql t x (.const (.slice none 0 0)) (.slice p n c) (a.eval (.const (.slice none 0 0))); binOp .eql t (.slice p n c) (a.eval (.const (.slice none 0 0))) : Sem Value).run P w = .ok (.bool p.isNone) w := by
              rw [Sem.run_bind, run_eqGuard (by simp) (by simp)]
              show (do pure (Value.bool (← Op.equal t (.slice p n c) (.slice none 0 0))) : Sem Value).run P w = _
              simp [eqrun]
            have := run_v this
            simpa using this
          | true =>
            simp only [if_true] at hop
            subst hop
            simp only [execOp, ho, hp]
            have : (do eqGuard .neq t x (.const (.slice none 0 0)) (.slice p n c) (a.eval (.const (.slice none 0 0))); binOp .neq t (.slice p n c) (a.eval (.const (.slice none 0 0))) : Sem Value).run P w = .ok (.bool !p.isNone) w := by
              rw [Sem.run_bind, run_eqGuard (by simp) (by simp)]
              show (do pure (Value.bool (!(← Op.equal t (.slice p n c) (.slice none 0 0)))) : Sem Value).run P w = _
              simp [eqrun]
            have := run_v this
            simpa using this
        unfold nilEqA at h
        split at h
        · generalize hv : a.eval x = u at h1
          cases h1 with | d h1 =>
          cases h1 with
          | sl ad c val hcap hle ha hlt hb hlen hcell hrel =>
            refine opw (by simp [ho]) (hrun _ _ _ hv) ?_
            exact hn _ _ _ _ (hr.put o.dst (.d (.v _))) (.refl _ _) (h false (by simp))
          | zero p c hcap hp =>
            refine opw (by simp [ho]) (hrun _ _ _ hv) ?_
            exact hn _ _ _ _ (hr.put o.dst (.d (.v _))) (.refl _ _) (h p.isNone (fun _ => rfl))
        · generalize hv : a.eval x = u at h1
          cases h1 with
          | ms c e m h1 h2 h3 h4 =>
            refine opw (by simp [ho]) (hrun _ _ _ hv) ?_
            exact hn _ _ _ _ (hr.put o.dst (.d (.v _))) (.refl _ _) (h false (by simp))
          | ms0 p h1 =>
            refine opw (by simp [ho]) (hrun _ _ _ hv) ?_
            exact hn _ _ _ _ (hr.put o.dst (.d (.v _))) (.refl _ _) (h p.isNone (fun _ => rfl))
        · have := R_v h1
          refine opw (by simp [ho]) (hrun _ _ _ this) ?_
          refine hn _ _ _ _ (hr.put o.dst (.d (.v _))) (.refl _ _) ?_
          simpa using h
        · exact h.elim
      split at h
      · exact main false rfl rfl h
      · exact main true rfl rfl h
      · exact h.elim
    · exact pureK ho h
  · -- call
    rename_i c ho
    split at h
    · rename_i b hb
      split at h
      · refine eff h fun h => ?_
        split at h
        · rename_i x y t t' hxy ht
          obtain ⟨xa, h, hx⟩ := arg_sound h
          obtain ⟨ya, h, hy⟩ := arg_sound h
          intro j0 j a w next Q hr hn
          obtain ⟨v, w', j', r, σ', X, h1, h2, h3, h4, h5, h6, h7⟩ := append_sound (P := P) (ty := o.type) hr.sto h (hx rfl j0 j a w hr) (hy rfl j0 j a w hr)
          have hrun : (execOp a.eval o).run P w = .ok (.value v) w' := by
            have e1 : c.args.map a.eval = #[a.eval x, a.eval y] := by
              have : c.args = #[x, y] := by apply Array.ext'; simpa using hxy
              rw [this]; simp
            have e2 : c.argTypes = #[t, t'] := by apply Array.ext'; simpa using ht
            simp only [execOp, ho, resolve, hb]
            simp [invoke, builtin, e1, e2, h1]
          refine opw (by simp [ho]) hrun ?_
          exact hn _ _ _ _ ((hr.after h4 h2 h5 h6).put o.dst h3) h4 h7
        · exact h.elim
      · refine eff h fun h => ?_
        split at h
        · rename_i x t hxy ht
          obtain ⟨xa, h, hx⟩ := arg_sound h
          intro j0 j a w next Q hr hn
          obtain ⟨w', σ', h1, h2, h3, h4⟩ := clear_sound (P := P) (ty := o.type) hr.sto h (hx rfl j0 j a w hr)
          have hrun : (execOp a.eval o).run P w = .ok (.value (.tuple #[])) w' := by
            have e1 : c.args.map a.eval = #[a.eval x] := by
              have : c.args = #[x] := by apply Array.ext'; simpa using hxy
              rw [this]; simp
            have e2 : c.argTypes = #[t] := by apply Array.ext'; simpa using ht
            simp only [execOp, ho, resolve, hb]
            simp [invoke, builtin, e1, e2, h1]
          refine opw (by simp [ho]) hrun ?_
          exact hn _ _ _ _ ((hr.after h3 h2 (Nat.le_refl _) (.refl _ [])).put o.dst (.tup #[] rfl (by simp))) h3 h4
        · exact h.elim
      · exact pureK ho h
    · rename_i f hf
      obtain ⟨fa, h, hfa⟩ := arg_sound h
      split at h
      · obtain ⟨as, h, hl, ha⟩ := args_sound h
        simp only at h
        split at h
        · rcases h with ⟨r, h1, h2⟩ | ⟨r0, h1, h2⟩
          · refine ⟨fun hg => ?_, fun hg => skips_wrap hgd hg h2⟩
            exact runs_call hg ho hf hfa hl ha true ((h1 hg).cs h2)
          · exact ⟨fun hg => runs_call hg ho hf hfa hl ha false (h1 hg), fun hg => skips_iff (h2 hg)⟩
        · have hg := hgd rfl
          exact ⟨fun hg => runs_call hg ho hf hfa hl ha false h, fun hg' => by rw [hg] at hg'; cases hg'⟩
      · obtain ⟨as, h, hl, ha⟩ := args_sound h
        simp only at h
        split at h
        · obtain ⟨r0, h1, h2⟩ := h
          exact ⟨fun hg => runs_yield hg ho hf hfa hl ha (h1 hg), fun hg => skips_iff (h2 hg)⟩
        · have hg := hgd rfl
          exact ⟨fun hg => runs_yield hg ho hf hfa hl ha h, fun hg' => by rw [hg] at hg'; cases hg'⟩
      · exact h.elim
    · exact h.elim
  · exact pureK rfl h


theorem evalOps_sound {P : Program} {Q : Exit → Act → World → Prop} {all : List Oper} : ∀ {os : List Oper} {s : St} {K : St → Prop} {j0 : J0} {j : Js} {a : Act} {w : World}, evalOps P false all os s K → Rel j0 s j a w →
    (∀ s' j' a' w', Rel j0 s' j' a' w' → Ev j w j' w' → K s' → Q .normal a' w') → wpListIn (FW j0.rd) 0 P all.toArray Q os a w
  | [], s, K, j0, j, a, w, h, hr, hQ => hQ s j a w hr (.refl _ _) h
  | o :: os, s, K, j0, j, a, w, h, hr, hQ => by
    obtain ⟨gd, g, h, hgd, hw⟩ := guard_sound h
    obtain ⟨h1, h2⟩ := opA_sound h hgd
    have hw := hw hr
    simp only [wpListIn, hw]
    cases g with
    | true =>
      simp only [if_true]
      exact (h1 rfl j0 j a w _ _ hr fun s' j' a' w' hr' he hK => evalOps_sound hK hr' fun s'' j'' a'' w'' hr'' he' hK' => hQ s'' j'' a'' w'' hr'' (he.trans he') hK')
    | false =>
      simp only [Bool.false_eq_true, if_false]
      obtain ⟨s', hK, hs⟩ := h2 rfl
      exact ⟨fun _ _ => trivial, evalOps_sound hK (hs j0 j a w hr) hQ⟩

theorem awp_region {P : Program} {Q : Exit → St → Prop} {s : St} {id : Nat} {ops : List Oper} (h : evalOps P false ops ops s (Q .normal)) : AWP P (.region id ops.toArray false) Q s := by
  intro j0 j a w hr
  refine wpIn_region_lit (evalOps_sound h hr fun s' j' a' w' hr' he hq => ⟨s', j', hr', he, hq⟩)

end Go.Abs
