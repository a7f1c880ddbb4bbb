/- Abstract values: one operation that only computes and reads ('pv'), evaluated. -/
import Derived.Test.YtplpklikapkloaaAmq
namespace Go.Abs
set_option linter.unusedVariables false
set_option linter.unusedSimpArgs false

/-- an array type: how many elements, and how many cells one has -/
def arA (P : Program) (t : TypeId) : Option (Nat × Nat) :=
  match P.underlying t with
  | some (.array n e) => match P.info? e with
    | some i => some (n, i.size)
    | none => none
  | _ => none

def indexArrA (P : Program) (g : Bool) (t : TypeId) (x : AV) (i : Int) (K : AV → Prop) : Prop :=
  match arA P t with
  | some (n, m) => (g = true → 0 ≤ i ∧ i < n) ∧ (match x with
    | .ptr b off => K (.ptr b (off + i.toNat * m))
    | .pe b sz r k => K (.pe b sz r (k + i.toNat * m))
    | .el cs => K (.el (cs.drop (i.toNat * m)))
    | _ => False)
  | none => False

theorem indexArr_sound {P : Program} {g : Bool} {t : TypeId} {a : AV} {k : IntKind} {i : Int} {K : AV → Prop} (h : indexArrA P g t a i K) {s : St} {x y : Operand} (hx : Arg g s x a) (hy : Arg g s y (.d (.v (.int k i)))) :
    ∃ av, K av ∧ Yld P g s (.indexAddr t x y) av := by
  unfold indexArrA at h
  split at h
  · rename_i n m hA
    obtain ⟨hs, h⟩ := h
    have hA' : ∃ e inf, P.underlying t = some (.array n e) ∧ P.info? e = some inf ∧ inf.size = m := by
      unfold arA at hA
      split at hA
      · rename_i n' e hu
        split at hA
        · rename_i inf hi
          simp only [Option.some.injEq, Prod.mk.injEq] at hA
          obtain ⟨rfl, rfl⟩ := hA
          exact ⟨e, inf, hu, hi, rfl⟩
        · simp at hA
      · simp at hA
    obtain ⟨e, inf, hu, hi, hm⟩ := hA'
    have base : ∀ {av : AV}, (∀ j w u, R w j a u → ∃ ad, u = .pointer (some ad) ∧ R w j av (.pointer (some (ad.add (i.toNat * m))))) → Yld P g s (.indexAddr t x y) av := by
      intro av hh hg j0 j a w op ho hrel
      obtain ⟨h0, h1⟩ := hs hg
      have h2 := R_v (hy hg j0 j a w hrel)
      obtain ⟨ad, h3, h4⟩ := hh j w _ (hx hg j0 j a w hrel)
      refine ⟨_, ?_, h4⟩
      simp only [execOp, ho, h2, h3]
      exact run_v (by simp [Instr.indexAt, asIntOf, underlying, hu, Instr.sureAddr, h0, h1, Go.sizeOf, typeInfo, hi, hm])
    split at h
    · refine ⟨_, h, base fun j w u hr => ?_⟩
      cases hr with
      | ptr hb => exact ⟨_, rfl, by rw [add_off _ rfl]; exact .ptr hb⟩
    · refine ⟨_, h, base fun j w u hr => ?_⟩
      cases hr with
      | pe hb => exact ⟨_, rfl, by rw [add_off _ rfl]; simp only [Nat.add_assoc]; exact .pe hb⟩
    · rename_i cs
      refine ⟨_, h, base fun j w u hr => ?_⟩
      cases hr with
      | el ad val ha hlt hb hcell hrel =>
        refine ⟨_, rfl, ?_⟩
        rw [add_off _ ha]
        generalize i.toNat * m = o
        refine .el _ (fun k => val (o + k)) rfl hlt hb (fun k hk => ?_) (fun k hk => ?_)
        · simp only [List.length_drop] at hk
          have := hcell (o + k) (by omega)
          rw [← Nat.add_assoc] at this; exact this
        · simp only [List.length_drop] at hk
          have := hrel (o + k) (by omega)
          have e1 : (cs.drop o).getD k default = cs.getD (o + k) default := by simp [List.getD_eq_getElem?_getD]
          rw [e1]; exact this
    · exact h.elim
  · exact h.elim

def isArr (P : Program) (t : TypeId) : Bool := match P.underlying t with | some (.array _ _) => true | _ => false

def pv (P : Program) (g : Bool) (s : St) (op : Op) (K : AV → Prop) : Prop :=
  match op with
  | .move x => arg g s x K
  | .assign x => arg g s x K
  | .pick c x y => arg g s c fun
    | .d (.v (.bool b)) => arg (g && b) s x fun
      | .d (.v (.bool p)) => arg (g && !b) s y fun
        | .d (.v (.bool q)) => K (.d (.v (.bool (cond b p q))))
        | _ => False
      | _ => False
    | _ => False
  | .binOp op t x y _ => arg g s x fun a => arg g s y fun b => bin P g op t a b K
  | .unOp op _ x => arg g s x fun a => un op a K
  | .extract x i => arg g s x fun
    | .tup vs => (match vs[i]? with
      | some a => K a
      | none => False)
    | _ => False
  | .fieldAddr t x f => match fieldA P t f with
    | some o => arg g s x fun a => fieldAddrA o a K
    | none => False
  | .field t x f => match fieldVA P t f with
    | some (off, agg, m) => arg g s x fun
      | .agg cs => (agg || Nat.beq m 1) = true ∧ Nat.ble (off + m) cs.length = true ∧ K (loaded agg ((cs.drop off).take m))
      | _ => False
    | none => False
  | .indexAddr t x i => arg g s x fun a => arg g s i fun
    | .d (.v (.int _ n)) => if isArr P t then indexArrA P g t a n K else indexAddrA P g t a n K
    | _ => False
  | .index t x i => arg g s x fun
    | .d (.v (.string b)) => strT P t = true ∧ arg g s i fun
      | .d (.v (.int _ n)) => (g = true → 0 ≤ n ∧ n < b.size) ∧ K (.d (.v (.int .u8 ((b[n.toNat]?).getD 0).toNat)))
      | _ => False
    | .agg cs => (match arV P t with
      | some (q, agg, m) => (agg || Nat.beq m 1) = true ∧ q * m ≤ cs.length ∧ arg g s i fun
        | .d (.v (.int _ n)) => (g = true → 0 ≤ n ∧ n < q) ∧ K (loaded agg ((cs.drop (n.toNat * m)).take m))
        | _ => False
      | none => False)
    | _ => False
  | .load t x => arg g s x fun a => loadA P g t s.σ a K
  | .slice t x lo hi mx => arg g s x fun a => sliceA P g t s a lo hi mx K
  | .build t ps => partsA g s ps.toList fun parts => buildA P t parts K
  | .makeFunc fn f c => args g s f.toList fun fs => args g s c.toList fun cs => K (.clo fn fs cs)
  | .convert src dst x => arg g s x fun
    | .d (.v (.int k n)) => intT P src = some k ∧ (match intT P dst with
      | some k' => K (.d (.v (.int k' (k'.wrap n))))
      | none => False)
    | .d (.v (.string b)) => (strT P dst && strT P src) = true ∧ K (.d (.v (.string b)))
    | _ => False
  | .nilCheck x => arg g s x fun a => nilOk a = true ∧ K a
  | .call c => match c.callee, c.args.toList, c.argTypes.toList with
    | .builtin .len, [x], [t] => arg g s x fun a => lenA P t a K
    | .builtin .min, [x, y], _ => arg g s x fun a => arg g s y fun b => minmaxA false a b K
    | .builtin .max, [x, y], _ => arg g s x fun a => arg g s y fun b => minmaxA true a b K
    | _, _, _ => False
  | _ => False

theorem pv_sound {P : Program} {g : Bool} {s : St} {op : Op} {K : AV → Prop} (h : pv P g s op K) : ∃ av, K av ∧ Yld P g s op av := by
  unfold pv at h
  split at h
  · obtain ⟨av, h1, h2⟩ := arg_sound h; exact ⟨av, h1, move_sound h2⟩
  · obtain ⟨av, h1, h2⟩ := arg_sound h; exact ⟨av, h1, assign_sound h2⟩
  · obtain ⟨av, h, h2⟩ := arg_sound h
    split at h
    · obtain ⟨av, h, h3⟩ := arg_sound h
      split at h
      · obtain ⟨av, h, h4⟩ := arg_sound h
        split at h
        · exact ⟨_, h, pick_sound h2 h3 h4⟩
        · exact h.elim
      · exact h.elim
    · exact h.elim
  · obtain ⟨av, h, h2⟩ := arg_sound h
    obtain ⟨av', h, h3⟩ := arg_sound h
    exact bin_sound h h2 h3
  · obtain ⟨av, h, h2⟩ := arg_sound h
    exact un_sound h h2
  · obtain ⟨av, h, h2⟩ := arg_sound h
    split at h
    · split at h
      · exact ⟨_, h, extract_sound h2 (by assumption)⟩
      · exact h.elim
    · exact h.elim
  · split at h
    · obtain ⟨av, h, h2⟩ := arg_sound h
      exact fieldAddr_sound (by assumption) h h2
    · exact h.elim
  · split at h
    · rename_i off agg m hf
      obtain ⟨av, h, h2⟩ := arg_sound h
      split at h
      · obtain ⟨g1, g2, g3⟩ := h
        refine ⟨_, g3, field_sound hf (fun ha => ?_) (by simpa using g2) h2⟩
        subst ha; exact Nat.eq_of_beq_eq_true (by simpa using g1)
      · exact h.elim
    · exact h.elim
  · obtain ⟨av, h, h2⟩ := arg_sound h
    obtain ⟨av', h, h3⟩ := arg_sound h
    split at h
    · split at h
      · exact indexArr_sound h h2 h3
      · exact indexAddr_sound h h2 h3
    · exact h.elim
  · obtain ⟨av, h, h2⟩ := arg_sound h
    split at h
    · obtain ⟨ht, h⟩ := h
      obtain ⟨av', h, h3⟩ := arg_sound h
      split at h
      · exact ⟨_, h.2, index_str ht h.1 h2 h3⟩
      · exact h.elim
    · split at h
      · rename_i ht
        obtain ⟨hm, hl, h⟩ := h
        obtain ⟨av', h, h3⟩ := arg_sound h
        split at h
        · exact ⟨_, h.2, index_arr ht hm hl h.1 h2 h3⟩
        · exact h.elim
      · exact h.elim
    · exact h.elim
  · obtain ⟨av, h, h2⟩ := arg_sound h
    exact load_sound h h2
  · obtain ⟨av, h, h2⟩ := arg_sound h
    exact slice_sound h h2
  · exact build_sound h
  · obtain ⟨fs, h, h2, h3⟩ := args_sound h
    obtain ⟨cs, h, h4, h5⟩ := args_sound h
    exact ⟨_, h, makeFunc_sound ⟨h2, h3⟩ ⟨h4, h5⟩⟩
  · obtain ⟨av, h, h2⟩ := arg_sound h
    split at h
    · obtain ⟨hs, h⟩ := h
      split at h
      · exact ⟨_, h, convert_int (by assumption) hs h2⟩
      · exact h.elim
    · obtain ⟨hs, h⟩ := h
      simp only [Bool.and_eq_true] at hs
      exact ⟨_, h, convert_str hs.1 hs.2 h2⟩
    · exact h.elim
  · obtain ⟨av, h, h2⟩ := arg_sound h
    exact ⟨_, h.2, nilCheck_sound h2 h.1⟩
  · rename_i c
    have hc : c = { callee := c.callee, args := c.args.toList.toArray, argTypes := c.argTypes.toList.toArray } := by cases c; simp
    split at h
    · rename_i e1 e2 e3
      obtain ⟨av, h, h2⟩ := arg_sound h
      rw [hc, e1, e2, e3]
      exact len_sound h h2 _ rfl
    · rename_i e1 e2
      obtain ⟨av, h, h2⟩ := arg_sound h
      obtain ⟨av', h, h3⟩ := arg_sound h
      rw [hc, e1, e2]
      exact minmax_sound (mx := false) h h2 h3 _
    · rename_i e1 e2
      obtain ⟨av, h, h2⟩ := arg_sound h
      obtain ⟨av', h, h3⟩ := arg_sound h
      rw [hc, e1, e2]
      exact minmax_sound (mx := true) h h2 h3 _
    · exact h.elim
  · exact h.elim

theorem pv_nodefer {P : Program} {g : Bool} {s : St} {op : Op} {K : AV → Prop} (h : pv P g s op K) : ∀ c, op ≠ .defer c := by
  intro c hc
  subst hc
  exact h

end Go.Abs
