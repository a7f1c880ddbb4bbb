/- Abstract values: the other operations that only compute and read; all of them in one function, 'pv'. -/
import Derived.Test.YtplpklikapkloaaAd
namespace Go.Abs
set_option linter.unusedVariables false
set_option linter.unusedSimpArgs false

section
variable {P : Program} {g : Bool} {s : St}

theorem move_sound {x : Operand} {av : AV} (hx : Arg g s x av) : Yld P g s (.move x) av :=
  fun hg j0 j a w o ho hrel => ⟨_, by simp [execOp, ho], hx hg j0 j a w hrel⟩
theorem assign_sound {x : Operand} {av : AV} (hx : Arg g s x av) : Yld P g s (.assign x) av :=
  fun hg j0 j a w o ho hrel => ⟨_, by simp [execOp, ho], hx hg j0 j a w hrel⟩

theorem pick_sound {c x y : Operand} {b p q : Bool} (hc : Arg g s c (.d (.v (.bool b)))) (hx : Arg (g && b) s x (.d (.v (.bool p)))) (hy : Arg (g && !b) s y (.d (.v (.bool q)))) :
    Yld P g s (.pick c x y) (.d (.v (.bool (cond b p q)))) := by
  intro hg j0 j a w o ho hrel
  have h1 := R_v (hc hg j0 j a w hrel)
  refine ⟨_, ?_, .d (.v _)⟩
  cases b with
  | true =>
    have h2 := R_v (hx (by simp [hg]) j0 j a w hrel)
    simp [execOp, ho, h1, asBool, h2]
  | false =>
    have h2 := R_v (hy (by simp [hg]) j0 j a w hrel)
    simp [execOp, ho, h1, asBool, h2]

theorem extract_sound {x : Operand} {i : Nat} {vs : List AV} {av : AV} (hx : Arg g s x (.tup vs)) (hi : vs[i]? = some av) : Yld P g s (.extract x i) av := by
  intro hg j0 j a w o ho hrel
  have h1 := hx hg j0 j a w hrel
  simp only [execOp, ho]
  generalize a.eval x = u at h1
  cases h1 with
  | tup us hs h =>
    obtain ⟨hlt, he⟩ := List.getElem?_eq_some_iff.1 hi
    have h2 := h i hlt
    have h3 : vs.getD i .undef = av := by simp [List.getD_eq_getElem?_getD, hi]
    rw [h3] at h2
    obtain ⟨h4, h5⟩ := arr_get (us := us) (i := i) (by omega)
    rw [h5] at h2
    exact ⟨us[i], by simp [Instr.extract, h4], h2⟩

/-- a part of a struct's value -/
def fieldVA (P : Program) (t : TypeId) (f : Nat) : Option (Nat × Bool × Nat) :=
  match P.underlying t with
  | some (.struct fs) => match fs[f]? with
    | some fd => match tyA P fd.type with
      | some (agg, m) => some (fd.offset, agg, m)
      | none => none
    | none => none
  | _ => none

theorem field_sound {t : TypeId} {x : Operand} {f off m : Nat} {agg : Bool} (hf : fieldVA P t f = some (off, agg, m)) (hm : agg = false → m = 1) {cs : List AV} (hlt : off + m ≤ cs.length) (hx : Arg g s x (.agg cs)) :
    Yld P g s (.field t x f) (loaded agg ((cs.drop off).take m)) := by
  intro hg j0 j a w o ho hrel
  have h1 := hx hg j0 j a w hrel
  simp only [execOp, ho]
  generalize a.eval x = u at h1
  unfold fieldVA at hf
  split at hf
  · rename_i fs hu
    split at hf
    · rename_i fd hfd
      split at hf
      · rename_i ag mm ht
        simp only [Option.some.injEq, Prod.mk.injEq] at hf
        obtain ⟨rfl, rfl, rfl⟩ := hf
        cases h1 with
        | agg us hs h =>
          obtain ⟨v, h2, h3⟩ := part_sound (P := P) (off := fd.offset) ht hm hs h hlt
          exact ⟨v, by simp [Instr.field, underlying, hu, hfd, asAgg, h2], h3⟩
      · simp at hf
    · simp at hf
  · simp at hf

theorem makeFunc_sound {fn : Fn} {f c : Array Operand} {fs cs : List AV} (hf : fs.length = f.toList.length ∧ ∀ k, k < f.toList.length → Arg g s (f.toList.getD k (.const Go.undef)) (fs.getD k .undef)) (hc : cs.length = c.toList.length ∧ ∀ k, k < c.toList.length → Arg g s (c.toList.getD k (.const Go.undef)) (cs.getD k .undef)) :
    Yld P g s (.makeFunc fn f c) (.clo fn fs cs) := by
  intro hg j0 j a w o ho hrel
  refine ⟨.func fn (f.map a.eval) (c.map a.eval), by simp [execOp, ho, Instr.makeFunc], .clo _ _ (by simp; simpa using hf.1.symm) (by simp; simpa using hc.1.symm) (fun k hk => ?_) (fun k hk => ?_)⟩
  · have hk' : k < f.toList.length := by rw [← hf.1]; exact hk
    have := hf.2 k hk' hg j0 j a w hrel
    have hk2 : k < f.size := by simpa using hk'
    simpa [Array.getD_eq_getD_getElem?, List.getD_eq_getElem?_getD, hk2] using this
  · have hk' : k < c.toList.length := by rw [← hc.1]; exact hk
    have := hc.2 k hk' hg j0 j a w hrel
    have hk2 : k < c.size := by simpa using hk'
    simpa [Array.getD_eq_getD_getElem?, List.getD_eq_getElem?_getD, hk2] using this

/-! len, min, max -/
def lenT (P : Program) (t : TypeId) : Nat :=
  match P.underlying t with
  | some (.slice _) => 1
  | some .string => 2
  | _ => 0

def lenA (P : Program) (t : TypeId) (x : AV) (K : AV → Prop) : Prop :=
  match x with
  | .d (.sl _ _ n _) => Nat.beq (lenT P t) 1 = true ∧ K (.d (.v (.int .i64 n)))
  | .d (.v (.slice _ n _)) => Nat.beq (lenT P t) 1 = true ∧ K (.d (.v (.int .i64 n)))
  | .ms _ _ _ n => Nat.beq (lenT P t) 1 = true ∧ K (.d (.v (.int .i64 n)))
  | .d (.v (.string b)) => Nat.beq (lenT P t) 2 = true ∧ K (.d (.v (.int .i64 b.size)))
  | _ => False

theorem lenT_1 {t : TypeId} (h : Nat.beq (lenT P t) 1 = true) : ∃ e, P.underlying t = some (.slice e) := by
  unfold lenT at h
  split at h
  · exact ⟨_, by assumption⟩
  · simp at h
  · simp at h

theorem lenT_2 {t : TypeId} (h : Nat.beq (lenT P t) 2 = true) : P.underlying t = some .string := by
  unfold lenT at h
  split at h
  · simp at h
  · assumption
  · simp at h

theorem len_sound {t : TypeId} {x : Operand} {a : AV} {K : AV → Prop} (h : lenA P t a K) (hx : Arg g s x a) (at_ : Array TypeId) (hat : at_ = #[t]) : ∃ av, K av ∧ Yld P g s (.call { callee := .builtin .len, args := #[x], argTypes := at_ }) av := by
  subst hat
  have base : ∀ n : Int, (∀ (j : Js) (w : World) u, R w j a u → (Builtin.len_ #[t] 0 #[u]).run P w = .ok (.int .i64 n) w) → Yld P g s (.call { callee := .builtin .len, args := #[x], argTypes := #[t] }) (.d (.v (.int .i64 n))) := by
    intro n hh hg j0 j a w o ho hrel
    have h1 := hh j w _ (hx hg j0 j a w hrel)
    refine ⟨.int .i64 n, ?_, .d (.v _)⟩
    have h2 : (Builtin.len_ #[t] o.type #[a.eval x]).run P w = .ok (.int .i64 n) w := h1
    simp [execOp, ho, resolve, invoke, builtin, h2]
  unfold lenA at h
  split at h
  · obtain ⟨ht, hK⟩ := h
    obtain ⟨e, hu⟩ := lenT_1 ht
    refine ⟨_, hK, base _ fun j w u hr => ?_⟩
    cases hr with | d hr =>
    cases hr <;> simp [Builtin.len_, underlying, hu, goInt]
  · obtain ⟨ht, hK⟩ := h
    obtain ⟨e, hu⟩ := lenT_1 ht
    refine ⟨_, hK, base _ fun j w u hr => ?_⟩
    have := R_v hr
    subst this
    simp [Builtin.len_, underlying, hu, goInt]
  · obtain ⟨ht, hK⟩ := h
    obtain ⟨e, hu⟩ := lenT_1 ht
    refine ⟨_, hK, base _ fun j w u hr => ?_⟩
    cases hr <;> simp [Builtin.len_, underlying, hu, goInt]
  · obtain ⟨ht, hK⟩ := h
    have hu := lenT_2 ht
    refine ⟨_, hK, base _ fun j w u hr => ?_⟩
    have := R_v hr
    subst this
    simp [Builtin.len_, underlying, hu, goInt]
  · exact h.elim

def minmaxA (mx : Bool) (x y : AV) (K : AV → Prop) : Prop :=
  match x, y with
  | .d (.v (.int k a)), .d (.v (.int k' b)) => K (.d (.v (.int k (if mx then max a b else min a b))))
  | _, _ => False

theorem minmax_sound {mx : Bool} {x y : Operand} {a b : AV} {K : AV → Prop} (h : minmaxA mx a b K) (hx : Arg g s x a) (hy : Arg g s y b) (at_ : Array TypeId) : ∃ av, K av ∧ Yld P g s (.call { callee := .builtin (if mx then .max else .min), args := #[x, y], argTypes := at_ }) av := by
  unfold minmaxA at h
  split at h
  · rename_i k m k' n
    rw [show (if mx then max m n else min m n) = (if mx then (if m < n then n else m) else (if n < m then n else m)) by
      cases mx
      · simp only [Bool.false_eq_true, if_false]; split <;> omega
      · simp only [if_true]; split <;> omega] at h
    refine ⟨_, h, fun hg j0 j a w o ho hrel => ⟨_, ?_, .d (.v _)⟩⟩
    have h1 := R_v (hx hg j0 j a w hrel)
    have h2 := R_v (hy hg j0 j a w hrel)
    cases mx
    · simp [execOp, ho, resolve, invoke, builtin, Builtin.min_, Builtin.min2, h1, h2]
    · simp [execOp, ho, resolve, invoke, builtin, Builtin.max_, Builtin.max2, h1, h2]
  · exact h.elim

/-! conversions of integers -/
def intT (P : Program) (t : TypeId) : Option IntKind := match P.underlying t with | some (.int k) => some k | _ => none

theorem convert_int {src dst : TypeId} {k k' : IntKind} {n : Int} {x : Operand} (hd : intT P dst = some k') (hs : intT P src = some k) (hx : Arg g s x (.d (.v (.int k n)))) : Yld P g s (.convert src dst x) (.d (.v (.int k' (k'.wrap n)))) := by
  intro hg j0 j a w o ho hrel
  have h1 := R_v (hx hg j0 j a w hrel)
  have hu : P.underlying dst = some (.int k') := by
    unfold intT at hd; split at hd <;> simp_all
  have hv : P.underlying src = some (.int k) := by
    unfold intT at hs; split at hs <;> simp_all
  exact ⟨_, by simp [execOp, ho, h1, convert, underlying, hu, hv, Conv.intToInt], .d (.v _)⟩

def strT (P : Program) (t : TypeId) : Bool := match P.underlying t with | some .string => true | _ => false

theorem convert_str {src dst : TypeId} {b : ByteArray} {x : Operand} (hd : strT P dst = true) (hs : strT P src = true) (hx : Arg g s x (.d (.v (.string b)))) : Yld P g s (.convert src dst x) (.d (.v (.string b))) := by
  intro hg j0 j a w o ho hrel
  have h1 := R_v (hx hg j0 j a w hrel)
  have hu : P.underlying dst = some .string := by
    unfold strT at hd; split at hd <;> simp_all
  have hv : P.underlying src = some .string := by
    unfold strT at hs; split at hs <;> simp_all
  exact ⟨_, by simp [execOp, ho, h1, convert, underlying, hu, hv], .d (.v _)⟩

/-! a byte of a string -/
theorem index_str {t : TypeId} (ht : strT P t = true) {b : ByteArray} {k : IntKind} {i : Int} {x y : Operand} (hi : g = true → 0 ≤ i ∧ i < b.size) (hx : Arg g s x (.d (.v (.string b)))) (hy : Arg g s y (.d (.v (.int k i)))) :
    Yld P g s (.index t x y) (.d (.v (.int .u8 ((b[i.toNat]?).getD 0).toNat))) := by
  intro hg j0 j a w o ho hrel
  have h1 := R_v (hx hg j0 j a w hrel)
  have h2 := R_v (hy hg j0 j a w hrel)
  have hu : P.underlying t = some .string := by
    unfold strT at ht; split at ht <;> simp_all
  obtain ⟨h3, h4⟩ := hi hg
  have h5 : b[i.toNat]? = some (b[i.toNat]'(by omega)) := getElem?_pos b i.toNat (by omega)
  exact ⟨_, by simp [execOp, ho, h1, h2, Instr.index, asIntOf, underlying, hu, h3, h5], .d (.v _)⟩

/-- an array type: how many elements, is one an aggregate, how many cells one has -/
def arV (P : Program) (t : TypeId) : Option (Nat × Bool × Nat) :=
  match P.underlying t with
  | some (.array n e) => match tyA P e with
    | some (agg, m) => some (n, agg, m)
    | none => none
  | _ => none
theorem index_arr {t : TypeId} {n m : Nat} {agg : Bool} (ht : arV P t = some (n, agg, m)) (hm : (agg || Nat.beq m 1) = true) {cs : List AV} (hl : n * m ≤ cs.length) {k : IntKind} {i : Int} {x y : Operand} (hi : g = true → 0 ≤ i ∧ i < n) (hx : Arg g s x (.agg cs)) (hy : Arg g s y (.d (.v (.int k i)))) :
    Yld P g s (.index t x y) (loaded agg ((cs.drop (i.toNat * m)).take m)) := by
  intro hg j0 j a w o ho hrel
  have h1 := hx hg j0 j a w hrel
  have h2 := R_v (hy hg j0 j a w hrel)
  have hu : ∃ e, P.underlying t = some (.array n e) ∧ tyA P e = some (agg, m) := by
    unfold arV at ht
    split at ht
    · rename_i n' e h3
      split at ht
      · rename_i h4; cases ht; exact ⟨e, h3, h4⟩
      · cases ht
    · cases ht
  obtain ⟨e, hu, he⟩ := hu
  obtain ⟨h3, h4⟩ := hi hg
  generalize hv : a.eval x = u at h1
  cases h1 with
  | agg us hus hur =>
  have hlt : i.toNat * m + m ≤ cs.length := by
    have h5 : i.toNat + 1 ≤ n := by omega
    have h6 : (i.toNat + 1) * m ≤ n * m := Nat.mul_le_mul_right m h5
    have h7 : (i.toNat + 1) * m = i.toNat * m + m := by rw [Nat.add_mul, Nat.one_mul]
    omega
  obtain ⟨v, hp, hr⟩ := part_sound (P := P) (w := w) (j := j) (off := i.toNat * m) he (by intro h; subst h; simpa using hm) hus hur hlt
  refine ⟨v, ?_, hr⟩
  have hs := tyA_sizeOf he w
  simp [execOp, ho, hv, h2, Instr.index, asIntOf, underlying, hu, h3, h4, hs, hp]

def nilOk : AV → Bool
  | .ptr .. => true
  | .pe .. => true
  | .el _ => true
  | .clo (.func _) _ _ => true
  | _ => false

theorem nilCheck_sound {x : Operand} {av : AV} (hx : Arg g s x av) (ha : nilOk av = true) : Yld P g s (.nilCheck x) av := by
  intro hg j0 j a w o ho hrel
  have h1 := hx hg j0 j a w hrel
  refine ⟨a.eval x, ?_, h1⟩
  simp only [execOp, ho]
  generalize a.eval x = u at h1
  cases h1 with
  | ptr h => rfl
  | pe h => rfl
  | el => rfl
  | @clo fn fs cs ff cc _ _ _ _ =>
    cases fn with
    | func f => rfl
    | _ => simp [nilOk] at ha
  | _ => simp [nilOk] at ha

end
end Go.Abs
