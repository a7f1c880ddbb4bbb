/- Abstract values: operations that only compute and read. -/
import Derived.Test.YtplpklikapkloaaAcq
namespace Go.Abs
set_option linter.unusedVariables false
set_option linter.unusedSimpArgs false

theorem R_v {w : World} {j : Js} {x v : Value} (h : R w j (.d (.v x)) v) : v = x := by
  cases h with | d h => cases h; rfl

/-- what an operand reads as, where the guard says yes -/
def Arg (g : Bool) (s : St) (x : Operand) (av : AV) : Prop := g = true → ∀ j0 j a w, Rel j0 s j a w → R w j av (a.eval x)

def arg (g : Bool) (s : St) (x : Operand) (K : AV → Prop) : Prop :=
  match val s x with
  | some (.iff b y) => (g = true → b = true) ∧ K y
  | some y => K y
  | none => False

theorem arg_sound {g : Bool} {s : St} {x : Operand} {K : AV → Prop} (h : arg g s x K) : ∃ av, K av ∧ Arg g s x av := by
  unfold arg at h
  split at h
  · rename_i b y hv
    refine ⟨y, h.2, fun hg j0 j a w hr => ?_⟩
    have := val_rel hr hv
    generalize a.eval x = u at this
    cases this with | iff hh _ => exact hh (h.1 hg)
  · rename_i y hv
    exact ⟨_, h, fun hg j0 j a w hr => val_rel hr hv⟩
  · exact h.elim

def args (g : Bool) (s : St) : List Operand → (List AV → Prop) → Prop
  | [], K => K []
  | x :: xs, K => arg g s x fun a => args g s xs fun as => K (a :: as)

theorem args_sound {g : Bool} {s : St} : ∀ {xs : List Operand} {K : List AV → Prop}, args g s xs K → ∃ avs, K avs ∧ avs.length = xs.length ∧ ∀ k, k < xs.length → Arg g s (xs.getD k (.const Go.undef)) (avs.getD k .undef)
  | [], K, h => ⟨[], h, rfl, by simp⟩
  | x :: xs, K, h => by
    obtain ⟨av, h1, h2⟩ := arg_sound h
    obtain ⟨avs, h3, h4, h5⟩ := args_sound h1
    refine ⟨av :: avs, h3, by simp [h4], fun k hk => ?_⟩
    cases k with
    | zero => simpa using h2
    | succ k => simpa using h5 k (by simpa using hk)

/-- the operation yields what reads as av, where the guard says yes, and leaves the world alone -/
def Yld (P : Program) (g : Bool) (s : St) (op : Op) (av : AV) : Prop :=
  g = true → ∀ j0 j a w (o : Oper), o.op = op → Rel j0 s j a w → ∃ v, (execOp a.eval o).run P w = .ok (.value v) w ∧ R w j av v

/-! integers, bools, strings -/
def intBin (g : Bool) (op : BinOp) (k : IntKind) (a b : Int) (K : AV → Prop) : Prop :=
  match op with
  | .add => K (.d (.v (.int k (k.wrap (a + b)))))
  | .sub => K (.d (.v (.int k (k.wrap (a - b)))))
  | .mul => K (.d (.v (.int k (k.wrap (a * b)))))
  | .quo => (g = true → b ≠ 0) ∧ K (.d (.v (.int k (k.wrap (a.tdiv b)))))
  | .rem => (g = true → b ≠ 0) ∧ K (.d (.v (.int k (a.tmod b))))
  | .eql => K (.d (.v (.bool (a == b))))
  | .neq => K (.d (.v (.bool (a != b))))
  | .lss => K (.d (.v (.bool (decide (a < b)))))
  | .leq => K (.d (.v (.bool (decide (a ≤ b)))))
  | .gtr => K (.d (.v (.bool (decide (b < a)))))
  | .geq => K (.d (.v (.bool (decide (b ≤ a)))))
  | .and => K (.d (.v (.int k (k.wrap (BitVec.ofInt k.bits a &&& BitVec.ofInt k.bits b).toNat))))
  | .or => K (.d (.v (.int k (k.wrap (BitVec.ofInt k.bits a ||| BitVec.ofInt k.bits b).toNat))))
  | .xor => K (.d (.v (.int k (k.wrap (BitVec.ofInt k.bits a ^^^ BitVec.ofInt k.bits b).toNat))))
  | .andNot => K (.d (.v (.int k (k.wrap (BitVec.ofInt k.bits a &&& ~~~ BitVec.ofInt k.bits b).toNat))))
  | _ => False

def strBin (g : Bool) (op : BinOp) (x y : ByteArray) (K : AV → Prop) : Prop :=
  match op with
  | .add => (g = true → ((x.size + y.size : Nat) : Int) ≤ 9223372036854775807) ∧ K (.d (.v (.string (x ++ y))))
  | .eql => K (.d (.v (.bool (x.toList == y.toList))))
  | .neq => K (.d (.v (.bool !(x.toList == y.toList))))
  | .lss => K (.d (.v (.bool (Op.bytesLess x.toList y.toList))))
  | .leq => K (.d (.v (.bool (Op.bytesLess x.toList y.toList || x.toList == y.toList))))
  | .gtr => K (.d (.v (.bool !(Op.bytesLess x.toList y.toList || x.toList == y.toList))))
  | .geq => K (.d (.v (.bool !Op.bytesLess x.toList y.toList)))
  | _ => False

def shiftBin (g : Bool) (op : BinOp) (k : IntKind) (x y : Int) (K : AV → Prop) : Prop :=
  match op with
  | .shl => (g = true → 0 ≤ y) ∧ K (.d (.v (.int k (k.wrap (x * 2 ^ (min y.toNat k.bits))))))
  | .shr => (g = true → 0 ≤ y) ∧ K (.d (.v (.int k (x.fdiv (2 ^ (min y.toNat k.bits))))))
  | _ => False

def isShift : BinOp → Bool
  | .shl => true
  | .shr => true
  | _ => false

def boolT (P : Program) (t : TypeId) : Bool := match P.underlying t with | some .bool => true | _ => false

def bin (P : Program) (g : Bool) (op : BinOp) (t : TypeId) (x y : AV) (K : AV → Prop) : Prop :=
  match x, y with
  | .d (.v (.int k a)), .d (.v (.int k' b)) => if isShift op then shiftBin g op k a b K else k = k' ∧ intBin g op k a b K
  | .d (.v (.bool a)), .d (.v (.bool b)) => boolT P t = true ∧ (match op with
    | .eql => K (.d (.v (.bool (a == b))))
    | .neq => K (.d (.v (.bool !(a == b))))
    | _ => False)
  | .d (.v (.string a)), .d (.v (.string b)) => strBin g op a b K
  | .agg xs, .agg ys => (match eqA P t with
    | some ks => (match eqB ks xs ys with
      | some r => (match op with
        | .eql => K (.d (.v (.bool r)))
        | .neq => K (.d (.v (.bool !r)))
        | _ => False)
      | none => False)
    | none => False)
  | _, _ => False

theorem run_eqGuard {P : Program} {w : World} {op : BinOp} {t : TypeId} {x y : Operand} {a b : Value} (ha : ∀ cs, a ≠ .agg cs) (hn : a ≠ .nilIface) : (eqGuard op t x y a b).run P w = .ok () w := by
  unfold eqGuard
  cases a <;> first | exact absurd rfl hn | exact absurd rfl (ha _) | (split <;> rfl)

theorem run_equal_bool {P : Program} {w : World} {t : TypeId} (hu : P.underlying t = some .bool) (a b : Bool) : (Op.equal t (.bool a) (.bool b)).run P w = .ok (a == b) w := by
  show (Op.equalIn (9999 + 1) t _ _).run P w = _
  rw [Op.equalIn]; simp [underlying, hu]

theorem bin_sound {P : Program} {g : Bool} {op : BinOp} {t ty : TypeId} {a b : AV} {K : AV → Prop} (h : bin P g op t a b K) {s : St} {x y : Operand} (hx : Arg g s x a) (hy : Arg g s y b) :
    ∃ av, K av ∧ Yld P g s (.binOp op t x y ty) av := by
  unfold bin at h
  split at h
  · -- integers
    rename_i k m k' n
    have base : ∀ (r : Value), (g = true → ∀ w, (binOp op t (.int k m) (.int k' n)).run P w = .ok r w) → Yld P g s (.binOp op t x y ty) (.d (.v r)) := by
      intro r hr hg j0 j a w o ho hrel
      have h1 := R_v (hx hg j0 j a w hrel)
      have h2 := R_v (hy hg j0 j a w hrel)
      refine ⟨r, ?_, .d (.v r)⟩
      simp only [execOp, ho, h1, h2]
      simp [run_eqGuard, hr hg]
    split at h
    · rename_i hsh
      unfold shiftBin at h
      split at h
      · refine ⟨_, h.2, base _ fun hg w => ?_⟩
        have := h.1 hg
        simp [binOp, Op.shift, show ¬ n < 0 by omega]
      · refine ⟨_, h.2, base _ fun hg w => ?_⟩
        have := h.1 hg
        simp [binOp, Op.shift, show ¬ n < 0 by omega]
      · exact h.elim
    · rename_i hsh
      obtain ⟨rfl, h⟩ := h
      unfold intBin at h
      split at h <;> first
        | exact h.elim
        | exact ⟨_, h, base _ fun hg w => by simp [binOp, Op.intArith, Op.intCmp, Op.intBits]⟩
        | exact ⟨_, h.2, base _ fun hg w => by have := h.1 hg; simp [binOp, Op.intDiv, this]⟩
  · rename_i m n
    obtain ⟨hb, h⟩ := h
    have hu : P.underlying t = some .bool := by
      unfold boolT at hb
      split at hb <;> simp_all
    have base : ∀ (r : Value), (g = true → ∀ w, (binOp op t (.bool m) (.bool n)).run P w = .ok r w) → Yld P g s (.binOp op t x y ty) (.d (.v r)) := by
      intro r hr hg j0 j a w o ho hrel
      have h1 := R_v (hx hg j0 j a w hrel)
      have h2 := R_v (hy hg j0 j a w hrel)
      refine ⟨r, ?_, .d (.v r)⟩
      simp only [execOp, ho, h1, h2]
      simp [run_eqGuard, hr hg]
    split at h
    · exact ⟨_, h, base _ fun hg w => by
        show (do pure (Value.bool (← Op.equal t (.bool m) (.bool n))) : Sem Value).run P w = _
        simp [run_equal_bool hu]⟩
    · exact ⟨_, h, base _ fun hg w => by
        show (do pure (Value.bool (!(← Op.equal t (.bool m) (.bool n)))) : Sem Value).run P w = _
        simp [run_equal_bool hu]⟩
    · exact h.elim
  · rename_i m n
    have base : ∀ (r : Value), (g = true → ∀ w, (binOp op t (.string m) (.string n)).run P w = .ok r w) → Yld P g s (.binOp op t x y ty) (.d (.v r)) := by
      intro r hr hg j0 j a w o ho hrel
      have h1 := R_v (hx hg j0 j a w hrel)
      have h2 := R_v (hy hg j0 j a w hrel)
      refine ⟨r, ?_, .d (.v r)⟩
      simp only [execOp, ho, h1, h2]
      simp [run_eqGuard, hr hg]
    unfold strBin at h
    split at h <;> first
      | exact h.elim
      | exact ⟨_, h, base _ fun hg w => by simp [binOp, Op.stringOp]⟩
      | exact ⟨_, h.2, base _ fun hg w => by
          have := h.1 hg
          simp only [binOp, Op.stringOp]
          rw [if_neg (by simp only [IntKind.max, IntKind.signed, IntKind.bits]; omega)]; rfl⟩
  · rename_i xs ys
    split at h
    · rename_i ks hks
      split at h
      · rename_i r hr
        have hks' := eqA_spec hks
        have base : ∀ (r' : Bool) (hop : ∀ (us vs : Array Value) (w : World), (Op.equalIn 10000 t (.agg us) (.agg vs)).run P w = .ok r w → (binOp op t (.agg us) (.agg vs)).run P w = .ok (.bool r') w), Yld P g s (.binOp op t x y ty) (.d (.v (.bool r'))) := by
          intro r' hop hg j0 j a w o ho hrel
          have h1 := hx hg j0 j a w hrel
          have h2 := hy hg j0 j a w hrel
          generalize hu : a.eval x = u at h1
          generalize hv : a.eval y = v at h2
          cases h1 with
          | agg us hus hur =>
          cases h2 with
          | agg vs hvs hvr =>
          have hq := eqT_sound 30 hks'.2.1 hks'.2.2 hr (u := .agg us) (v := .agg vs) (.agg us hus hur) (.agg vs hvs hvr) 10000 (by omega)
          refine ⟨_, ?_, .d (.v _)⟩
          simp only [execOp, ho, hu, hv]
          simp [run_eqGuard_agg w op t x y us vs hks'.1, hop us vs w hq]
        split at h
        · exact ⟨_, h, base r fun us vs w hq => by rw [run_eql_struct, hq]; rfl⟩
        · exact ⟨_, h, base (!r) fun us vs w hq => by rw [run_neq_struct, hq]; rfl⟩
        · exact h.elim
      · exact h.elim
    · exact h.elim
  · exact h.elim

def un (op : UnOp) (x : AV) (K : AV → Prop) : Prop :=
  match op, x with
  | .not, .d (.v (.bool b)) => K (.d (.v (.bool !b)))
  | .neg, .d (.v (.int k n)) => K (.d (.v (.int k (k.wrap (0 - n)))))
  | _, _ => False

theorem un_sound {P : Program} {g : Bool} {op : UnOp} {t : TypeId} {a : AV} {K : AV → Prop} (h : un op a K) {s : St} {x : Operand} (hx : Arg g s x a) :
    ∃ av, K av ∧ Yld P g s (.unOp op t x) av := by
  unfold un at h
  split at h
  · refine ⟨_, h, fun hg j0 j a w o ho hrel => ⟨_, ?_, .d (.v _)⟩⟩
    have h1 := R_v (hx hg j0 j a w hrel)
    simp [execOp, ho, h1, Op.unary]
  · refine ⟨_, h, fun hg j0 j a w o ho hrel => ⟨_, ?_, .d (.v _)⟩⟩
    have h1 := R_v (hx hg j0 j a w hrel)
    simp [execOp, ho, h1, Op.unary, Op.intArith]
  · exact h.elim

/-! addresses -/
def fieldA (P : Program) (t : TypeId) (f : Nat) : Option Nat :=
  match P.underlying t with
  | some (.struct fs) => match fs[f]? with
    | some fd => match P.info? fd.type with
      | some i => if Nat.beq i.size 0 then none else some fd.offset
      | none => none
    | none => none
  | _ => none

def fieldAddrA (o : Nat) (x : AV) (K : AV → Prop) : Prop :=
  match x with
  | .ptr b off => K (.ptr b (off + o))
  | .pe b sz i k => K (.pe b sz i (k + o))
  | .el cs => K (.el (cs.drop o))
  | _ => False

theorem fieldAt_run {P : Program} {t : TypeId} {f o : Nat} (hf : fieldA P t f = some o) (a : Addr) (w : World) : (Instr.fieldAt t (.pointer (some a)) f).run P w = .ok (.pointer (some (a.add o))) w := by
  unfold fieldA at hf
  split at hf
  · rename_i fs hu
    split at hf
    · rename_i fd hfd
      split at hf
      · rename_i i hi
        split at hf <;> simp at hf
        rename_i hz
        subst hf
        have hz' : i.size ≠ 0 := fun e => hz (by rw [e]; rfl)
        simp [Instr.fieldAt, underlying, hu, hfd, Instr.sureAddr, fieldPlace, Go.sizeOf, typeInfo, hi, hz']
      · simp at hf
    · simp at hf
  · simp at hf

theorem fieldAddr_sound {P : Program} {g : Bool} {t : TypeId} {f o : Nat} (hf : fieldA P t f = some o) {a : AV} {K : AV → Prop} (h : fieldAddrA o a K) {s : St} {x : Operand} (hx : Arg g s x a) :
    ∃ av, K av ∧ Yld P g s (.fieldAddr t x f) av := by
  have base : ∀ {av : AV}, (∀ j w u, R w j a u → ∃ ad, u = .pointer (some ad) ∧ R w j av (.pointer (some (ad.add o)))) → Yld P g s (.fieldAddr t x f) av := by
    intro av hh hg j0 j a w op ho hrel
    obtain ⟨ad, h1, h2⟩ := hh j w _ (hx hg j0 j a w hrel)
    refine ⟨_, ?_, h2⟩
    simp only [execOp, ho, h1]
    simp [fieldAt_run hf]
  unfold fieldAddrA at h
  split at h
  · refine ⟨_, h, base fun j w u hr => ?_⟩
    cases hr with
    | ptr hb => exact ⟨_, rfl, by rw [add_off _ rfl]; exact .ptr hb⟩
  · refine ⟨_, h, base fun j w u hr => ?_⟩
    cases hr with
    | pe hb => exact ⟨_, rfl, by rw [add_off _ rfl]; simp only [Nat.add_assoc]; exact .pe hb⟩
  · rename_i cs
    refine ⟨_, h, base fun j w u hr => ?_⟩
    cases hr with
    | el ad val ha hlt hb hcell hrel =>
      refine ⟨_, rfl, ?_⟩
      rw [add_off _ ha]
      refine .el _ (fun k => val (o + k)) rfl hlt hb (fun k hk => ?_) (fun k hk => ?_)
      · simp only [List.length_drop] at hk
        have := hcell (o + k) (by omega)
        rw [← Nat.add_assoc] at this; exact this
      · simp only [List.length_drop] at hk
        have := hrel (o + k) (by omega)
        have e1 : (cs.drop o).getD k default = cs.getD (o + k) default := by simp [List.getD_eq_getElem?_getD]
        rw [e1]; exact this
  · exact h.elim

/-! loads -/
def loadA (P : Program) (g : Bool) (t : TypeId) (σ : List Blk) (x : AV) (K : AV → Prop) : Prop :=
  match tyA P t with
  | some (agg, m) => (agg || Nat.beq m 1) = true ∧ (match readAt σ m x with
    | some (side, l) => (g = true → side) ∧ K (loaded agg l)
    | none => False)
  | none => False

theorem load_sound {P : Program} {g : Bool} {t : TypeId} {s : St} {a : AV} {K : AV → Prop} (h : loadA P g t s.σ a K) {x : Operand} (hx : Arg g s x a) : ∃ av, K av ∧ Yld P g s (.load t x) av := by
  unfold loadA at h
  split at h
  · rename_i agg m ht
    obtain ⟨hm, h⟩ := h
    split at h
    · rename_i side l hl
      refine ⟨_, h.2, fun hg j0 j a w o ho hrel => ?_⟩
      obtain ⟨ad, h1, u, h2, h3⟩ := loadVar_sound (P := P) hrel.sto ht (fun ha => by subst ha; exact Nat.eq_of_beq_eq_true (by simpa using hm)) (hx hg j0 j a w hrel) hl (h.1 hg)
      refine ⟨u, ?_, h3⟩
      simp [execOp, ho, h1, Instr.loadAt, Instr.sureAddr, h2]
    · exact h.elim
  · exact h.elim

/-! elements -/
/-- a slice type: its elements' type and how many cells one has -/
def slA (P : Program) (t : TypeId) : Option (TypeId × Nat) :=
  match P.underlying t with
  | some (.slice e) => match P.info? e with
    | some i => some (e, i.size)
    | none => none
  | _ => none

theorem slA_spec {P : Program} {t e : TypeId} {m : Nat} (h : slA P t = some (e, m)) : P.underlying t = some (.slice e) ∧ ∃ i, P.info? e = some i ∧ i.size = m := by
  unfold slA at h
  split at h
  · rename_i e' hu
    split at h
    · rename_i i hi
      simp only [Option.some.injEq, Prod.mk.injEq] at h
      obtain ⟨rfl, rfl⟩ := h
      exact ⟨hu, i, hi, rfl⟩
    · simp at h
  · simp at h

def indexAddrA (P : Program) (g : Bool) (t : TypeId) (x : AV) (i : Int) (K : AV → Prop) : Prop :=
  match slA P t, x with
  | some (e, m), .d (.sl cap sz n row) => Nat.beq m sz = true ∧ (g = true → 0 ≤ i ∧ i < n) ∧ K (.el (row i.toNat))
  | some (e, m), .ms b sz lo n => Nat.beq m sz = true ∧ (g = true → 0 ≤ i ∧ i < n) ∧ K (.pe b sz (lo + i.toNat) 0)
  | _, _ => False

theorem indexAt_run {P : Program} {t e : TypeId} {m : Nat} (h : slA P t = some (e, m)) (a : Addr) (n c : Nat) (k : IntKind) (i : Int) (h0 : 0 ≤ i) (h1 : i < n) (w : World) :
    (Instr.indexAt t (.slice (some a) n c) (.int k i)).run P w = .ok (.pointer (some (a.add (i.toNat * m)))) w := by
  obtain ⟨hu, inf, hi, hm⟩ := slA_spec h
  simp [Instr.indexAt, asIntOf, underlying, hu, h0, h1, Go.sizeOf, typeInfo, hi, hm]

theorem indexAddr_sound {P : Program} {g : Bool} {t : TypeId} {a : AV} {k : IntKind} {i : Int} {K : AV → Prop} (h : indexAddrA P g t a i K) {s : St} {x y : Operand} (hx : Arg g s x a) (hy : Arg g s y (.d (.v (.int k i)))) :
    ∃ av, K av ∧ Yld P g s (.indexAddr t x y) av := by
  unfold indexAddrA at h
  split at h
  · rename_i e m cap sz n row hs
    obtain ⟨hm, hside, hK⟩ := h
    have hm := Nat.eq_of_beq_eq_true hm
    subst hm
    refine ⟨_, hK, fun hg j0 j a w o ho hrel => ?_⟩
    obtain ⟨h0, h1⟩ := hside hg
    have h2 := R_v (hy hg j0 j a w hrel)
    have h3 := hx hg j0 j a w hrel
    simp only [execOp, ho, h2]
    generalize a.eval x = u at h3
    cases h3 with | d h3 =>
    cases h3 with
    | sl ad c val hcap hle ha hlt hb hlen hcell hr =>
      refine ⟨.pointer (some (ad.add (i.toNat * m))), by simp [indexAt_run hs ad n c k i h0 h1], ?_⟩
      rw [add_off _ ha]
      have hi : i.toNat < n := by omega
      refine .el _ (fun q => val i.toNat q) rfl hlt hb (fun q hq => ?_) (fun q hq => ?_)
      · rw [hlen _ hi] at hq; exact hcell _ hi q hq
      · rw [hlen _ hi] at hq; exact hr _ hi q hq
    | zero p c hcap hp => omega
  · rename_i e m b sz lo n hs
    obtain ⟨hm, hside, hK⟩ := h
    have hm := Nat.eq_of_beq_eq_true hm
    subst hm
    refine ⟨_, hK, fun hg j0 j a w o ho hrel => ?_⟩
    obtain ⟨h0, h1⟩ := hside hg
    have h2 := R_v (hy hg j0 j a w hrel)
    have h3 := hx hg j0 j a w hrel
    simp only [execOp, ho, h2]
    generalize a.eval x = u at h3
    cases h3 with
    | @ms _ _ _ _ cb c e' m' hb hsh hn hm =>
      refine ⟨.pointer (some (Addr.add ⟨cb, lo * m, none⟩ (i.toNat * m))), by simp [indexAt_run hs _ n c k i h0 h1], ?_⟩
      rw [add_off _ rfl]
      have : lo * m + i.toNat * m = (lo + i.toNat) * m + 0 := by rw [Nat.add_mul]; rfl
      simp only [this]
      exact .pe hb
    | ms0 p hb => omega
  · exact h.elim

end Go.Abs
