/- Abstract values: the operations of a region, one behind the other. -/
import Derived.Test.YtplpklikapkloaaAn
namespace Go.Abs
set_option linter.unusedVariables false
set_option linter.unusedSimpArgs false

/-! guards -/
def nthOp : List Oper → Nat → Option Oper
  | [], _ => none
  | o :: os, n => if Nat.beq n 0 then some o else nthOp os (n - 1)

theorem nthOp_eq : ∀ (l : List Oper) (n : Nat), nthOp l n = l[n]?
  | [], n => by simp [nthOp]
  | o :: os, 0 => by simp [nthOp]
  | o :: os, n + 1 => by simp [nthOp, nthOp_eq os n]

def gvA (all : List Oper) (s : St) (jx : Nat) : Option AV :=
  match nthOp all jx with
  | some o => match o.dst with
    | some d => get s.t d
    | none => none
  | none => none

def guardA (all : List Oper) (s : St) (o : Oper) (K : Bool → Bool → Prop) : Prop :=
  match o.guard with
  | none => K false true
  | some (jx, want) => match gvA all s jx with
    | some (.d (.v (.bool b))) => K true (b == want)
    | some (.iff b0 (.d (.v (.bool b)))) => K true (b0 && (b == want))
    | _ => False

theorem guard_sound {all : List Oper} {s : St} {o : Oper} {K : Bool → Bool → Prop} (h : guardA all s o K) :
    ∃ gd g, K gd g ∧ (gd = false → g = true) ∧ ∀ {j0 j a w}, Rel j0 s j a w → Region.wanted o (yielded all.toArray a.tmps) = g := by
  unfold guardA at h
  split at h
  · rename_i hg
    exact ⟨false, true, h, fun _ => rfl, fun _ => by simp [Region.wanted, hg]⟩
  · rename_i jx want hg
    have key : ∀ av, gvA all s jx = some av → ∀ {j0 j a w}, Rel j0 s j a w → ∃ d, ((all[jx]?).bind (·.dst)) = some d ∧ d < a.tmps.size ∧ R w j av (a.tmps.getD d Go.undef) := by
      intro av hav j0 j a w hr
      unfold gvA at hav
      rw [nthOp_eq] at hav
      split at hav
      · rename_i o' ho'
        split at hav
        · rename_i d hd
          have := hr.tmp d av hav
          exact ⟨d, by simp [ho', hd], by rw [hr.size]; exact this.1, this.2⟩
        · simp at hav
      · simp at hav
    split at h
    · rename_i b hv
      refine ⟨true, _, h, by simp, fun hr => ?_⟩
      rename_i _ _ a _
      obtain ⟨d, h1, h2, h3⟩ := key _ hv hr
      have h4 := R_v h3
      rw [(arr_get h2).2] at h4
      simp [Region.wanted, hg, yielded, h1, h2, h4]
    · rename_i b0 b hv
      refine ⟨true, _, h, by simp, fun hr => ?_⟩
      rename_i _ _ a _
      obtain ⟨d, h1, h2, h3⟩ := key _ hv hr
      rw [(arr_get h2).2] at h3
      cases h3 with
      | iff hh h0 =>
        cases b0 with
        | true =>
          have h4 := R_v (hh rfl)
          simp [Region.wanted, hg, yielded, h1, h2, h4]
        | false =>
          have h4 := h0 rfl
          simp [Region.wanted, hg, yielded, h1, h2, h4, Go.undef]
    · exact h.elim

def wrapG (gd g : Bool) (av : AV) : AV := match gd with
  | false => av
  | true => .iff g av

/-- an operation that acts: only in the order of the text -/
def effG (dr gd g : Bool) (o : Oper) (s : St) (K : St → Prop) (E : (St → Prop) → Prop) : Prop :=
  dr = false ∧ (match gd with
  | false => E K
  | true => (g = true → E K) ∧ (g = false → K (s.del o.dst)))

def zeroA (P : Program) (t : TypeId) : Option (List Value) :=
  match P.info? t with
  | some i => match i.zero with
    | some z => some z.cells.toList
    | none => none
  | none => none

def storeA (P : Program) (t : TypeId) (s : St) (p v : AV) (K : St → Prop) : Prop :=
  match tyA P t with
  | some (_, m) => allOne (cellsOf v) = true ∧ (cellsOf v).length = m ∧ (match storeBlk s.σ p (cellsOf v) with
    | some (side, σ') => side ∧ K { s with σ := σ' }
    | none => False)
  | none => False

/-- a slice against nil -/
def nilEqA (neg : Bool) (x : AV) (K : AV → Prop) : Prop :=
  match x with
  | .d (.sl _ _ n _) => ∀ b : Bool, (b = true → n = 0) → K (.d (.v (.bool (b != neg))))
  | .ms _ _ _ n => ∀ b : Bool, (b = true → n = 0) → K (.d (.v (.bool (b != neg))))
  | .d (.v (.slice none _ _)) => K (.d (.v (.bool !neg)))
  | _ => False

def isSlT (P : Program) (t : TypeId) : Bool := match P.underlying t with | some (.slice _) => true | _ => false

/-- a call in any order, or behind a guard: what it computes -/
def CSg (P : Program) (gd g : Bool) (f : FuncId) (args : List AV) (s : St) (dst : Option Tmp) (K : St → Prop) : Prop := ∃ r, (g = true → CSF P f args s.σ r) ∧ K (s.put dst (wrapG gd g r))
/-- a call in the order of the text -/
def CSk (P : Program) (f : FuncId) (args : List AV) (s : St) (dst : Option Tmp) (K : St → Prop) : Prop := CS P f args s.σ fun r σ' X => K ((s.after σ' X).put dst r)

theorem CSg.mk {P : Program} {gd g : Bool} {f : FuncId} {args : List AV} {s : St} {dst : Option Tmp} {K : St → Prop} {r : AV} (h : CSF P f args s.σ r) (hK : K (s.put dst (wrapG gd g r))) : CSg P gd g f args s dst K := ⟨r, fun _ => h, hK⟩
theorem CSg.mk' {P : Program} {gd g : Bool} {f : FuncId} {args : List AV} {s : St} {dst : Option Tmp} {K : St → Prop} (r : AV) (h : g = true → CSF P f args s.σ r) (hK : K (s.put dst (wrapG gd g r))) : CSg P gd g f args s dst K := ⟨r, h, hK⟩
theorem CSk.mk {P : Program} {f : FuncId} {args : List AV} {s : St} {dst : Option Tmp} {K : St → Prop} {r : AV} (h : CSF P f args s.σ r) (hK : K (s.put dst r)) : CSk P f args s dst K := h.cs hK
theorem CSk.gen {P : Program} {f : FuncId} {args : List AV} {s : St} {dst : Option Tmp} {K : St → Prop} {Q : AV → List Blk → List Nat → Prop} (h : CS P f args s.σ Q) (hK : ∀ r σ' X, Q r σ' X → K ((s.after σ' X).put dst r)) : CSk P f args s dst K := h.mono hK

theorem CSg_congr {P : Program} {gd g g' : Bool} {f : FuncId} {args args' : List AV} {s s' : St} {dst : Option Tmp} {K : St → Prop} (hg : g = g') (ha : args = args') (hs : s = s') : CSg P gd g f args s dst K = CSg P gd g' f args' s' dst K := by rw [hg, ha, hs]
theorem CSk_congr {P : Program} {f : FuncId} {args args' : List AV} {s s' : St} {dst : Option Tmp} {K : St → Prop} (ha : args = args') (hs : s = s') : CSk P f args s dst K = CSk P f args' s' dst K := by rw [ha, hs]

/-- what a call of yield does -/
def YS (P : Program) (b : Nat) (args : List AV) (σ : List Blk) (Q : AV → List Blk → List Nat → Prop) : Prop :=
  ∀ (rd : Option Nat) j w vs cb, RelS w j σ → Rs w j args vs → j[b]? = some (some cb) →
    ∃ fn tmps assign body, (Instr.yield cb vs).run P w = .ok (.round cb fn tmps assign body) w ∧ RoundIn (FW rd) 0 P cb fn tmps assign body w fun e w' =>
      ∃ v r σ' j' X, e = .returned v ∧ RelS w' j' σ' ∧ R w' j' r v ∧ Ev j w j' w' ∧ j.length ≤ j'.length ∧ Ag j j' X ∧ Q r σ' X

theorem YS.mono {P : Program} {b : Nat} {args : List AV} {σ : List Blk} {Q Q' : AV → List Blk → List Nat → Prop} (h : YS P b args σ Q) (hq : ∀ r σ' X, Q r σ' X → Q' r σ' X) : YS P b args σ Q' :=
  fun rd j w vs cb h1 h2 h3 => by
    obtain ⟨fn, tmps, as, bd, h4, h5⟩ := h rd j w vs cb h1 h2 h3
    exact ⟨fn, tmps, as, bd, h4, h5.mono fun _ _ ⟨v, r, σ', j', X, he, a, b, c, d, e, q⟩ => ⟨v, r, σ', j', X, he, a, b, c, d, e, hq _ _ _ q⟩⟩

def YSk (P : Program) (b : Nat) (args : List AV) (s : St) (dst : Option Tmp) (K : St → Prop) : Prop := YS P b args s.σ fun r σ' X => K ((s.after σ' X).put dst r)
/-- a call that acts, behind a guard -/
def CSe (P : Program) (g : Bool) (f : FuncId) (args : List AV) (s : St) (dst : Option Tmp) (K : St → Prop) : Prop := ∃ r0, (g = true → CSk P f args s dst K) ∧ (g = false → K (s.put dst (.iff false r0)))
def CSm (P : Program) (g : Bool) (f : FuncId) (args : List AV) (s : St) (dst : Option Tmp) (K : St → Prop) : Prop := CSg P true g f args s dst K ∨ CSe P g f args s dst K
def YSe (P : Program) (g : Bool) (b : Nat) (args : List AV) (s : St) (dst : Option Tmp) (K : St → Prop) : Prop := ∃ r0, (g = true → YSk P b args s dst K) ∧ (g = false → K (s.put dst (.iff false r0)))

theorem CSm.mk {P : Program} {g : Bool} {f : FuncId} {args : List AV} {s : St} {dst : Option Tmp} {K : St → Prop} {r : AV} (h : CSF P f args s.σ r) (hK : K (s.put dst (wrapG true g r))) : CSm P g f args s dst K := .inl (CSg.mk h hK)
theorem CSm.mk' {P : Program} {g : Bool} {f : FuncId} {args : List AV} {s : St} {dst : Option Tmp} {K : St → Prop} (r : AV) (h : g = true → CSF P f args s.σ r) (hK : K (s.put dst (wrapG true g r))) : CSm P g f args s dst K := .inl (CSg.mk' r h hK)
theorem YSk.gen {P : Program} {b : Nat} {args : List AV} {s : St} {dst : Option Tmp} {K : St → Prop} {Q : AV → List Blk → List Nat → Prop} (h : YS P b args s.σ Q) (hK : ∀ r σ' X, Q r σ' X → K ((s.after σ' X).put dst r)) : YSk P b args s dst K := h.mono hK

theorem CSm_congr {P : Program} {g g' : Bool} {f : FuncId} {args args' : List AV} {s s' : St} {dst : Option Tmp} {K : St → Prop} (hg : g = g') (ha : args = args') (hs : s = s') : CSm P g f args s dst K = CSm P g' f args' s' dst K := by rw [hg, ha, hs]
theorem YSk_congr {P : Program} {b : Nat} {args args' : List AV} {s s' : St} {dst : Option Tmp} {K : St → Prop} (ha : args = args') (hs : s = s') : YSk P b args s dst K = YSk P b args' s' dst K := by rw [ha, hs]
theorem YSe_congr {P : Program} {g g' : Bool} {b : Nat} {args args' : List AV} {s s' : St} {dst : Option Tmp} {K : St → Prop} (hg : g = g') (ha : args = args') (hs : s = s') : YSe P g b args s dst K = YSe P g' b args' s' dst K := by rw [hg, ha, hs]

def opA (P : Program) (dr gd g : Bool) (o : Oper) (s : St) (K : St → Prop) : Prop :=
  match o.op with
  | .box t x => effG dr gd g o s K fun K => arg true s x fun a => allOne (cellsOf a) = true ∧ K ((s.newVar (cellsOf a)).put o.dst (.ptr s.σ.length 0))
  | .alloc t => effG dr gd g o s K fun K => match zeroA P t with
    | some z => K ((s.newVar (z.map fun v => .d (.v v))).put o.dst (.ptr s.σ.length 0))
    | none => False
  | .store t p v => effG dr gd g o s K fun K => arg true s p fun p => arg true s v fun v => storeA P t s p v fun s' => K (s'.put o.dst .undef)
  | .buildSlice t len ps => effG dr gd g o s K fun K => partsA true s ps.toList fun parts => buildSliceA P t len parts fun av => K (s.put o.dst av)
  | .makeSlice t l c => effG dr gd g o s K fun K => arg true s l fun
    | .d (.v (.int _ l)) => arg true s c fun
      | .d (.v (.int _ c)) => makeA P s.σ t l c fun r σ' => K ((s.after σ' []).put o.dst r)
      | _ => False
    | _ => False
  | .binOp op t x y ty => if isSlT P t then effG dr gd g o s K fun K => (match op, y with
      | .eql, .const (.slice none 0 0) => arg true s x fun a => nilEqA false a fun r => K (s.put o.dst r)
      | .neq, .const (.slice none 0 0) => arg true s x fun a => nilEqA true a fun r => K (s.put o.dst r)
      | _, _ => False)
    else pv P g s (.binOp op t x y ty) fun av => K (s.put o.dst (wrapG gd g av))
  | .call c => match c.callee with
    | .builtin b => match b with
      | .append => effG dr gd g o s K fun K => (match c.args.toList, c.argTypes.toList with
        | [x, y], [t, t'] => arg true s x fun x => arg true s y fun y => appendA P s.σ t t' x y fun r σ' X => K ((s.after σ' X).put o.dst r)
        | _, _ => False)
      | .clear => effG dr gd g o s K fun K => (match c.args.toList, c.argTypes.toList with
        | [x], [t] => arg true s x fun x => clearA P t s.σ x fun σ' => K ((s.after σ' []).put o.dst (.tup []))
        | _, _ => False)
      | _ => pv P g s (.call c) fun av => K (s.put o.dst (wrapG gd g av))
    | .value f => arg g s f fun
      | .clo (.func fid) first captured => args g s c.args.toList fun as =>
        (match dr with
        | true => CSg P gd g fid (first ++ (as ++ captured)) s o.dst K
        | false => match gd with
          | true => CSm P g fid (first ++ (as ++ captured)) s o.dst K
          | false => CSk P fid (first ++ (as ++ captured)) s o.dst K)
      | .yld b => args g s c.args.toList fun as =>
        (match dr with
        | true => False
        | false => match gd with
          | true => YSe P g b as s o.dst K
          | false => YSk P b as s o.dst K)
      | _ => False
    | .invoke _ _ => False
  | op => pv P g s op fun av => K (s.put o.dst (wrapG gd g av))

def evalOps (P : Program) (dr : Bool) (all : List Oper) : List Oper → St → (St → Prop) → Prop
  | [], s, K => K s
  | o :: os, s, K => guardA all s o fun gd g => opA P dr gd g o s fun s' => evalOps P dr all os s' K

/-- the operations that are left: unfolded only where the state is known -/
def Rest (P : Program) (dr : Bool) (all os : List Oper) (K : St → Prop) (s : St) : Prop := evalOps P dr all os s K
theorem evalOps_nil (P : Program) (dr : Bool) (all : List Oper) (s : St) (K : St → Prop) : evalOps P dr all [] s K = K s := rfl
theorem evalOps_cons (P : Program) (dr : Bool) (all os : List Oper) (o : Oper) (s : St) (K : St → Prop) : evalOps P dr all (o :: os) s K = guardA all s o fun gd g => opA P dr gd g o s (Rest P dr all os K) := rfl
theorem Rest_mk (P : Program) (dr : Bool) (all os : List Oper) (K : St → Prop) (N : Nat) (t : List (Nat × AV)) (σ : List Blk) (mv : List Nat) : Rest P dr all os K ⟨N, t, σ, mv⟩ = evalOps P dr all os ⟨N, t, σ, mv⟩ K := rfl

/-- what an operation that runs must come to -/
def Runs (P : Program) (o : Oper) (s : St) (K : St → Prop) : Prop :=
  ∀ (j0 : J0) j a w (next : Act → World → Prop) (Q : Exit → Act → World → Prop), Rel j0 s j a w → (∀ s' j' a' w', Rel j0 s' j' a' w' → Ev j w j' w' → K s' → next a' w') → o.wpIn (FW j0.rd) 0 P a w next Q

theorem opw {rd : Option Nat} {P : Program} {o : Oper} {a : Act} {w w' : World} {next : Act → World → Prop} {Q : Exit → Act → World → Prop} {r : Next} (hd : ∀ c, o.op ≠ .defer c) (h : (execOp a.eval o).run P w = .ok r w') (hn : o.uponIn (FW rd) 0 P a next Q (.ok r w')) : o.wpIn (FW rd) 0 P a w next Q :=
  ⟨fun _ _ => trivial, by rw [Oper.semAt_eq _ _ _ hd, h]; exact hn⟩

theorem runs_of_yld {P : Program} {o : Oper} {s : St} {K : St → Prop} {av : AV} {g : Bool} (hd : ∀ c, o.op ≠ .defer c) (hg : g = true) (h : Yld P g s o.op av) (hK : K (s.put o.dst av)) : Runs P o s K := by
  intro j0 j a w next Q hr hn
  obtain ⟨v, h1, h2⟩ := h hg j0 j a w o rfl hr
  refine opw hd h1 ?_
  exact hn _ j _ w (hr.put o.dst h2) (.refl _ _) hK

theorem runs_of_yldG {P : Program} {o : Oper} {s : St} {K : St → Prop} {av : AV} {gd g : Bool} (hd : ∀ c, o.op ≠ .defer c) (hg : g = true) (h : Yld P g s o.op av) (hK : K (s.put o.dst (wrapG gd g av))) : Runs P o s K := by
  intro j0 j a w next Q hr hn
  obtain ⟨v, h1, h2⟩ := h hg j0 j a w o rfl hr
  refine opw hd h1 ?_
  refine hn _ j _ w (hr.put o.dst ?_) (.refl _ _) hK
  cases gd with
  | false => exact h2
  | true => exact .iff (fun _ => h2) (fun hf => by rw [hg] at hf; cases hf)

theorem effG_sound {P : Program} {dr gd g : Bool} {o : Oper} {s : St} {K : St → Prop} {E : (St → Prop) → Prop} (h : effG dr gd g o s K E) (hgd : gd = false → g = true) (hE : E K → Runs P o s K) : (g = true → Runs P o s K) ∧ (g = false → K (s.del o.dst)) := by
  unfold effG at h
  obtain ⟨_, h⟩ := h
  cases gd with
  | false => exact ⟨fun _ => hE h, fun hf => by rw [hgd rfl] at hf; cases hf⟩
  | true => exact ⟨fun hg => hE (h.1 hg), h.2⟩

end Go.Abs
