/- Abstract values: a region that draws its order: what computes, in any order; behind it what acts, in the order of the text. -/
import Derived.Test.YtplpklikapkloaaAp
namespace Go.Abs
set_option linter.unusedVariables false
set_option linter.unusedSimpArgs false

/-! what an operation looks at -/
def opTmps (o : Oper) : List Nat := o.op.operands.toList.filterMap fun | .tmp t => some t | _ => none
def gTmps (all : List Oper) (o : Oper) : List Nat := match o.guard with
  | none => []
  | some (jx, _) => match all[jx]? with
    | some g => g.dst.toList
    | none => []
def looks (all : List Oper) (o : Oper) : List Nat := opTmps o ++ gTmps all o

def restr (L : List Nat) : List (Nat × AV) → List (Nat × AV)
  | [] => []
  | (k, v) :: t => if L.contains k then (k, v) :: restr L t else restr L t

theorem get_restr {L : List Nat} {t : List (Nat × AV)} {k : Nat} : get (restr L t) k = if L.contains k then get t k else none := by
  induction t with
  | nil => simp [restr, get]
  | cons x t ih =>
    obtain ⟨q, v⟩ := x
    simp only [restr]
    by_cases hq : q = k
    · subst hq
      by_cases hc : L.contains q = true
      · rw [if_pos hc, if_pos hc]; simp [get]
      · rw [if_neg hc, if_neg hc, ih, if_neg hc]
    · by_cases hc : L.contains q = true
      · rw [if_pos hc]; simp only [get, beq_ne hq, Bool.false_eq_true, if_false, ih]
      · rw [if_neg hc]; simp only [Bool.false_eq_true, if_false, ih, get, beq_ne hq]

def St.restr (L : List Nat) (s : St) : St := { s with t := Abs.restr L s.t }

theorem val_restr {L : List Nat} {s : St} {x : Operand} (h : ∀ t, x = .tmp t → t ∈ L) : val (s.restr L) x = val s x := by
  cases x with
  | tmp t => simp [val, St.restr, get_restr, h t rfl]
  | _ => rfl

theorem arg_restr {L : List Nat} {g : Bool} {s : St} {x : Operand} {K : AV → Prop} (h : ∀ t, x = .tmp t → t ∈ L) : arg g (s.restr L) x K = arg g s x K := by
  simp only [arg, val_restr h]

theorem args_restr {L : List Nat} {g : Bool} {s : St} : ∀ {xs : List Operand} {K : List AV → Prop}, (∀ x ∈ xs, ∀ t, x = .tmp t → t ∈ L) → args g (s.restr L) xs K = args g s xs K
  | [], _, _ => rfl
  | x :: xs, K, h => by
    simp only [args]
    rw [arg_restr (h x (by simp))]
    congr 1; funext a
    exact args_restr fun y hy => h y (by simp [hy])

theorem partsA_restr {L : List Nat} {g : Bool} {s : St} : ∀ {xs : List (Nat × Operand)} {K : List (Nat × AV) → Prop}, (∀ x ∈ xs, ∀ t, x.2 = .tmp t → t ∈ L) → partsA g (s.restr L) xs K = partsA g s xs K
  | [], _, _ => rfl
  | (i, x) :: xs, K, h => by
    simp only [partsA]
    rw [arg_restr (h (i, x) (by simp))]
    congr 1; funext a
    exact partsA_restr fun y hy => h y (by simp [hy])

theorem bnd_restr {L : List Nat} {g : Bool} {s : St} {x : Option Operand} {d : Int} {K : Int → Prop} (h : ∀ y, x = some y → ∀ t, y = .tmp t → t ∈ L) : bnd g (s.restr L) x d K = bnd g s x d K := by
  cases x with
  | none => rfl
  | some x => simp only [bnd]; rw [arg_restr (h x rfl)]

theorem mem_opTmps {o : Oper} {x : Operand} {t : Nat} (hx : x ∈ o.op.operands) (ht : x = .tmp t) : t ∈ opTmps o := by
  subst ht
  simp only [opTmps, List.mem_filterMap]
  exact ⟨.tmp t, by simpa using hx, rfl⟩

set_option maxHeartbeats 1000000 in
theorem pv_restr {P : Program} {L : List Nat} {g : Bool} {s : St} {op : Op} {K : AV → Prop} (h : ∀ x ∈ op.operands, ∀ t, x = .tmp t → t ∈ L) : pv P g (s.restr L) op K = pv P g s op K := by
  cases op with
  | move x => simp only [pv]; exact arg_restr (h x (by simp [Op.operands]))
  | assign x => simp only [pv]; exact arg_restr (h x (by simp [Op.operands]))
  | pick c x y =>
    simp only [pv]
    rw [arg_restr (h c (by simp [Op.operands]))]
    congr 1; funext a
    split
    · rw [arg_restr (h x (by simp [Op.operands]))]
      congr 1; funext a
      split
      · rw [arg_restr (h y (by simp [Op.operands]))]
      · rfl
    · rfl
  | binOp op t x y ty =>
    simp only [pv]
    rw [arg_restr (h x (by simp [Op.operands]))]
    congr 1; funext a
    rw [arg_restr (h y (by simp [Op.operands]))]
  | unOp op t x => simp only [pv]; exact arg_restr (h x (by simp [Op.operands]))
  | extract x i => simp only [pv]; exact arg_restr (h x (by simp [Op.operands]))
  | fieldAddr t x f => simp only [pv]; split <;> first | rfl | exact arg_restr (h x (by simp [Op.operands]))
  | field t x f => simp only [pv]; split <;> first | rfl | exact arg_restr (h x (by simp [Op.operands]))
  | indexAddr t x y =>
    simp only [pv]
    rw [arg_restr (h x (by simp [Op.operands]))]
    congr 1; funext a
    rw [arg_restr (h y (by simp [Op.operands]))]
  | index t x y =>
    simp only [pv]
    rw [arg_restr (h x (by simp [Op.operands]))]
    congr 1; funext a
    split
    · rw [arg_restr (h y (by simp [Op.operands]))]
    · split
      · rw [arg_restr (h y (by simp [Op.operands]))]
      · rfl
    · rfl
  | load t x => simp only [pv]; rw [arg_restr (h x (by simp [Op.operands]))]; rfl
  | slice t x lo hi mx =>
    simp only [pv]
    rw [arg_restr (h x (by simp [Op.operands]))]
    congr 1; funext a
    have hlo : ∀ y, lo = some y → ∀ t, y = .tmp t → t ∈ L := fun y hy => h y (by simp [Op.operands, hy])
    have hhi : ∀ y, hi = some y → ∀ t, y = .tmp t → t ∈ L := fun y hy => h y (by simp [Op.operands, hy])
    have hmx : ∀ y, mx = some y → ∀ t, y = .tmp t → t ∈ L := fun y hy => h y (by simp [Op.operands, hy])
    unfold sliceA
    split
    · congr 1; rw [bnd_restr hlo]; congr 1; funext l; rw [bnd_restr hhi]
    · congr 1; rw [bnd_restr hlo]; congr 1; funext l; rw [bnd_restr hhi]; congr 1; funext hh
      cases mx with
      | none => rfl
      | some m => simp only; rw [bnd_restr hmx]
    · congr 1; rw [bnd_restr hlo]; congr 1; funext l; rw [bnd_restr hhi]
    · congr 1; rw [bnd_restr hlo]; congr 1; funext l; rw [bnd_restr hhi]
    · rfl
  | build t ps =>
    simp only [pv]
    exact partsA_restr fun x hx => h x.2 (by simp only [Op.operands, List.mem_toArray, List.mem_map]; exact ⟨x, hx, rfl⟩)
  | makeFunc fn f c =>
    simp only [pv]
    rw [args_restr fun x hx => h x (by simp only [Op.operands, Array.mem_append]; exact .inl (by simpa using hx))]
    congr 1; funext a
    exact args_restr fun x hx => h x (by simp only [Op.operands, Array.mem_append]; exact .inr (by simpa using hx))
  | convert src dst x => simp only [pv]; exact arg_restr (h x (by simp [Op.operands]))
  | nilCheck x => simp only [pv]; exact arg_restr (h x (by simp [Op.operands]))
  | call c =>
    have hc : ∀ x ∈ c.args.toList, ∀ t, x = .tmp t → t ∈ L := fun x hx => h x (by
      simp only [Op.operands, Call.operands, Array.mem_append]; exact .inr (by simpa using hx))
    simp only [pv]
    split
    · rename_i e1 e2 e3
      rw [e2] at hc
      exact arg_restr (hc _ (by simp))
    · rename_i e1 e2
      rw [e2] at hc
      rw [arg_restr (hc _ (by simp))]
      congr 1; funext a
      exact arg_restr (hc _ (by simp))
    · rename_i e1 e2
      rw [e2] at hc
      rw [arg_restr (hc _ (by simp))]
      congr 1; funext a
      exact arg_restr (hc _ (by simp))
    · rfl
  | _ => rfl

end Go.Abs
