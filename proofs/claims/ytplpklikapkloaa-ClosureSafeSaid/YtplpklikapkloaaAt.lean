/- Abstract values: what the evaluation rewrites by; rules with the rest of the code out of sight. -/
import Derived.Test.YtplpklikapkloaaAs
namespace Go.Abs
set_option linter.unusedVariables false
set_option linter.unusedSimpArgs false

section
variable {P : Program} {Q : Exit → St → Prop} {s : St}

theorem awp_reg_seq {id : Nat} {ops : List Oper} {y : Code} (h : ∀ K : St → Prop, (∀ s', AWP P y Q s' → K s') → evalOps P false ops ops s K) : AWP P (.seq (.region id ops.toArray false) y) Q s :=
  awp_seq (awp_region (h _ fun _ h => h))

theorem awp_reg_end {id : Nat} {ops : List Oper} (h : ∀ K : St → Prop, (∀ s', Q .normal s' → K s') → evalOps P false ops ops s K) : AWP P (.region id ops.toArray false) Q s :=
  awp_region (h _ fun _ h => h)

theorem awp_draw_seq {id : Nat} {ops : List Oper} {y : Code} (m : Nat) (hm : P.follows .mixedOrders = true) (hok : (drawOk ops m && Nat.ble m ops.length) = true) (h : ∀ K : St → Prop, (∀ s', AWP P y Q s' → K s') → evalOps P true ops (ops.take m) s (Rest P false ops (ops.drop m) K)) : AWP P (.seq (.region id ops.toArray true) y) Q s :=
  awp_seq (awp_draw m hm hok (h _ fun _ h => h))

theorem awp_draw_end {id : Nat} {ops : List Oper} (m : Nat) (hm : P.follows .mixedOrders = true) (hok : (drawOk ops m && Nat.ble m ops.length) = true) (h : ∀ K : St → Prop, (∀ s', Q .normal s' → K s') → evalOps P true ops (ops.take m) s (Rest P false ops (ops.drop m) K)) : AWP P (.region id ops.toArray true) Q s :=
  awp_draw m hm hok (h _ fun _ h => h)


end

theorem cond_false_r (b p : Bool) : cond b p false = (b && p) := by cases b <;> rfl
theorem cond_true_l (b q : Bool) : cond b true q = (b || q) := by cases b <;> rfl

attribute [go_sem ↓] evalOps_nil evalOps_cons Rest_mk guardA opA effG arg args pv bin un intBin strBin shiftBin fieldAddrA loadA storeA partsA buildA resAs lenA minmaxA indexAddrA indexArrA sliceA bnd nilEqA srcA appendA makeA buildSliceA clearA
attribute [go_sem] Rest_mk Abs.get Abs.put Abs.del St.put St.newVar St.after cellsOf allOne oneOk Value.oneCell' wrapG val ofConst isShift
  readAt loaded St.init initT resA tupA storeBlk setRange gvA nthOp fillA eqB eq1
  List.drop List.take List.map List.set List.length List.getElem?_cons_zero List.getElem?_cons_succ List.headD
  Nat.beq_eq Nat.ble_eq Nat.blt_eq cond_false_r cond_true_l

attribute [congr] CSg_congr CSk_congr CSm_congr YSk_congr YSe_congr
attribute [go_sem] List.nil_append List.cons_append List.append_nil

end Go.Abs
