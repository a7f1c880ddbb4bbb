/- Contracts and lemmas, joined out of smaller texts by a program; no conditions. -/
import Derived.Test.YthlhlnbcjlpigaaGreatDoorKB7
import Derived.Test.YthlhlnbcjlpigaaGreatDoorKB8
set_option linter.unusedVariables false
set_option linter.unusedSimpArgs false
set_option maxHeartbeats 400000
set_option maxRecDepth 100000
namespace Go.Proofs.YthlhlnbcjlpigaaGreatDoor
open Go.aU Go.bY Go.Proofs.Tryz
theorem xR{P:Program}{Q:Exit->St->Prop}{s:St}{g:Operand}{ps:Array Tmp}{assign body:Code}{fid:FuncId}{first captured:List AV}(hg:val s g=some (.clo (.func fid) first captured))(t':List (Nat×AV))(ht:MK t' s.t)
  (h: ∀La:jo,La=⟨s.N,t',ps,assign,body⟩->CS P fid (first++(.xX s.σ.length::captured)) (s.σ++[.lp La .ready none]) fun r σ' X=> ∃yP L' st pd,σ'=yP++[.lp L' st pd]/\aU.Leaves s.σ yP/\st≠.busy/\mY s.σ.length X/\Sz Q (s.after yP X) pd):
  dY P (.rangeFunc g ps assign body) Q s:=awp_range hg t' ht (h _ rfl)
end Go.Proofs.YthlhlnbcjlpigaaGreatDoor
