/- Contracts and lemmas, joined out of smaller texts by a program; no conditions. -/
import Derived.Test.YtmahphgjkpgidaaGreatDoorKB9
import Derived.Test.YtmahphgjkpgidaaGreatDoorKB8
set_option linter.unusedVariables false
set_option linter.unusedSimpArgs false
set_option maxHeartbeats 400000
set_option maxRecDepth 100000
namespace Go.Proofs.YtmahphgjkpgidaaGreatDoor
open Go.aU Go.dh Go.Proofs.Tryz
theorem zF{P:Program}{Q:Exit->St->Prop}{s:St}{g:Operand}{ps:Array Tmp}{assign body:Code}{fid:FuncId}{first captured:List AV}(hg:val s g=some (.clo (.func fid) first captured))(t':List (Nat×AV))(ht:Qj t' s.t)
  (h: ∀La:jJ,La=⟨s.N,t',ps,assign,body⟩->CS P fid (first++(.zL s.σ.length::captured)) (s.σ++[.lp La .ready none]) fun r σ' X=> ∃AY L' st pd,σ'=AY++[.lp L' st pd]/\aU.Leaves s.σ AY/\st≠.busy/\oW s.σ.length X/\Vf Q (s.after AY X) pd):
  fA P (.rangeFunc g ps assign body) Q s:=awp_range hg t' ht (h _ rfl)
end Go.Proofs.YtmahphgjkpgidaaGreatDoor
