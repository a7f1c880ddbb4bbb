/- Lemmas, no conditions. -/
import Derived.Test.YthpplckmbbachaaGreatDoorKB12
set_option linter.unusedVariables false
set_option linter.unusedSimpArgs false
set_option maxHeartbeats 400000
set_option maxRecDepth 100000
namespace Go.Proofs.YthpplckmbbachaaGreatDoor
open Go.aI Go.bI Go.Proofs.Tryz
theorem qO{P Q s g ps assign body fid first captured}(hg:val s g=some (.clo (.func fid) first captured))(t')(ht:DG t' s.t)
  (h: ∀La:gH,La=⟨s.N,t',ps,assign,body⟩->CS P fid (first++(.rl s.σ.length::captured)) (s.σ++[.lp La .ready none]) fun r σ' X=> ∃rG L' st pd,σ'=rG++[.lp L' st pd]/\aI.Leaves s.σ rG/\st≠.busy/\jQ s.σ.length X/\HW Q (s.after rG X) pd):
  cV P (.rangeFunc g ps assign body) Q s:=Vh hg t' ht (h _ rfl)
end Go.Proofs.YthpplckmbbachaaGreatDoor
namespace Go.Proofs.YthpplckmbbachaaGreatDoor
open Go.aI Go.bI
end Go.Proofs.YthpplckmbbachaaGreatDoor
