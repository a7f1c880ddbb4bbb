/- The functions of the two statements by their names, reckoned off the program; no conditions. -/
import Derived.Test.YthpplckmbbachaaGreatDoorTie
import Derived.KernelRfl
namespace Go.Proofs.YthpplckmbbachaaGreatDoor
open Go
set_option linter.unusedVariables false
set_option linter.unusedSimpArgs false
set_option maxRecDepth 100000
theorem serviceSteps.fnd : Tryz.prog.funcNamed "archivum/archivumlaw45.ServiceSteps" = some 3 := by kernel_rfl
theorem serviceRuns.fnd : Tryz.prog.funcNamed "archivum/archivumlaw45.ServiceRuns" = some 4 := by kernel_rfl
end Go.Proofs.YthpplckmbbachaaGreatDoor
