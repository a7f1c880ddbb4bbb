/- Contracts and lemmas, joined out of smaller texts by a program; no conditions. -/
import Derived.Test.YthlhlnbcjlpigaaGreatDoorKB8
set_option linter.unusedVariables false
set_option linter.unusedSimpArgs false
namespace Go.Proofs.YthlhlnbcjlpigaaGreatDoor
open Go.aU Go.bY
end Go.Proofs.YthlhlnbcjlpigaaGreatDoor
