/- Contracts and lemmas, joined out of smaller texts by a program; no conditions. -/
import Derived.Test.YthlhlnbcjlpigaaGreatDoorKB6
set_option linter.unusedVariables false
set_option linter.unusedSimpArgs false
namespace Go.Proofs.YthlhlnbcjlpigaaGreatDoor
open Go.aU Go.bY
def apart(a b:Rule):Prop:=a.In.Until<=b.In.From\/b.In.Until<=a.In.From
theorem apart.symm{a b:Rule}(h:apart a b):apart b a:=h.elim .inr .inl
end Go.Proofs.YthlhlnbcjlpigaaGreatDoor
