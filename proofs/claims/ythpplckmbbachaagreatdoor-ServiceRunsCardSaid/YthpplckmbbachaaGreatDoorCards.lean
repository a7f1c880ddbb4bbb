/-
  DERIVED. GIVEN WITH THE SEED: THE CARDS: each row of YthpplckmbbachaaGreatDoorRows.lean that lists a variable, with what it lists TIED to the program's text (the seventh form; the later family's looks); each row that meets fmt, with fmt's text TOLD by the authors' own Lean function (tested against real Go, not proved from fmt's source: count such statements apart). THE CARD IS WHAT COUNTS. Prove the row's statement (the work); the ties are given (YthpplckmbbachaaGreatDoorTie.lean); close each card by the builder's one call (the guide's Derived/Test/ToyasCard.lean, 'card_holds'). Laid BY PROGRAM, IN A SANDBOX (cutbox-door.mjs). By AI agents, Wed Nov 11 2026. No macro, syntax, notation, axiom, sorry.
-/
import Derived.Test.YthpplckmbbachaaGreatDoorRows
import GoSem.ClaimSeven
namespace Go.Proofs.YthpplckmbbachaaGreatDoor
namespace Rows

/-- THE TIED CARD OF 'archivumlaw45.ServiceSteps'. -/
def serviceStepsCard : Claim7 := { stood := { row := serviceStepsRow, standIns := [], harness := (true, "830c9803c3a58d820bc85da3b48b420c19cac6a4e558bba0958798c7e7223139"), looks := false }, kinds := [], alts := [], laidByText := true, laidKinds := [.data, .data, .data], laidTests := true, laidLooks := .later }
def ServiceStepsCardSaid : Prop := Claim7.holds Tryz.pinned (.plain (OpenSpec.ofChange serviceStepsSpec)) serviceStepsCard

/-- THE TIED CARD OF 'archivumlaw45.ServiceRuns'. -/
def serviceRunsCard : Claim7 := { stood := { row := serviceRunsRow, standIns := [], harness := (true, "830c9803c3a58d820bc85da3b48b420c19cac6a4e558bba0958798c7e7223139"), looks := false }, kinds := [], alts := [], laidByText := true, laidKinds := [.data, .data, .data], laidTests := true, laidLooks := .later }
def ServiceRunsCardSaid : Prop := Claim7.holds Tryz.pinned (.plain (OpenSpec.ofChange serviceRunsSpec)) serviceRunsCard

/-- THE SECOND FORM's CARD OF 'archivumlaw45.ServiceSteps'. -/
def serviceStepsUptoCard : Claim7 := { stood := { row := serviceStepsUptoRow, standIns := [], harness := (true, "830c9803c3a58d820bc85da3b48b420c19cac6a4e558bba0958798c7e7223139"), looks := false }, kinds := [], alts := [], laidByText := true, laidKinds := [.data, .data, .data], laidTests := true, laidLooks := .later }
def ServiceStepsUptoCardSaid : Prop := Claim7.holds Tryz.pinned (.plain (OpenSpec.upto serviceStepsSpec)) serviceStepsUptoCard

/-- THE SECOND FORM's CARD OF 'archivumlaw45.ServiceRuns'. -/
def serviceRunsUptoCard : Claim7 := { stood := { row := serviceRunsUptoRow, standIns := [], harness := (true, "830c9803c3a58d820bc85da3b48b420c19cac6a4e558bba0958798c7e7223139"), looks := false }, kinds := [], alts := [], laidByText := true, laidKinds := [.data, .data, .data], laidTests := true, laidLooks := .later }
def ServiceRunsUptoCardSaid : Prop := Claim7.holds Tryz.pinned (.plain (OpenSpec.upto serviceRunsSpec)) serviceRunsUptoCard
end Rows
end Go.Proofs.YthpplckmbbachaaGreatDoor
