/-
  DERIVED. GIVEN WITH THE SEED: THE CARDS: each row of YtmahphgjkpgidaaGreatDoorRows.lean that lists a variable, with what it lists TIED to the program's text (the seventh form; the later family's looks); each row that meets fmt, with fmt's text TOLD by the authors' own Lean function (tested against real Go, not proved from fmt's source: count such statements apart). THE CARD IS WHAT COUNTS. Prove the row's statement (the work); the ties are given (YtmahphgjkpgidaaGreatDoorTie.lean); close each card by the builder's one call (the guide's Derived/Test/ToyasCard.lean, 'card_holds'). Laid BY PROGRAM, IN A SANDBOX (cutbox-door.mjs). By AI agents, Wed Nov 11 2026. No macro, syntax, notation, axiom, sorry.
-/
import Derived.Test.YtmahphgjkpgidaaGreatDoorRows
import GoSem.ClaimSeven
namespace Go.Proofs.YtmahphgjkpgidaaGreatDoor
namespace Rows

/-- THE TIED CARD OF 'archivumlaw45.ServicePast'. -/
def servicePastCard : Claim7 := { stood := { row := servicePastRow, standIns := [], harness := (true, "1635e2b0b1b9a1b7ef04fe34633cf97244adac67d70b4d2c3ed34af990217c23"), looks := false }, kinds := [], alts := [], laidByText := true, laidKinds := [.data, .data, .data], laidTests := true, laidLooks := .later }
def ServicePastCardSaid : Prop := Claim7.holds Tryz.pinned (.plain (OpenSpec.ofChange servicePastSpec)) servicePastCard

/-- THE TIED CARD OF 'archivumlaw45.ServiceParts'. -/
def servicePartsCard : Claim7 := { stood := { row := servicePartsRow, standIns := [], harness := (true, "1635e2b0b1b9a1b7ef04fe34633cf97244adac67d70b4d2c3ed34af990217c23"), looks := false }, kinds := [], alts := [], laidByText := true, laidKinds := [.data, .data, .data], laidTests := true, laidLooks := .later }
def ServicePartsCardSaid : Prop := Claim7.holds Tryz.pinned (.plain (OpenSpec.ofChange servicePartsSpec)) servicePartsCard

/-- THE TIED CARD OF 'archivumlaw45.ServiceStays'. -/
def serviceStaysCard : Claim7 := { stood := { row := serviceStaysRow, standIns := [], harness := (true, "1635e2b0b1b9a1b7ef04fe34633cf97244adac67d70b4d2c3ed34af990217c23"), looks := false }, kinds := [], alts := [], laidByText := true, laidKinds := [.data, .data, .data], laidTests := true, laidLooks := .later }
def ServiceStaysCardSaid : Prop := Claim7.holds Tryz.pinned (.plain (OpenSpec.ofChange serviceStaysSpec)) serviceStaysCard

/-- THE TIED CARD OF 'archivumlaw45.ServiceShows'. -/
def serviceShowsCard : Claim7 := { stood := { row := serviceShowsRow, standIns := [], harness := (true, "1635e2b0b1b9a1b7ef04fe34633cf97244adac67d70b4d2c3ed34af990217c23"), looks := false }, kinds := [], alts := [], laidByText := true, laidKinds := [.data, .data, .data], laidTests := true, laidLooks := .later }
def ServiceShowsCardSaid : Prop := Claim7.holds Tryz.pinned (.plain (OpenSpec.ofChange serviceShowsSpec)) serviceShowsCard

/-- THE SECOND FORM's CARD OF 'archivumlaw45.ServicePast'. -/
def servicePastUptoCard : Claim7 := { stood := { row := servicePastUptoRow, standIns := [], harness := (true, "1635e2b0b1b9a1b7ef04fe34633cf97244adac67d70b4d2c3ed34af990217c23"), looks := false }, kinds := [], alts := [], laidByText := true, laidKinds := [.data, .data, .data], laidTests := true, laidLooks := .later }
def ServicePastUptoCardSaid : Prop := Claim7.holds Tryz.pinned (.plain (OpenSpec.upto servicePastSpec)) servicePastUptoCard

/-- THE SECOND FORM's CARD OF 'archivumlaw45.ServiceParts'. -/
def servicePartsUptoCard : Claim7 := { stood := { row := servicePartsUptoRow, standIns := [], harness := (true, "1635e2b0b1b9a1b7ef04fe34633cf97244adac67d70b4d2c3ed34af990217c23"), looks := false }, kinds := [], alts := [], laidByText := true, laidKinds := [.data, .data, .data], laidTests := true, laidLooks := .later }
def ServicePartsUptoCardSaid : Prop := Claim7.holds Tryz.pinned (.plain (OpenSpec.upto servicePartsSpec)) servicePartsUptoCard

/-- THE SECOND FORM's CARD OF 'archivumlaw45.ServiceStays'. -/
def serviceStaysUptoCard : Claim7 := { stood := { row := serviceStaysUptoRow, standIns := [], harness := (true, "1635e2b0b1b9a1b7ef04fe34633cf97244adac67d70b4d2c3ed34af990217c23"), looks := false }, kinds := [], alts := [], laidByText := true, laidKinds := [.data, .data, .data], laidTests := true, laidLooks := .later }
def ServiceStaysUptoCardSaid : Prop := Claim7.holds Tryz.pinned (.plain (OpenSpec.upto serviceStaysSpec)) serviceStaysUptoCard

/-- THE SECOND FORM's CARD OF 'archivumlaw45.ServiceShows'. -/
def serviceShowsUptoCard : Claim7 := { stood := { row := serviceShowsUptoRow, standIns := [], harness := (true, "1635e2b0b1b9a1b7ef04fe34633cf97244adac67d70b4d2c3ed34af990217c23"), looks := false }, kinds := [], alts := [], laidByText := true, laidKinds := [.data, .data, .data], laidTests := true, laidLooks := .later }
def ServiceShowsUptoCardSaid : Prop := Claim7.holds Tryz.pinned (.plain (OpenSpec.upto serviceShowsSpec)) serviceShowsUptoCard
end Rows
end Go.Proofs.YtmahphgjkpgidaaGreatDoor
