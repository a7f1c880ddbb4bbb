/-
  DERIVED. GIVEN WITH THE SEED: THE CARDS: each row of YthlhlnbcjlpigaaGreatDoorRows.lean that lists a variable, with what it lists TIED to the program's text (the seventh form; the later family's looks); each row that meets fmt, with fmt's text TOLD by the authors' own Lean function (tested against real Go, not proved from fmt's source: count such statements apart). THE CARD IS WHAT COUNTS. Prove the row's statement (the work); the ties are given (YthlhlnbcjlpigaaGreatDoorTie.lean); close each card by the builder's one call (the guide's Derived/Test/ToyasCard.lean, 'card_holds'). Laid BY PROGRAM, IN A SANDBOX (cutbox-door.mjs). By AI agents, Wed Nov 11 2026. No macro, syntax, notation, axiom, sorry.
-/
import Derived.Test.YthlhlnbcjlpigaaGreatDoorRows
import GoSem.ClaimSeven
namespace Go.Proofs.YthlhlnbcjlpigaaGreatDoor
namespace Rows

/-- THE TIED CARD OF 'archivumlaw45.ServicePlaces'. -/
def servicePlacesCard : Claim7 := { stood := { row := servicePlacesRow, standIns := [], harness := (true, "e10cda3979fdc64fe5e4145d4b1e205a9353c0887c35b4bd8f078036a62334be"), looks := false }, kinds := [], alts := [], laidByText := true, laidKinds := [.data, .data, .data], laidTests := true, laidLooks := .later }
def ServicePlacesCardSaid : Prop := Claim7.holds Tryz.pinned (.plain (OpenSpec.ofChange servicePlacesSpec)) servicePlacesCard

/-- THE TIED CARD OF 'archivumlaw45.ServiceChecks'. -/
def serviceChecksCard : Claim7 := { stood := { row := serviceChecksRow, standIns := [], harness := (true, "e10cda3979fdc64fe5e4145d4b1e205a9353c0887c35b4bd8f078036a62334be"), looks := false }, kinds := [], alts := [], laidByText := true, laidKinds := [.data, .data, .data], laidTests := true, laidLooks := .later }
def ServiceChecksCardSaid : Prop := Claim7.holds Tryz.pinned (.plain (OpenSpec.ofChange serviceChecksSpec)) serviceChecksCard

/-- THE SECOND FORM's CARD OF 'archivumlaw45.ServicePlaces'. -/
def servicePlacesUptoCard : Claim7 := { stood := { row := servicePlacesUptoRow, standIns := [], harness := (true, "e10cda3979fdc64fe5e4145d4b1e205a9353c0887c35b4bd8f078036a62334be"), looks := false }, kinds := [], alts := [], laidByText := true, laidKinds := [.data, .data, .data], laidTests := true, laidLooks := .later }
def ServicePlacesUptoCardSaid : Prop := Claim7.holds Tryz.pinned (.plain (OpenSpec.upto servicePlacesSpec)) servicePlacesUptoCard

/-- THE SECOND FORM's CARD OF 'archivumlaw45.ServiceChecks'. -/
def serviceChecksUptoCard : Claim7 := { stood := { row := serviceChecksUptoRow, standIns := [], harness := (true, "e10cda3979fdc64fe5e4145d4b1e205a9353c0887c35b4bd8f078036a62334be"), looks := false }, kinds := [], alts := [], laidByText := true, laidKinds := [.data, .data, .data], laidTests := true, laidLooks := .later }
def ServiceChecksUptoCardSaid : Prop := Claim7.holds Tryz.pinned (.plain (OpenSpec.upto serviceChecksSpec)) serviceChecksUptoCard
end Rows
end Go.Proofs.YthlhlnbcjlpigaaGreatDoor
