/-
  DERIVED. GIVEN WITH THE SEED: THE CARDS: each row of YtnbokgmimbeihaaGreatDoorRows.lean that lists a variable, with what it lists TIED to the program's text (the seventh form; the later family's looks); each row that meets fmt, with fmt's text TOLD by the authors' own Lean function (tested against real Go, not proved from fmt's source: count such statements apart). THE CARD IS WHAT COUNTS. Prove the row's statement (the work); the ties are given (YtnbokgmimbeihaaGreatDoorTie.lean); close each card by the builder's one call (the guide's Derived/Test/ToyasCard.lean, 'card_holds'). Laid BY PROGRAM, IN A SANDBOX (cutbox-door.mjs). By AI agents, Wed Nov 11 2026. No macro, syntax, notation, axiom, sorry.
-/
import Derived.Test.YtnbokgmimbeihaaGreatDoorRows
import GoSem.ClaimSeven
namespace Go.Proofs.YtnbokgmimbeihaaGreatDoor
namespace Rows

/-- THE TIED CARD OF 'archivumlaw17.AccessionChecks'. -/
def accessionChecksCard : Claim7 := { stood := { row := accessionChecksRow, standIns := [], harness := (true, "f78517b84f7fc1f38517dd4b286b7152e0ce7626ea478176719cc04931606fbc"), looks := false }, kinds := [], alts := [], laidByText := true, laidKinds := [.data, .data, .data], laidTests := true, laidLooks := .later }
def AccessionChecksCardSaid : Prop := Claim7.holds Tryz.pinned (.plain (OpenSpec.ofChange accessionChecksSpec)) accessionChecksCard

/-- THE TIED CARD OF 'archivumlaw17.AccessionChanges'. -/
def accessionChangesCard : Claim7 := { stood := { row := accessionChangesRow, standIns := [], harness := (true, "f78517b84f7fc1f38517dd4b286b7152e0ce7626ea478176719cc04931606fbc"), looks := false }, kinds := [], alts := [], laidByText := true, laidKinds := [.data, .data, .data], laidTests := true, laidLooks := .later }
def AccessionChangesCardSaid : Prop := Claim7.holds Tryz.pinned (.plain (OpenSpec.ofChange accessionChangesSpec)) accessionChangesCard

/-- THE TIED CARD OF 'archivumlaw17.AccessionCloses'. -/
def accessionClosesCard : Claim7 := { stood := { row := accessionClosesRow, standIns := [], harness := (true, "f78517b84f7fc1f38517dd4b286b7152e0ce7626ea478176719cc04931606fbc"), looks := false }, kinds := [], alts := [], laidByText := true, laidKinds := [.data, .data, .data], laidTests := true, laidLooks := .later }
def AccessionClosesCardSaid : Prop := Claim7.holds Tryz.pinned (.plain (OpenSpec.ofChange accessionClosesSpec)) accessionClosesCard

/-- THE TIED CARD OF 'archivumlaw17.AccessionCompares'. -/
def accessionComparesCard : Claim7 := { stood := { row := accessionComparesRow, standIns := [], harness := (true, "f78517b84f7fc1f38517dd4b286b7152e0ce7626ea478176719cc04931606fbc"), looks := false }, kinds := [], alts := [], laidByText := true, laidKinds := [.data, .data, .data], laidTests := true, laidLooks := .later }
def AccessionComparesCardSaid : Prop := Claim7.holds Tryz.pinned (.plain (OpenSpec.ofChange accessionComparesSpec)) accessionComparesCard

/-- THE TIED CARD OF 'archivumlaw17.AccessionExact'. -/
def accessionExactCard : Claim7 := { stood := { row := accessionExactRow, standIns := [], harness := (true, "f78517b84f7fc1f38517dd4b286b7152e0ce7626ea478176719cc04931606fbc"), looks := false }, kinds := [], alts := [], laidByText := true, laidKinds := [.data, .data, .data], laidTests := true, laidLooks := .later }
def AccessionExactCardSaid : Prop := Claim7.holds Tryz.pinned (.plain (OpenSpec.ofChange accessionExactSpec)) accessionExactCard

/-- THE TIED CARD OF 'archivumlaw17.AccessionCounts'. -/
def accessionCountsCard : Claim7 := { stood := { row := accessionCountsRow, standIns := [], harness := (true, "f78517b84f7fc1f38517dd4b286b7152e0ce7626ea478176719cc04931606fbc"), looks := false }, kinds := [], alts := [], laidByText := true, laidKinds := [.data, .data, .data], laidTests := true, laidLooks := .later }
def AccessionCountsCardSaid : Prop := Claim7.holds Tryz.pinned (.plain (OpenSpec.ofChange accessionCountsSpec)) accessionCountsCard

/-- THE TIED CARD OF 'archivumlaw17.AccessionLocal'. -/
def accessionLocalCard : Claim7 := { stood := { row := accessionLocalRow, standIns := [], harness := (true, "f78517b84f7fc1f38517dd4b286b7152e0ce7626ea478176719cc04931606fbc"), looks := false }, kinds := [], alts := [], laidByText := true, laidKinds := [.data, .data, .data], laidTests := true, laidLooks := .later }
def AccessionLocalCardSaid : Prop := Claim7.holds Tryz.pinned (.plain (OpenSpec.ofChange accessionLocalSpec)) accessionLocalCard

/-- THE SECOND FORM's CARD OF 'archivumlaw17.AccessionChecks'. -/
def accessionChecksUptoCard : Claim7 := { stood := { row := accessionChecksUptoRow, standIns := [], harness := (true, "f78517b84f7fc1f38517dd4b286b7152e0ce7626ea478176719cc04931606fbc"), looks := false }, kinds := [], alts := [], laidByText := true, laidKinds := [.data, .data, .data], laidTests := true, laidLooks := .later }
def AccessionChecksUptoCardSaid : Prop := Claim7.holds Tryz.pinned (.plain (OpenSpec.upto accessionChecksSpec)) accessionChecksUptoCard

/-- THE SECOND FORM's CARD OF 'archivumlaw17.AccessionChanges'. -/
def accessionChangesUptoCard : Claim7 := { stood := { row := accessionChangesUptoRow, standIns := [], harness := (true, "f78517b84f7fc1f38517dd4b286b7152e0ce7626ea478176719cc04931606fbc"), looks := false }, kinds := [], alts := [], laidByText := true, laidKinds := [.data, .data, .data], laidTests := true, laidLooks := .later }
def AccessionChangesUptoCardSaid : Prop := Claim7.holds Tryz.pinned (.plain (OpenSpec.upto accessionChangesSpec)) accessionChangesUptoCard

/-- THE SECOND FORM's CARD OF 'archivumlaw17.AccessionCloses'. -/
def accessionClosesUptoCard : Claim7 := { stood := { row := accessionClosesUptoRow, standIns := [], harness := (true, "f78517b84f7fc1f38517dd4b286b7152e0ce7626ea478176719cc04931606fbc"), looks := false }, kinds := [], alts := [], laidByText := true, laidKinds := [.data, .data, .data], laidTests := true, laidLooks := .later }
def AccessionClosesUptoCardSaid : Prop := Claim7.holds Tryz.pinned (.plain (OpenSpec.upto accessionClosesSpec)) accessionClosesUptoCard

/-- THE SECOND FORM's CARD OF 'archivumlaw17.AccessionCompares'. -/
def accessionComparesUptoCard : Claim7 := { stood := { row := accessionComparesUptoRow, standIns := [], harness := (true, "f78517b84f7fc1f38517dd4b286b7152e0ce7626ea478176719cc04931606fbc"), looks := false }, kinds := [], alts := [], laidByText := true, laidKinds := [.data, .data, .data], laidTests := true, laidLooks := .later }
def AccessionComparesUptoCardSaid : Prop := Claim7.holds Tryz.pinned (.plain (OpenSpec.upto accessionComparesSpec)) accessionComparesUptoCard

/-- THE SECOND FORM's CARD OF 'archivumlaw17.AccessionExact'. -/
def accessionExactUptoCard : Claim7 := { stood := { row := accessionExactUptoRow, standIns := [], harness := (true, "f78517b84f7fc1f38517dd4b286b7152e0ce7626ea478176719cc04931606fbc"), looks := false }, kinds := [], alts := [], laidByText := true, laidKinds := [.data, .data, .data], laidTests := true, laidLooks := .later }
def AccessionExactUptoCardSaid : Prop := Claim7.holds Tryz.pinned (.plain (OpenSpec.upto accessionExactSpec)) accessionExactUptoCard

/-- THE SECOND FORM's CARD OF 'archivumlaw17.AccessionCounts'. -/
def accessionCountsUptoCard : Claim7 := { stood := { row := accessionCountsUptoRow, standIns := [], harness := (true, "f78517b84f7fc1f38517dd4b286b7152e0ce7626ea478176719cc04931606fbc"), looks := false }, kinds := [], alts := [], laidByText := true, laidKinds := [.data, .data, .data], laidTests := true, laidLooks := .later }
def AccessionCountsUptoCardSaid : Prop := Claim7.holds Tryz.pinned (.plain (OpenSpec.upto accessionCountsSpec)) accessionCountsUptoCard

/-- THE SECOND FORM's CARD OF 'archivumlaw17.AccessionLocal'. -/
def accessionLocalUptoCard : Claim7 := { stood := { row := accessionLocalUptoRow, standIns := [], harness := (true, "f78517b84f7fc1f38517dd4b286b7152e0ce7626ea478176719cc04931606fbc"), looks := false }, kinds := [], alts := [], laidByText := true, laidKinds := [.data, .data, .data], laidTests := true, laidLooks := .later }
def AccessionLocalUptoCardSaid : Prop := Claim7.holds Tryz.pinned (.plain (OpenSpec.upto accessionLocalSpec)) accessionLocalUptoCard
end Rows
end Go.Proofs.YtnbokgmimbeihaaGreatDoor
