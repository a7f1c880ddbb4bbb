/-
  DERIVED. GIVEN WITH THE SEED: THE CARDS: each row of YtldnolgijfkfpaaGreatDoorRows.lean that lists a variable, with what it lists TIED to the program's text (the seventh form; the later family's looks); each row that meets fmt, with fmt's text TOLD by the authors' own Lean function (tested against real Go, not proved from fmt's source: count such statements apart). THE CARD IS WHAT COUNTS. Prove the row's statement (the work); the ties are given (YtldnolgijfkfpaaGreatDoorTie.lean); close each card by the builder's one call (the guide's Derived/Test/ToyasCard.lean, 'card_holds'). Laid BY PROGRAM, IN A SANDBOX (cutbox-door.mjs). By AI agents, Wed Nov 11 2026. No macro, syntax, notation, axiom, sorry.
-/
import Derived.Test.YtldnolgijfkfpaaGreatDoorRows
import GoSem.ClaimSeven
namespace Go.Proofs.YtldnolgijfkfpaaGreatDoor
namespace Rows

/-- THE TIED CARD OF 'archivumlaw44.DigitizeChecks'. -/
def digitizeChecksCard : Claim7 := { stood := { row := digitizeChecksRow, standIns := [], harness := (true, "62835bff37872f84d74a16e8ad0111140da1f6402ad12692319f03e94d54ca98"), looks := false }, kinds := [], alts := [], laidByText := true, laidKinds := [.data, .data, .data], laidTests := true, laidLooks := .later }
def DigitizeChecksCardSaid : Prop := Claim7.holds Tryz.pinned (.plain (OpenSpec.ofChange digitizeChecksSpec)) digitizeChecksCard

/-- THE TIED CARD OF 'archivumlaw44.DigitizeWays'. -/
def digitizeWaysCard : Claim7 := { stood := { row := digitizeWaysRow, standIns := [], harness := (true, "62835bff37872f84d74a16e8ad0111140da1f6402ad12692319f03e94d54ca98"), looks := false }, kinds := [], alts := [], laidByText := true, laidKinds := [.data, .data, .data], laidTests := true, laidLooks := .later }
def DigitizeWaysCardSaid : Prop := Claim7.holds Tryz.pinned (.plain (OpenSpec.ofChange digitizeWaysSpec)) digitizeWaysCard

/-- THE TIED CARD OF 'archivumlaw44.DigitizeDraws'. -/
def digitizeDrawsCard : Claim7 := { stood := { row := digitizeDrawsRow, standIns := [], harness := (true, "62835bff37872f84d74a16e8ad0111140da1f6402ad12692319f03e94d54ca98"), looks := false }, kinds := [], alts := [], laidByText := true, laidKinds := [.data, .data, .data], laidTests := true, laidLooks := .later }
def DigitizeDrawsCardSaid : Prop := Claim7.holds Tryz.pinned (.plain (OpenSpec.ofChange digitizeDrawsSpec)) digitizeDrawsCard

/-- THE TIED CARD OF 'archivumlaw44.DigitizeOdds'. -/
def digitizeOddsCard : Claim7 := { stood := { row := digitizeOddsRow, standIns := [], harness := (true, "62835bff37872f84d74a16e8ad0111140da1f6402ad12692319f03e94d54ca98"), looks := false }, kinds := [], alts := [], laidByText := true, laidKinds := [.data, .data, .data], laidTests := true, laidLooks := .later }
def DigitizeOddsCardSaid : Prop := Claim7.holds Tryz.pinned (.plain (OpenSpec.ofChange digitizeOddsSpec)) digitizeOddsCard

/-- THE TIED CARD OF 'archivumlaw44.DigitizeSteps'. -/
def digitizeStepsCard : Claim7 := { stood := { row := digitizeStepsRow, standIns := [], harness := (true, "62835bff37872f84d74a16e8ad0111140da1f6402ad12692319f03e94d54ca98"), looks := false }, kinds := [], alts := [], laidByText := true, laidKinds := [.data, .data, .data], laidTests := true, laidLooks := .later }
def DigitizeStepsCardSaid : Prop := Claim7.holds Tryz.pinned (.plain (OpenSpec.ofChange digitizeStepsSpec)) digitizeStepsCard

/-- THE TIED CARD OF 'archivumlaw44.DigitizeDecides'. -/
def digitizeDecidesCard : Claim7 := { stood := { row := digitizeDecidesRow, standIns := [], harness := (true, "62835bff37872f84d74a16e8ad0111140da1f6402ad12692319f03e94d54ca98"), looks := false }, kinds := [], alts := [], laidByText := true, laidKinds := [.data, .data, .data], laidTests := true, laidLooks := .later }
def DigitizeDecidesCardSaid : Prop := Claim7.holds Tryz.pinned (.plain (OpenSpec.ofChange digitizeDecidesSpec)) digitizeDecidesCard

/-- THE TIED CARD OF 'archivumlaw44.DigitizeLinks'. -/
def digitizeLinksCard : Claim7 := { stood := { row := digitizeLinksRow, standIns := [], harness := (true, "62835bff37872f84d74a16e8ad0111140da1f6402ad12692319f03e94d54ca98"), looks := false }, kinds := [], alts := [], laidByText := true, laidKinds := [.data, .data, .data], laidTests := true, laidLooks := .later }
def DigitizeLinksCardSaid : Prop := Claim7.holds Tryz.pinned (.plain (OpenSpec.ofChange digitizeLinksSpec)) digitizeLinksCard

/-- THE TIED CARD OF 'archivumlaw44.DigitizeLinked'. -/
def digitizeLinkedCard : Claim7 := { stood := { row := digitizeLinkedRow, standIns := [], harness := (true, "62835bff37872f84d74a16e8ad0111140da1f6402ad12692319f03e94d54ca98"), looks := false }, kinds := [], alts := [], laidByText := true, laidKinds := [.data, .data, .data], laidTests := true, laidLooks := .later }
def DigitizeLinkedCardSaid : Prop := Claim7.holds Tryz.pinned (.plain (OpenSpec.ofChange digitizeLinkedSpec)) digitizeLinkedCard

/-- THE SECOND FORM's CARD OF 'archivumlaw44.DigitizeChecks'. -/
def digitizeChecksUptoCard : Claim7 := { stood := { row := digitizeChecksUptoRow, standIns := [], harness := (true, "62835bff37872f84d74a16e8ad0111140da1f6402ad12692319f03e94d54ca98"), looks := false }, kinds := [], alts := [], laidByText := true, laidKinds := [.data, .data, .data], laidTests := true, laidLooks := .later }
def DigitizeChecksUptoCardSaid : Prop := Claim7.holds Tryz.pinned (.plain (OpenSpec.upto digitizeChecksSpec)) digitizeChecksUptoCard

/-- THE SECOND FORM's CARD OF 'archivumlaw44.DigitizeWays'. -/
def digitizeWaysUptoCard : Claim7 := { stood := { row := digitizeWaysUptoRow, standIns := [], harness := (true, "62835bff37872f84d74a16e8ad0111140da1f6402ad12692319f03e94d54ca98"), looks := false }, kinds := [], alts := [], laidByText := true, laidKinds := [.data, .data, .data], laidTests := true, laidLooks := .later }
def DigitizeWaysUptoCardSaid : Prop := Claim7.holds Tryz.pinned (.plain (OpenSpec.upto digitizeWaysSpec)) digitizeWaysUptoCard

/-- THE SECOND FORM's CARD OF 'archivumlaw44.DigitizeDraws'. -/
def digitizeDrawsUptoCard : Claim7 := { stood := { row := digitizeDrawsUptoRow, standIns := [], harness := (true, "62835bff37872f84d74a16e8ad0111140da1f6402ad12692319f03e94d54ca98"), looks := false }, kinds := [], alts := [], laidByText := true, laidKinds := [.data, .data, .data], laidTests := true, laidLooks := .later }
def DigitizeDrawsUptoCardSaid : Prop := Claim7.holds Tryz.pinned (.plain (OpenSpec.upto digitizeDrawsSpec)) digitizeDrawsUptoCard

/-- THE SECOND FORM's CARD OF 'archivumlaw44.DigitizeOdds'. -/
def digitizeOddsUptoCard : Claim7 := { stood := { row := digitizeOddsUptoRow, standIns := [], harness := (true, "62835bff37872f84d74a16e8ad0111140da1f6402ad12692319f03e94d54ca98"), looks := false }, kinds := [], alts := [], laidByText := true, laidKinds := [.data, .data, .data], laidTests := true, laidLooks := .later }
def DigitizeOddsUptoCardSaid : Prop := Claim7.holds Tryz.pinned (.plain (OpenSpec.upto digitizeOddsSpec)) digitizeOddsUptoCard

/-- THE SECOND FORM's CARD OF 'archivumlaw44.DigitizeSteps'. -/
def digitizeStepsUptoCard : Claim7 := { stood := { row := digitizeStepsUptoRow, standIns := [], harness := (true, "62835bff37872f84d74a16e8ad0111140da1f6402ad12692319f03e94d54ca98"), looks := false }, kinds := [], alts := [], laidByText := true, laidKinds := [.data, .data, .data], laidTests := true, laidLooks := .later }
def DigitizeStepsUptoCardSaid : Prop := Claim7.holds Tryz.pinned (.plain (OpenSpec.upto digitizeStepsSpec)) digitizeStepsUptoCard

/-- THE SECOND FORM's CARD OF 'archivumlaw44.DigitizeDecides'. -/
def digitizeDecidesUptoCard : Claim7 := { stood := { row := digitizeDecidesUptoRow, standIns := [], harness := (true, "62835bff37872f84d74a16e8ad0111140da1f6402ad12692319f03e94d54ca98"), looks := false }, kinds := [], alts := [], laidByText := true, laidKinds := [.data, .data, .data], laidTests := true, laidLooks := .later }
def DigitizeDecidesUptoCardSaid : Prop := Claim7.holds Tryz.pinned (.plain (OpenSpec.upto digitizeDecidesSpec)) digitizeDecidesUptoCard

/-- THE SECOND FORM's CARD OF 'archivumlaw44.DigitizeLinks'. -/
def digitizeLinksUptoCard : Claim7 := { stood := { row := digitizeLinksUptoRow, standIns := [], harness := (true, "62835bff37872f84d74a16e8ad0111140da1f6402ad12692319f03e94d54ca98"), looks := false }, kinds := [], alts := [], laidByText := true, laidKinds := [.data, .data, .data], laidTests := true, laidLooks := .later }
def DigitizeLinksUptoCardSaid : Prop := Claim7.holds Tryz.pinned (.plain (OpenSpec.upto digitizeLinksSpec)) digitizeLinksUptoCard

/-- THE SECOND FORM's CARD OF 'archivumlaw44.DigitizeLinked'. -/
def digitizeLinkedUptoCard : Claim7 := { stood := { row := digitizeLinkedUptoRow, standIns := [], harness := (true, "62835bff37872f84d74a16e8ad0111140da1f6402ad12692319f03e94d54ca98"), looks := false }, kinds := [], alts := [], laidByText := true, laidKinds := [.data, .data, .data], laidTests := true, laidLooks := .later }
def DigitizeLinkedUptoCardSaid : Prop := Claim7.holds Tryz.pinned (.plain (OpenSpec.upto digitizeLinkedSpec)) digitizeLinkedUptoCard
end Rows
end Go.Proofs.YtldnolgijfkfpaaGreatDoor
