/-
  NARROWER THAN 'FOR EVERY INPUT', by the rows' own cells (each row's printed sentence says how): DigitizeChecks: laid · DigitizeWays: laid · DigitizeDraws: laid · DigitizeOdds: laid · DigitizeSteps: laid · DigitizeDecides: laid · DigitizeLinks: laid · DigitizeLinked: laid.
  DERIVED. THE GIVEN ROWS OF THIS SEAT. 8 by the template 'for every input the law returns true; each argument reads behind the call as it read before'; 0 by the template 'total and deterministic' (their statements: YtldnolgijfkfpaaGreatDoorTotals.lean).
  GIVEN WITH THE SEED: the statements are not yours to turn. If you find one false, say at which input.
  Laid BY PROGRAM, IN A SANDBOX (cutbox-rows.mjs): the forced cells as the released guide's own fill.sh prints them over the translation 4a39a8a37e2280b2… (all of the seat's roots in one cut). By AI agents, Wed Nov 11 2026. No macro, syntax, notation, axiom, sorry.
-/
import Derived.Test.YtldnolgijfkfpaaGreatDoorChecked
import GoSem.Claim
import GoSem.ClaimJoined
import GoSem.ClaimMapViews
import Derived.JoinedTies
import Derived.KernelRfl
namespace Go.Proofs.YtldnolgijfkfpaaGreatDoor
/- THE CELL 'sum', in the pinned program and in every row, IS THE sha256 OF THE DUMP (.gsa) THAT YtldnolgijfkfpaaGreatDoorProg.lean LOADS. Nothing in Lean hashes anything: it is a label: what it is worth is what the hold of that sum in a sandbox is worth. -/
noncomputable def Tryz.pinned : Pinned := { name := "ytldnolgijfkfpaagreatdoor", sum := "4a39a8a37e2280b2f55321a6395e30b147dd26417ee8a0d56113500b937f931d", checked := Tryz.checked }
namespace Rows
def none {H : Type} : Left H := { results := [], args := [] }

/- WHAT THE LISTED PACKAGE-LEVEL VARIABLES READ AS WHEN THE CALL BEGINS. Each datum BY PROGRAM (the guide's laid-datum.mjs) off the statement by which the dump's own 'gosem.cut.vars' lays the variable. In a bare row this is a premise. The card (YtldnolgijfkfpaaGreatDoorCards.lean) ties it to the program's text. -/
def laid_math_bits_deBruijn32tab {H : Type} : DataW H := .agg [.lit (.int .u8 0), .lit (.int .u8 1), .lit (.int .u8 28), .lit (.int .u8 2), .lit (.int .u8 29), .lit (.int .u8 14), .lit (.int .u8 24), .lit (.int .u8 3), .lit (.int .u8 30), .lit (.int .u8 22), .lit (.int .u8 20), .lit (.int .u8 15), .lit (.int .u8 25), .lit (.int .u8 17), .lit (.int .u8 4), .lit (.int .u8 8), .lit (.int .u8 31), .lit (.int .u8 27), .lit (.int .u8 13), .lit (.int .u8 23), .lit (.int .u8 21), .lit (.int .u8 19), .lit (.int .u8 16), .lit (.int .u8 7), .lit (.int .u8 26), .lit (.int .u8 12), .lit (.int .u8 18), .lit (.int .u8 6), .lit (.int .u8 11), .lit (.int .u8 5), .lit (.int .u8 10), .lit (.int .u8 9)]
def laid_math_bits_deBruijn64tab {H : Type} : DataW H := .agg [.lit (.int .u8 0), .lit (.int .u8 1), .lit (.int .u8 56), .lit (.int .u8 2), .lit (.int .u8 57), .lit (.int .u8 49), .lit (.int .u8 28), .lit (.int .u8 3), .lit (.int .u8 61), .lit (.int .u8 58), .lit (.int .u8 42), .lit (.int .u8 50), .lit (.int .u8 38), .lit (.int .u8 29), .lit (.int .u8 17), .lit (.int .u8 4), .lit (.int .u8 62), .lit (.int .u8 47), .lit (.int .u8 59), .lit (.int .u8 36), .lit (.int .u8 45), .lit (.int .u8 43), .lit (.int .u8 51), .lit (.int .u8 22), .lit (.int .u8 53), .lit (.int .u8 39), .lit (.int .u8 33), .lit (.int .u8 30), .lit (.int .u8 24), .lit (.int .u8 18), .lit (.int .u8 12), .lit (.int .u8 5), .lit (.int .u8 63), .lit (.int .u8 55), .lit (.int .u8 48), .lit (.int .u8 27), .lit (.int .u8 60), .lit (.int .u8 41), .lit (.int .u8 37), .lit (.int .u8 16), .lit (.int .u8 46), .lit (.int .u8 35), .lit (.int .u8 44), .lit (.int .u8 21), .lit (.int .u8 52), .lit (.int .u8 32), .lit (.int .u8 23), .lit (.int .u8 11), .lit (.int .u8 54), .lit (.int .u8 26), .lit (.int .u8 40), .lit (.int .u8 15), .lit (.int .u8 34), .lit (.int .u8 20), .lit (.int .u8 31), .lit (.int .u8 10), .lit (.int .u8 25), .lit (.int .u8 14), .lit (.int .u8 19), .lit (.int .u8 9), .lit (.int .u8 13), .lit (.int .u8 8), .lit (.int .u8 7), .lit (.int .u8 6)]
def laid_internal_strconv_uint64pow10 {H : Type} : DataW H := .agg [.lit (.int .u64 1), .lit (.int .u64 10), .lit (.int .u64 100), .lit (.int .u64 1000), .lit (.int .u64 10000), .lit (.int .u64 100000), .lit (.int .u64 1000000), .lit (.int .u64 10000000), .lit (.int .u64 100000000), .lit (.int .u64 1000000000), .lit (.int .u64 10000000000), .lit (.int .u64 100000000000), .lit (.int .u64 1000000000000), .lit (.int .u64 10000000000000), .lit (.int .u64 100000000000000), .lit (.int .u64 1000000000000000), .lit (.int .u64 10000000000000000), .lit (.int .u64 100000000000000000), .lit (.int .u64 1000000000000000000), .lit (.int .u64 10000000000000000000)]

/-- 'archivumlaw44.DigitizeChecks': WHATEVER THE INPUT: true; the input reads as it did. -/
def digitizeChecksSpec : ChangeSpec := { name := "digitizeChecks", fn := fun _ => fun
  | [d1, d2] => { results := [.lit (.bool true)], args := [d1, d2] }
  | _ => none }
def digitizeChecksRow : OpenClaim := { program := "ytldnolgijfkfpaagreatdoor", sum := "4a39a8a37e2280b2f55321a6395e30b147dd26417ee8a0d56113500b937f931d", func := "archivum/archivumlaw44.DigitizeChecks", spec := "digitizeChecks", inPlace := ["internal/abi.NoEscape", "internal/bytealg.MakeNoZero"], unfollowed := true, recurses := true, named := ["internal/strconv.uint64pow10", "math/bits.deBruijn32tab", "math/bits.deBruijn64tab"], apart := false, laid := [("math/bits.deBruijn32tab", laid_math_bits_deBruijn32tab), ("math/bits.deBruijn64tab", laid_math_bits_deBruijn64tab), ("internal/strconv.uint64pow10", laid_internal_strconv_uint64pow10)] }
def DigitizeChecksSaid : Prop := digitizeChecksRow.holds Tryz.pinned (OpenSpec.ofChange digitizeChecksSpec)

/-- ITS FALSE NEIGHBOUR: 'it returns false'. Refute it at one input. -/
def digitizeChecksWrong : ChangeSpec := { name := "digitizeChecks", fn := fun _ => fun
  | [d1, d2] => { results := [.lit (.bool false)], args := [d1, d2] }
  | _ => none }
def DigitizeChecksWrongFalsely : Prop := digitizeChecksRow.holds Tryz.pinned (OpenSpec.ofChange digitizeChecksWrong)

/-- 'archivumlaw44.DigitizeWays': WHATEVER THE INPUT: true; the input reads as it did. -/
def digitizeWaysSpec : ChangeSpec := { name := "digitizeWays", fn := fun _ => fun
  | [d1, d2, d3] => { results := [.lit (.bool true)], args := [d1, d2, d3] }
  | _ => none }
def digitizeWaysRow : OpenClaim := { program := "ytldnolgijfkfpaagreatdoor", sum := "4a39a8a37e2280b2f55321a6395e30b147dd26417ee8a0d56113500b937f931d", func := "archivum/archivumlaw44.DigitizeWays", spec := "digitizeWays", inPlace := ["internal/abi.NoEscape", "internal/bytealg.MakeNoZero"], unfollowed := true, recurses := true, named := ["internal/strconv.uint64pow10", "math/bits.deBruijn32tab", "math/bits.deBruijn64tab"], apart := false, laid := [("math/bits.deBruijn32tab", laid_math_bits_deBruijn32tab), ("math/bits.deBruijn64tab", laid_math_bits_deBruijn64tab), ("internal/strconv.uint64pow10", laid_internal_strconv_uint64pow10)] }
def DigitizeWaysSaid : Prop := digitizeWaysRow.holds Tryz.pinned (OpenSpec.ofChange digitizeWaysSpec)

/-- ITS FALSE NEIGHBOUR: 'it returns false'. Refute it at one input. -/
def digitizeWaysWrong : ChangeSpec := { name := "digitizeWays", fn := fun _ => fun
  | [d1, d2, d3] => { results := [.lit (.bool false)], args := [d1, d2, d3] }
  | _ => none }
def DigitizeWaysWrongFalsely : Prop := digitizeWaysRow.holds Tryz.pinned (OpenSpec.ofChange digitizeWaysWrong)

/-- 'archivumlaw44.DigitizeDraws': WHATEVER THE INPUT: true; the input reads as it did. -/
def digitizeDrawsSpec : ChangeSpec := { name := "digitizeDraws", fn := fun _ => fun
  | [d1, d2] => { results := [.lit (.bool true)], args := [d1, d2] }
  | _ => none }
def digitizeDrawsRow : OpenClaim := { program := "ytldnolgijfkfpaagreatdoor", sum := "4a39a8a37e2280b2f55321a6395e30b147dd26417ee8a0d56113500b937f931d", func := "archivum/archivumlaw44.DigitizeDraws", spec := "digitizeDraws", inPlace := ["internal/abi.NoEscape", "internal/bytealg.MakeNoZero"], unfollowed := true, recurses := true, named := ["internal/strconv.uint64pow10", "math/bits.deBruijn32tab", "math/bits.deBruijn64tab"], apart := false, laid := [("math/bits.deBruijn32tab", laid_math_bits_deBruijn32tab), ("math/bits.deBruijn64tab", laid_math_bits_deBruijn64tab), ("internal/strconv.uint64pow10", laid_internal_strconv_uint64pow10)] }
def DigitizeDrawsSaid : Prop := digitizeDrawsRow.holds Tryz.pinned (OpenSpec.ofChange digitizeDrawsSpec)

/-- ITS FALSE NEIGHBOUR: 'it returns false'. Refute it at one input. -/
def digitizeDrawsWrong : ChangeSpec := { name := "digitizeDraws", fn := fun _ => fun
  | [d1, d2] => { results := [.lit (.bool false)], args := [d1, d2] }
  | _ => none }
def DigitizeDrawsWrongFalsely : Prop := digitizeDrawsRow.holds Tryz.pinned (OpenSpec.ofChange digitizeDrawsWrong)

/-- 'archivumlaw44.DigitizeOdds': WHATEVER THE INPUT: true; the input reads as it did. -/
def digitizeOddsSpec : ChangeSpec := { name := "digitizeOdds", fn := fun _ => fun
  | [d1, d2, d3] => { results := [.lit (.bool true)], args := [d1, d2, d3] }
  | _ => none }
def digitizeOddsRow : OpenClaim := { program := "ytldnolgijfkfpaagreatdoor", sum := "4a39a8a37e2280b2f55321a6395e30b147dd26417ee8a0d56113500b937f931d", func := "archivum/archivumlaw44.DigitizeOdds", spec := "digitizeOdds", inPlace := ["internal/abi.NoEscape", "internal/bytealg.MakeNoZero"], unfollowed := true, recurses := true, named := ["internal/strconv.uint64pow10", "math/bits.deBruijn32tab", "math/bits.deBruijn64tab"], apart := false, laid := [("math/bits.deBruijn32tab", laid_math_bits_deBruijn32tab), ("math/bits.deBruijn64tab", laid_math_bits_deBruijn64tab), ("internal/strconv.uint64pow10", laid_internal_strconv_uint64pow10)] }
def DigitizeOddsSaid : Prop := digitizeOddsRow.holds Tryz.pinned (OpenSpec.ofChange digitizeOddsSpec)

/-- ITS FALSE NEIGHBOUR: 'it returns false'. Refute it at one input. -/
def digitizeOddsWrong : ChangeSpec := { name := "digitizeOdds", fn := fun _ => fun
  | [d1, d2, d3] => { results := [.lit (.bool false)], args := [d1, d2, d3] }
  | _ => none }
def DigitizeOddsWrongFalsely : Prop := digitizeOddsRow.holds Tryz.pinned (OpenSpec.ofChange digitizeOddsWrong)

/-- 'archivumlaw44.DigitizeSteps': WHATEVER THE INPUT: true; the input reads as it did. -/
def digitizeStepsSpec : ChangeSpec := { name := "digitizeSteps", fn := fun _ => fun
  | [d1, d2, d3] => { results := [.lit (.bool true)], args := [d1, d2, d3] }
  | _ => none }
def digitizeStepsRow : OpenClaim := { program := "ytldnolgijfkfpaagreatdoor", sum := "4a39a8a37e2280b2f55321a6395e30b147dd26417ee8a0d56113500b937f931d", func := "archivum/archivumlaw44.DigitizeSteps", spec := "digitizeSteps", inPlace := ["internal/abi.NoEscape", "internal/bytealg.MakeNoZero"], unfollowed := true, recurses := true, named := ["internal/strconv.uint64pow10", "math/bits.deBruijn32tab", "math/bits.deBruijn64tab"], apart := false, laid := [("math/bits.deBruijn32tab", laid_math_bits_deBruijn32tab), ("math/bits.deBruijn64tab", laid_math_bits_deBruijn64tab), ("internal/strconv.uint64pow10", laid_internal_strconv_uint64pow10)] }
def DigitizeStepsSaid : Prop := digitizeStepsRow.holds Tryz.pinned (OpenSpec.ofChange digitizeStepsSpec)

/-- ITS FALSE NEIGHBOUR: 'it returns false'. Refute it at one input. -/
def digitizeStepsWrong : ChangeSpec := { name := "digitizeSteps", fn := fun _ => fun
  | [d1, d2, d3] => { results := [.lit (.bool false)], args := [d1, d2, d3] }
  | _ => none }
def DigitizeStepsWrongFalsely : Prop := digitizeStepsRow.holds Tryz.pinned (OpenSpec.ofChange digitizeStepsWrong)

/-- 'archivumlaw44.DigitizeDecides': WHATEVER THE INPUT: true; the input reads as it did. -/
def digitizeDecidesSpec : ChangeSpec := { name := "digitizeDecides", fn := fun _ => fun
  | [d1, d2] => { results := [.lit (.bool true)], args := [d1, d2] }
  | _ => none }
def digitizeDecidesRow : OpenClaim := { program := "ytldnolgijfkfpaagreatdoor", sum := "4a39a8a37e2280b2f55321a6395e30b147dd26417ee8a0d56113500b937f931d", func := "archivum/archivumlaw44.DigitizeDecides", spec := "digitizeDecides", inPlace := ["internal/abi.NoEscape", "internal/bytealg.MakeNoZero"], unfollowed := true, recurses := true, named := ["internal/strconv.uint64pow10", "math/bits.deBruijn32tab", "math/bits.deBruijn64tab"], apart := false, laid := [("math/bits.deBruijn32tab", laid_math_bits_deBruijn32tab), ("math/bits.deBruijn64tab", laid_math_bits_deBruijn64tab), ("internal/strconv.uint64pow10", laid_internal_strconv_uint64pow10)] }
def DigitizeDecidesSaid : Prop := digitizeDecidesRow.holds Tryz.pinned (OpenSpec.ofChange digitizeDecidesSpec)

/-- ITS FALSE NEIGHBOUR: 'it returns false'. Refute it at one input. -/
def digitizeDecidesWrong : ChangeSpec := { name := "digitizeDecides", fn := fun _ => fun
  | [d1, d2] => { results := [.lit (.bool false)], args := [d1, d2] }
  | _ => none }
def DigitizeDecidesWrongFalsely : Prop := digitizeDecidesRow.holds Tryz.pinned (OpenSpec.ofChange digitizeDecidesWrong)

/-- 'archivumlaw44.DigitizeLinks': WHATEVER THE INPUT: true; the input reads as it did. -/
def digitizeLinksSpec : ChangeSpec := { name := "digitizeLinks", fn := fun _ => fun
  | [d1, d2, d3] => { results := [.lit (.bool true)], args := [d1, d2, d3] }
  | _ => none }
def digitizeLinksRow : OpenClaim := { program := "ytldnolgijfkfpaagreatdoor", sum := "4a39a8a37e2280b2f55321a6395e30b147dd26417ee8a0d56113500b937f931d", func := "archivum/archivumlaw44.DigitizeLinks", spec := "digitizeLinks", inPlace := ["internal/abi.NoEscape", "internal/bytealg.MakeNoZero"], unfollowed := true, recurses := true, named := ["internal/strconv.uint64pow10", "math/bits.deBruijn32tab", "math/bits.deBruijn64tab"], apart := false, laid := [("math/bits.deBruijn32tab", laid_math_bits_deBruijn32tab), ("math/bits.deBruijn64tab", laid_math_bits_deBruijn64tab), ("internal/strconv.uint64pow10", laid_internal_strconv_uint64pow10)] }
def DigitizeLinksSaid : Prop := digitizeLinksRow.holds Tryz.pinned (OpenSpec.ofChange digitizeLinksSpec)

/-- ITS FALSE NEIGHBOUR: 'it returns false'. Refute it at one input. -/
def digitizeLinksWrong : ChangeSpec := { name := "digitizeLinks", fn := fun _ => fun
  | [d1, d2, d3] => { results := [.lit (.bool false)], args := [d1, d2, d3] }
  | _ => none }
def DigitizeLinksWrongFalsely : Prop := digitizeLinksRow.holds Tryz.pinned (OpenSpec.ofChange digitizeLinksWrong)

/-- 'archivumlaw44.DigitizeLinked': WHATEVER THE INPUT: true; the input reads as it did. -/
def digitizeLinkedSpec : ChangeSpec := { name := "digitizeLinked", fn := fun _ => fun
  | [d1, d2, d3] => { results := [.lit (.bool true)], args := [d1, d2, d3] }
  | _ => none }
def digitizeLinkedRow : OpenClaim := { program := "ytldnolgijfkfpaagreatdoor", sum := "4a39a8a37e2280b2f55321a6395e30b147dd26417ee8a0d56113500b937f931d", func := "archivum/archivumlaw44.DigitizeLinked", spec := "digitizeLinked", inPlace := ["internal/abi.NoEscape", "internal/bytealg.MakeNoZero"], unfollowed := true, recurses := true, named := ["internal/strconv.uint64pow10", "math/bits.deBruijn32tab", "math/bits.deBruijn64tab"], apart := false, laid := [("math/bits.deBruijn32tab", laid_math_bits_deBruijn32tab), ("math/bits.deBruijn64tab", laid_math_bits_deBruijn64tab), ("internal/strconv.uint64pow10", laid_internal_strconv_uint64pow10)] }
def DigitizeLinkedSaid : Prop := digitizeLinkedRow.holds Tryz.pinned (OpenSpec.ofChange digitizeLinkedSpec)

/-- ITS FALSE NEIGHBOUR: 'it returns false'. Refute it at one input. -/
def digitizeLinkedWrong : ChangeSpec := { name := "digitizeLinked", fn := fun _ => fun
  | [d1, d2, d3] => { results := [.lit (.bool false)], args := [d1, d2, d3] }
  | _ => none }
def DigitizeLinkedWrongFalsely : Prop := digitizeLinkedRow.holds Tryz.pinned (OpenSpec.ofChange digitizeLinkedWrong)

/- THE SECOND FORM. 'bulk': how many values and letters a reading holds, each counted each time it is reached (what is shared counts as often as it is met; a slice's spare places count too). A statement '..UptoSaid' is the law's where the arguments, and the package variables that the reading takes, are together of bulk at most 1048576: NARROWER than '..Said'. Prove '..Said' where nothing that the law and all that it calls make is longer than what came in: it says more and counts as full. Else prove '..UptoSaid'. A law counts once. -/
mutual
def uptoBulk {H : Type} : DataW H → Nat
  | .lit (.string bytes) => bytes.length + 1
  | .lit _ => 1
  | .nil => 1
  | .ptr d => uptoBulk d + 1
  | .slice elems spare => uptoBulkAll elems + uptoBulkAll spare + 1
  | .agg parts => uptoBulkAll parts + 1
  | .iface _ d => uptoBulk d + 1
  | .map entries => uptoBulkEntries entries + 1
  | .held _ => 1
def uptoBulkAll {H : Type} : List (DataW H) → Nat
  | [] => 0
  | d :: r => uptoBulk d + uptoBulkAll r
def uptoBulkEntries {H : Type} : List (Lit × DataW H) → Nat
  | [] => 0
  | x :: r => uptoBulkEntry x + uptoBulkEntries r
def uptoBulkEntry {H : Type} : Lit × DataW H → Nat
  | (.string bytes, d) => bytes.length + uptoBulk d + 1
  | (_, d) => uptoBulk d + 1
 end
def uptoSmall : (H : Type) → List (DataW H) → Bool := fun _ ds => decide (uptoBulkAll ds ≤ 1048576)
def OpenSpec.upto (s : _root_.Go.ChangeSpec) : _root_.Go.OpenSpec := { _root_.Go.OpenSpec.ofChange s with cond := some uptoSmall }

/-- 'archivumlaw44.DigitizeChecks', WHERE WHAT IT READS IS OF BULK AT MOST 1048576: true; the input reads as it did. -/
def digitizeChecksUptoRow : OpenClaim := { program := "ytldnolgijfkfpaagreatdoor", sum := "4a39a8a37e2280b2f55321a6395e30b147dd26417ee8a0d56113500b937f931d", func := "archivum/archivumlaw44.DigitizeChecks", spec := "digitizeChecks", inPlace := ["internal/abi.NoEscape", "internal/bytealg.MakeNoZero"], unfollowed := true, recurses := true, named := ["internal/strconv.uint64pow10", "math/bits.deBruijn32tab", "math/bits.deBruijn64tab"], apart := false, laid := [("math/bits.deBruijn32tab", laid_math_bits_deBruijn32tab), ("math/bits.deBruijn64tab", laid_math_bits_deBruijn64tab), ("internal/strconv.uint64pow10", laid_internal_strconv_uint64pow10)], narrowed := true }
def DigitizeChecksUptoSaid : Prop := digitizeChecksUptoRow.holds Tryz.pinned (OpenSpec.upto digitizeChecksSpec)

/-- 'archivumlaw44.DigitizeWays', WHERE WHAT IT READS IS OF BULK AT MOST 1048576: true; the input reads as it did. -/
def digitizeWaysUptoRow : OpenClaim := { program := "ytldnolgijfkfpaagreatdoor", sum := "4a39a8a37e2280b2f55321a6395e30b147dd26417ee8a0d56113500b937f931d", func := "archivum/archivumlaw44.DigitizeWays", spec := "digitizeWays", inPlace := ["internal/abi.NoEscape", "internal/bytealg.MakeNoZero"], unfollowed := true, recurses := true, named := ["internal/strconv.uint64pow10", "math/bits.deBruijn32tab", "math/bits.deBruijn64tab"], apart := false, laid := [("math/bits.deBruijn32tab", laid_math_bits_deBruijn32tab), ("math/bits.deBruijn64tab", laid_math_bits_deBruijn64tab), ("internal/strconv.uint64pow10", laid_internal_strconv_uint64pow10)], narrowed := true }
def DigitizeWaysUptoSaid : Prop := digitizeWaysUptoRow.holds Tryz.pinned (OpenSpec.upto digitizeWaysSpec)

/-- 'archivumlaw44.DigitizeDraws', WHERE WHAT IT READS IS OF BULK AT MOST 1048576: true; the input reads as it did. -/
def digitizeDrawsUptoRow : OpenClaim := { program := "ytldnolgijfkfpaagreatdoor", sum := "4a39a8a37e2280b2f55321a6395e30b147dd26417ee8a0d56113500b937f931d", func := "archivum/archivumlaw44.DigitizeDraws", spec := "digitizeDraws", inPlace := ["internal/abi.NoEscape", "internal/bytealg.MakeNoZero"], unfollowed := true, recurses := true, named := ["internal/strconv.uint64pow10", "math/bits.deBruijn32tab", "math/bits.deBruijn64tab"], apart := false, laid := [("math/bits.deBruijn32tab", laid_math_bits_deBruijn32tab), ("math/bits.deBruijn64tab", laid_math_bits_deBruijn64tab), ("internal/strconv.uint64pow10", laid_internal_strconv_uint64pow10)], narrowed := true }
def DigitizeDrawsUptoSaid : Prop := digitizeDrawsUptoRow.holds Tryz.pinned (OpenSpec.upto digitizeDrawsSpec)

/-- 'archivumlaw44.DigitizeOdds', WHERE WHAT IT READS IS OF BULK AT MOST 1048576: true; the input reads as it did. -/
def digitizeOddsUptoRow : OpenClaim := { program := "ytldnolgijfkfpaagreatdoor", sum := "4a39a8a37e2280b2f55321a6395e30b147dd26417ee8a0d56113500b937f931d", func := "archivum/archivumlaw44.DigitizeOdds", spec := "digitizeOdds", inPlace := ["internal/abi.NoEscape", "internal/bytealg.MakeNoZero"], unfollowed := true, recurses := true, named := ["internal/strconv.uint64pow10", "math/bits.deBruijn32tab", "math/bits.deBruijn64tab"], apart := false, laid := [("math/bits.deBruijn32tab", laid_math_bits_deBruijn32tab), ("math/bits.deBruijn64tab", laid_math_bits_deBruijn64tab), ("internal/strconv.uint64pow10", laid_internal_strconv_uint64pow10)], narrowed := true }
def DigitizeOddsUptoSaid : Prop := digitizeOddsUptoRow.holds Tryz.pinned (OpenSpec.upto digitizeOddsSpec)

/-- 'archivumlaw44.DigitizeSteps', WHERE WHAT IT READS IS OF BULK AT MOST 1048576: true; the input reads as it did. -/
def digitizeStepsUptoRow : OpenClaim := { program := "ytldnolgijfkfpaagreatdoor", sum := "4a39a8a37e2280b2f55321a6395e30b147dd26417ee8a0d56113500b937f931d", func := "archivum/archivumlaw44.DigitizeSteps", spec := "digitizeSteps", inPlace := ["internal/abi.NoEscape", "internal/bytealg.MakeNoZero"], unfollowed := true, recurses := true, named := ["internal/strconv.uint64pow10", "math/bits.deBruijn32tab", "math/bits.deBruijn64tab"], apart := false, laid := [("math/bits.deBruijn32tab", laid_math_bits_deBruijn32tab), ("math/bits.deBruijn64tab", laid_math_bits_deBruijn64tab), ("internal/strconv.uint64pow10", laid_internal_strconv_uint64pow10)], narrowed := true }
def DigitizeStepsUptoSaid : Prop := digitizeStepsUptoRow.holds Tryz.pinned (OpenSpec.upto digitizeStepsSpec)

/-- 'archivumlaw44.DigitizeDecides', WHERE WHAT IT READS IS OF BULK AT MOST 1048576: true; the input reads as it did. -/
def digitizeDecidesUptoRow : OpenClaim := { program := "ytldnolgijfkfpaagreatdoor", sum := "4a39a8a37e2280b2f55321a6395e30b147dd26417ee8a0d56113500b937f931d", func := "archivum/archivumlaw44.DigitizeDecides", spec := "digitizeDecides", inPlace := ["internal/abi.NoEscape", "internal/bytealg.MakeNoZero"], unfollowed := true, recurses := true, named := ["internal/strconv.uint64pow10", "math/bits.deBruijn32tab", "math/bits.deBruijn64tab"], apart := false, laid := [("math/bits.deBruijn32tab", laid_math_bits_deBruijn32tab), ("math/bits.deBruijn64tab", laid_math_bits_deBruijn64tab), ("internal/strconv.uint64pow10", laid_internal_strconv_uint64pow10)], narrowed := true }
def DigitizeDecidesUptoSaid : Prop := digitizeDecidesUptoRow.holds Tryz.pinned (OpenSpec.upto digitizeDecidesSpec)

/-- 'archivumlaw44.DigitizeLinks', WHERE WHAT IT READS IS OF BULK AT MOST 1048576: true; the input reads as it did. -/
def digitizeLinksUptoRow : OpenClaim := { program := "ytldnolgijfkfpaagreatdoor", sum := "4a39a8a37e2280b2f55321a6395e30b147dd26417ee8a0d56113500b937f931d", func := "archivum/archivumlaw44.DigitizeLinks", spec := "digitizeLinks", inPlace := ["internal/abi.NoEscape", "internal/bytealg.MakeNoZero"], unfollowed := true, recurses := true, named := ["internal/strconv.uint64pow10", "math/bits.deBruijn32tab", "math/bits.deBruijn64tab"], apart := false, laid := [("math/bits.deBruijn32tab", laid_math_bits_deBruijn32tab), ("math/bits.deBruijn64tab", laid_math_bits_deBruijn64tab), ("internal/strconv.uint64pow10", laid_internal_strconv_uint64pow10)], narrowed := true }
def DigitizeLinksUptoSaid : Prop := digitizeLinksUptoRow.holds Tryz.pinned (OpenSpec.upto digitizeLinksSpec)

/-- 'archivumlaw44.DigitizeLinked', WHERE WHAT IT READS IS OF BULK AT MOST 1048576: true; the input reads as it did. -/
def digitizeLinkedUptoRow : OpenClaim := { program := "ytldnolgijfkfpaagreatdoor", sum := "4a39a8a37e2280b2f55321a6395e30b147dd26417ee8a0d56113500b937f931d", func := "archivum/archivumlaw44.DigitizeLinked", spec := "digitizeLinked", inPlace := ["internal/abi.NoEscape", "internal/bytealg.MakeNoZero"], unfollowed := true, recurses := true, named := ["internal/strconv.uint64pow10", "math/bits.deBruijn32tab", "math/bits.deBruijn64tab"], apart := false, laid := [("math/bits.deBruijn32tab", laid_math_bits_deBruijn32tab), ("math/bits.deBruijn64tab", laid_math_bits_deBruijn64tab), ("internal/strconv.uint64pow10", laid_internal_strconv_uint64pow10)], narrowed := true }
def DigitizeLinkedUptoSaid : Prop := digitizeLinkedUptoRow.holds Tryz.pinned (OpenSpec.upto digitizeLinkedSpec)

end Rows
end Go.Proofs.YtldnolgijfkfpaaGreatDoor
