/-
  No cell of these rows narrows 'for every input' (looked for: loops, veiled, ifaces, maps, wideKeys, modest, calm, conditions, laid).
  DERIVED. THE GIVEN ROWS OF THIS SEAT. 8 by the template 'for every input the law returns true; each argument reads behind the call as it read before'; 0 by the template 'total and deterministic' (their statements: YtplpklikapkloaaTotals.lean).
  GIVEN WITH THE SEED: the statements are not yours to turn. If you find one false, say at which input.
  Laid BY PROGRAM, IN A SANDBOX (cutbox-rows.mjs): the forced cells as the released guide's own fill.sh prints them over the translation 7718e863f91c2f58… (all of the seat's roots in one cut). By AI agents, Wed Nov 11 2026. No macro, syntax, notation, axiom, sorry.
-/
import Derived.Test.YtplpklikapkloaaChecked
import GoSem.Claim
import GoSem.ClaimJoined
import GoSem.ClaimMapViews
import Derived.JoinedTies
import Derived.KernelRfl
namespace Go.Proofs.Ytplpklikapkloaa
/- THE CELL 'sum', in the pinned program and in every row, IS THE sha256 OF THE DUMP (.gsa) THAT YtplpklikapkloaaProg.lean LOADS. Nothing in Lean hashes anything: it is a label: what it is worth is what the hold of that sum in a sandbox is worth. -/
noncomputable def Try.pinned : Pinned := { name := "ytplpklikapkloaa", sum := "7718e863f91c2f5806793093365e14378d4e54d99d38481724508c3cfbc40b67", checked := Try.checked }
namespace Rows
def none {H : Type} : Left H := { results := [], args := [] }

/-- 'archivumlaw31.ClosureChecks': WHATEVER THE INPUT: true; the input reads as it did. -/
def closureChecksSpec : ChangeSpec := { name := "closureChecks", fn := fun _ => fun
  | [d1, d2, d3] => { results := [.lit (.bool true)], args := [d1, d2, d3] }
  | _ => none }
def closureChecksRow : OpenClaim := { program := "ytplpklikapkloaa", sum := "7718e863f91c2f5806793093365e14378d4e54d99d38481724508c3cfbc40b67", func := "archivum/archivumlaw31.ClosureChecks", spec := "closureChecks", unfollowed := true, recurses := true, apart := false }
def ClosureChecksSaid : Prop := closureChecksRow.holds Try.pinned (OpenSpec.ofChange closureChecksSpec)

/-- ITS FALSE NEIGHBOUR: 'it returns false'. Refute it at one input. -/
def closureChecksWrong : ChangeSpec := { name := "closureChecks", fn := fun _ => fun
  | [d1, d2, d3] => { results := [.lit (.bool false)], args := [d1, d2, d3] }
  | _ => none }
def ClosureChecksWrongFalsely : Prop := closureChecksRow.holds Try.pinned (OpenSpec.ofChange closureChecksWrong)

/-- 'archivumlaw31.ClosureUntil': WHATEVER THE INPUT: true; the input reads as it did. -/
def closureUntilSpec : ChangeSpec := { name := "closureUntil", fn := fun _ => fun
  | [d1, d2] => { results := [.lit (.bool true)], args := [d1, d2] }
  | _ => none }
def closureUntilRow : OpenClaim := { program := "ytplpklikapkloaa", sum := "7718e863f91c2f5806793093365e14378d4e54d99d38481724508c3cfbc40b67", func := "archivum/archivumlaw31.ClosureUntil", spec := "closureUntil", unfollowed := true, recurses := true, apart := false }
def ClosureUntilSaid : Prop := closureUntilRow.holds Try.pinned (OpenSpec.ofChange closureUntilSpec)

/-- ITS FALSE NEIGHBOUR: 'it returns false'. Refute it at one input. -/
def closureUntilWrong : ChangeSpec := { name := "closureUntil", fn := fun _ => fun
  | [d1, d2] => { results := [.lit (.bool false)], args := [d1, d2] }
  | _ => none }
def ClosureUntilWrongFalsely : Prop := closureUntilRow.holds Try.pinned (OpenSpec.ofChange closureUntilWrong)

/-- 'archivumlaw31.ClosureGrounds': WHATEVER THE INPUT: true; the input reads as it did. -/
def closureGroundsSpec : ChangeSpec := { name := "closureGrounds", fn := fun _ => fun
  | [d1, d2, d3] => { results := [.lit (.bool true)], args := [d1, d2, d3] }
  | _ => none }
def closureGroundsRow : OpenClaim := { program := "ytplpklikapkloaa", sum := "7718e863f91c2f5806793093365e14378d4e54d99d38481724508c3cfbc40b67", func := "archivum/archivumlaw31.ClosureGrounds", spec := "closureGrounds", unfollowed := true, recurses := true, apart := false }
def ClosureGroundsSaid : Prop := closureGroundsRow.holds Try.pinned (OpenSpec.ofChange closureGroundsSpec)

/-- ITS FALSE NEIGHBOUR: 'it returns false'. Refute it at one input. -/
def closureGroundsWrong : ChangeSpec := { name := "closureGrounds", fn := fun _ => fun
  | [d1, d2, d3] => { results := [.lit (.bool false)], args := [d1, d2, d3] }
  | _ => none }
def ClosureGroundsWrongFalsely : Prop := closureGroundsRow.holds Try.pinned (OpenSpec.ofChange closureGroundsWrong)

/-- 'archivumlaw31.ClosureDays': WHATEVER THE INPUT: true; the input reads as it did. -/
def closureDaysSpec : ChangeSpec := { name := "closureDays", fn := fun _ => fun
  | [d1, d2, d3] => { results := [.lit (.bool true)], args := [d1, d2, d3] }
  | _ => none }
def closureDaysRow : OpenClaim := { program := "ytplpklikapkloaa", sum := "7718e863f91c2f5806793093365e14378d4e54d99d38481724508c3cfbc40b67", func := "archivum/archivumlaw31.ClosureDays", spec := "closureDays", unfollowed := true, recurses := true, apart := false }
def ClosureDaysSaid : Prop := closureDaysRow.holds Try.pinned (OpenSpec.ofChange closureDaysSpec)

/-- ITS FALSE NEIGHBOUR: 'it returns false'. Refute it at one input. -/
def closureDaysWrong : ChangeSpec := { name := "closureDays", fn := fun _ => fun
  | [d1, d2, d3] => { results := [.lit (.bool false)], args := [d1, d2, d3] }
  | _ => none }
def ClosureDaysWrongFalsely : Prop := closureDaysRow.holds Try.pinned (OpenSpec.ofChange closureDaysWrong)

/-- 'archivumlaw31.ClosureSafe': WHATEVER THE INPUT: true; the input reads as it did. -/
def closureSafeSpec : ChangeSpec := { name := "closureSafe", fn := fun _ => fun
  | [d1, d2, d3] => { results := [.lit (.bool true)], args := [d1, d2, d3] }
  | _ => none }
def closureSafeRow : OpenClaim := { program := "ytplpklikapkloaa", sum := "7718e863f91c2f5806793093365e14378d4e54d99d38481724508c3cfbc40b67", func := "archivum/archivumlaw31.ClosureSafe", spec := "closureSafe", unfollowed := true, recurses := true, apart := false }
def ClosureSafeSaid : Prop := closureSafeRow.holds Try.pinned (OpenSpec.ofChange closureSafeSpec)

/-- ITS FALSE NEIGHBOUR: 'it returns false'. Refute it at one input. -/
def closureSafeWrong : ChangeSpec := { name := "closureSafe", fn := fun _ => fun
  | [d1, d2, d3] => { results := [.lit (.bool false)], args := [d1, d2, d3] }
  | _ => none }
def ClosureSafeWrongFalsely : Prop := closureSafeRow.holds Try.pinned (OpenSpec.ofChange closureSafeWrong)

/-- 'archivumlaw31.ClosureEnds': WHATEVER THE INPUT: true; the input reads as it did. -/
def closureEndsSpec : ChangeSpec := { name := "closureEnds", fn := fun _ => fun
  | [d1, d2, d3] => { results := [.lit (.bool true)], args := [d1, d2, d3] }
  | _ => none }
def closureEndsRow : OpenClaim := { program := "ytplpklikapkloaa", sum := "7718e863f91c2f5806793093365e14378d4e54d99d38481724508c3cfbc40b67", func := "archivum/archivumlaw31.ClosureEnds", spec := "closureEnds", unfollowed := true, recurses := true, apart := false }
def ClosureEndsSaid : Prop := closureEndsRow.holds Try.pinned (OpenSpec.ofChange closureEndsSpec)

/-- ITS FALSE NEIGHBOUR: 'it returns false'. Refute it at one input. -/
def closureEndsWrong : ChangeSpec := { name := "closureEnds", fn := fun _ => fun
  | [d1, d2, d3] => { results := [.lit (.bool false)], args := [d1, d2, d3] }
  | _ => none }
def ClosureEndsWrongFalsely : Prop := closureEndsRow.holds Try.pinned (OpenSpec.ofChange closureEndsWrong)

/-- 'archivumlaw31.ClosureSpans': WHATEVER THE INPUT: true; the input reads as it did. -/
def closureSpansSpec : ChangeSpec := { name := "closureSpans", fn := fun _ => fun
  | [d1, d2, d3] => { results := [.lit (.bool true)], args := [d1, d2, d3] }
  | _ => none }
def closureSpansRow : OpenClaim := { program := "ytplpklikapkloaa", sum := "7718e863f91c2f5806793093365e14378d4e54d99d38481724508c3cfbc40b67", func := "archivum/archivumlaw31.ClosureSpans", spec := "closureSpans", unfollowed := true, recurses := true, apart := false }
def ClosureSpansSaid : Prop := closureSpansRow.holds Try.pinned (OpenSpec.ofChange closureSpansSpec)

/-- ITS FALSE NEIGHBOUR: 'it returns false'. Refute it at one input. -/
def closureSpansWrong : ChangeSpec := { name := "closureSpans", fn := fun _ => fun
  | [d1, d2, d3] => { results := [.lit (.bool false)], args := [d1, d2, d3] }
  | _ => none }
def ClosureSpansWrongFalsely : Prop := closureSpansRow.holds Try.pinned (OpenSpec.ofChange closureSpansWrong)

/-- 'archivumlaw31.ClosureOpens': WHATEVER THE INPUT: true; the input reads as it did. -/
def closureOpensSpec : ChangeSpec := { name := "closureOpens", fn := fun _ => fun
  | [d1, d2, d3] => { results := [.lit (.bool true)], args := [d1, d2, d3] }
  | _ => none }
def closureOpensRow : OpenClaim := { program := "ytplpklikapkloaa", sum := "7718e863f91c2f5806793093365e14378d4e54d99d38481724508c3cfbc40b67", func := "archivum/archivumlaw31.ClosureOpens", spec := "closureOpens", unfollowed := true, recurses := true, apart := false }
def ClosureOpensSaid : Prop := closureOpensRow.holds Try.pinned (OpenSpec.ofChange closureOpensSpec)

/-- ITS FALSE NEIGHBOUR: 'it returns false'. Refute it at one input. -/
def closureOpensWrong : ChangeSpec := { name := "closureOpens", fn := fun _ => fun
  | [d1, d2, d3] => { results := [.lit (.bool false)], args := [d1, d2, d3] }
  | _ => none }
def ClosureOpensWrongFalsely : Prop := closureOpensRow.holds Try.pinned (OpenSpec.ofChange closureOpensWrong)

/- THE SECOND FORM. 'bulk': how many values and letters a reading holds, each counted each time it is reached (what is shared counts as often as it is met; a slice's spare places count too). A statement '..UptoSaid' is the law's where the arguments, and the package variables that the reading takes, are together of bulk at most 1048576: NARROWER than '..Said'. Prove '..Said' where nothing that the law and all that it calls make is longer than what came in: it says more and counts as full. Else prove '..UptoSaid'. A law counts once. -/
mutual
def uptoBulk {H : Type} : DataW H → Nat
  | .lit (.string bytes) => bytes.length + 1
  | .lit _ => 1
  | .nil => 1
  | .ptr d => uptoBulk d + 1
  | .slice elems spare => uptoBulkAll elems + uptoBulkAll spare + 1
  | .agg parts => uptoBulkAll parts + 1
  | .iface _ d => uptoBulk d + 1
  | .map entries => uptoBulkEntries entries + 1
  | .held _ => 1
def uptoBulkAll {H : Type} : List (DataW H) → Nat
  | [] => 0
  | d :: r => uptoBulk d + uptoBulkAll r
def uptoBulkEntries {H : Type} : List (Lit × DataW H) → Nat
  | [] => 0
  | x :: r => uptoBulkEntry x + uptoBulkEntries r
def uptoBulkEntry {H : Type} : Lit × DataW H → Nat
  | (.string bytes, d) => bytes.length + uptoBulk d + 1
  | (_, d) => uptoBulk d + 1
 end
def uptoSmall : (H : Type) → List (DataW H) → Bool := fun _ ds => decide (uptoBulkAll ds ≤ 1048576)
def OpenSpec.upto (s : _root_.Go.ChangeSpec) : _root_.Go.OpenSpec := { _root_.Go.OpenSpec.ofChange s with cond := some uptoSmall }

/-- 'archivumlaw31.ClosureChecks', WHERE WHAT IT READS IS OF BULK AT MOST 1048576: true; the input reads as it did. -/
def closureChecksUptoRow : OpenClaim := { program := "ytplpklikapkloaa", sum := "7718e863f91c2f5806793093365e14378d4e54d99d38481724508c3cfbc40b67", func := "archivum/archivumlaw31.ClosureChecks", spec := "closureChecks", unfollowed := true, recurses := true, apart := false, narrowed := true }
def ClosureChecksUptoSaid : Prop := closureChecksUptoRow.holds Try.pinned (OpenSpec.upto closureChecksSpec)

/-- 'archivumlaw31.ClosureUntil', WHERE WHAT IT READS IS OF BULK AT MOST 1048576: true; the input reads as it did. -/
def closureUntilUptoRow : OpenClaim := { program := "ytplpklikapkloaa", sum := "7718e863f91c2f5806793093365e14378d4e54d99d38481724508c3cfbc40b67", func := "archivum/archivumlaw31.ClosureUntil", spec := "closureUntil", unfollowed := true, recurses := true, apart := false, narrowed := true }
def ClosureUntilUptoSaid : Prop := closureUntilUptoRow.holds Try.pinned (OpenSpec.upto closureUntilSpec)

/-- 'archivumlaw31.ClosureGrounds', WHERE WHAT IT READS IS OF BULK AT MOST 1048576: true; the input reads as it did. -/
def closureGroundsUptoRow : OpenClaim := { program := "ytplpklikapkloaa", sum := "7718e863f91c2f5806793093365e14378d4e54d99d38481724508c3cfbc40b67", func := "archivum/archivumlaw31.ClosureGrounds", spec := "closureGrounds", unfollowed := true, recurses := true, apart := false, narrowed := true }
def ClosureGroundsUptoSaid : Prop := closureGroundsUptoRow.holds Try.pinned (OpenSpec.upto closureGroundsSpec)

/-- 'archivumlaw31.ClosureDays', WHERE WHAT IT READS IS OF BULK AT MOST 1048576: true; the input reads as it did. -/
def closureDaysUptoRow : OpenClaim := { program := "ytplpklikapkloaa", sum := "7718e863f91c2f5806793093365e14378d4e54d99d38481724508c3cfbc40b67", func := "archivum/archivumlaw31.ClosureDays", spec := "closureDays", unfollowed := true, recurses := true, apart := false, narrowed := true }
def ClosureDaysUptoSaid : Prop := closureDaysUptoRow.holds Try.pinned (OpenSpec.upto closureDaysSpec)

/-- 'archivumlaw31.ClosureSafe', WHERE WHAT IT READS IS OF BULK AT MOST 1048576: true; the input reads as it did. -/
def closureSafeUptoRow : OpenClaim := { program := "ytplpklikapkloaa", sum := "7718e863f91c2f5806793093365e14378d4e54d99d38481724508c3cfbc40b67", func := "archivum/archivumlaw31.ClosureSafe", spec := "closureSafe", unfollowed := true, recurses := true, apart := false, narrowed := true }
def ClosureSafeUptoSaid : Prop := closureSafeUptoRow.holds Try.pinned (OpenSpec.upto closureSafeSpec)

/-- 'archivumlaw31.ClosureEnds', WHERE WHAT IT READS IS OF BULK AT MOST 1048576: true; the input reads as it did. -/
def closureEndsUptoRow : OpenClaim := { program := "ytplpklikapkloaa", sum := "7718e863f91c2f5806793093365e14378d4e54d99d38481724508c3cfbc40b67", func := "archivum/archivumlaw31.ClosureEnds", spec := "closureEnds", unfollowed := true, recurses := true, apart := false, narrowed := true }
def ClosureEndsUptoSaid : Prop := closureEndsUptoRow.holds Try.pinned (OpenSpec.upto closureEndsSpec)

/-- 'archivumlaw31.ClosureSpans', WHERE WHAT IT READS IS OF BULK AT MOST 1048576: true; the input reads as it did. -/
def closureSpansUptoRow : OpenClaim := { program := "ytplpklikapkloaa", sum := "7718e863f91c2f5806793093365e14378d4e54d99d38481724508c3cfbc40b67", func := "archivum/archivumlaw31.ClosureSpans", spec := "closureSpans", unfollowed := true, recurses := true, apart := false, narrowed := true }
def ClosureSpansUptoSaid : Prop := closureSpansUptoRow.holds Try.pinned (OpenSpec.upto closureSpansSpec)

/-- 'archivumlaw31.ClosureOpens', WHERE WHAT IT READS IS OF BULK AT MOST 1048576: true; the input reads as it did. -/
def closureOpensUptoRow : OpenClaim := { program := "ytplpklikapkloaa", sum := "7718e863f91c2f5806793093365e14378d4e54d99d38481724508c3cfbc40b67", func := "archivum/archivumlaw31.ClosureOpens", spec := "closureOpens", unfollowed := true, recurses := true, apart := false, narrowed := true }
def ClosureOpensUptoSaid : Prop := closureOpensUptoRow.holds Try.pinned (OpenSpec.upto closureOpensSpec)

end Rows
end Go.Proofs.Ytplpklikapkloaa
