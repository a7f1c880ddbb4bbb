/-
  No cell of these rows narrows 'for every input' (looked for: loops, veiled, ifaces, maps, wideKeys, modest, calm, conditions, laid).
  DERIVED. THE GIVEN ROWS OF THIS SEAT. 8 by the template 'for every input the law returns true; each argument reads behind the call as it read before'; 0 by the template 'total and deterministic' (their statements: YtkochmppmpmddaaGreatTotals.lean).
  GIVEN WITH THE SEED: the statements are not yours to turn. If you find one false, say at which input.
  Laid BY PROGRAM, IN A SANDBOX (cutbox-rows.mjs): the forced cells as the released guide's own fill.sh prints them over the translation a554933399f02030… (all of the seat's roots in one cut). By AI agents, Wed Nov 11 2026. No macro, syntax, notation, axiom, sorry.
-/
import Derived.Test.YtkochmppmpmddaaGreatChecked
import GoSem.Claim
import GoSem.ClaimJoined
import GoSem.ClaimMapViews
import Derived.JoinedTies
import Derived.KernelRfl
namespace Go.Proofs.YtkochmppmpmddaaGreat
/- THE CELL 'sum', in the pinned program and in every row, IS THE sha256 OF THE DUMP (.gsa) THAT YtkochmppmpmddaaGreatProg.lean LOADS. Nothing in Lean hashes anything: it is a label: what it is worth is what the hold of that sum in a sandbox is worth. -/
noncomputable def Tryz.pinned : Pinned := { name := "ytkochmppmpmddaagreat", sum := "a554933399f020309b7d47a5ec6ec2e05eef57f22f6490f7323e1922f0ed1ca3", checked := Tryz.checked }
namespace Rows
def none {H : Type} : Left H := { results := [], args := [] }

/-- 'archivumlaw35.PolicyChecks': WHATEVER THE INPUT: true; the input reads as it did. -/
def policyChecksSpec : ChangeSpec := { name := "policyChecks", fn := fun _ => fun
  | [d1, d2, d3] => { results := [.lit (.bool true)], args := [d1, d2, d3] }
  | _ => none }
def policyChecksRow : OpenClaim := { program := "ytkochmppmpmddaagreat", sum := "a554933399f020309b7d47a5ec6ec2e05eef57f22f6490f7323e1922f0ed1ca3", func := "archivum/archivumlaw35.PolicyChecks", spec := "policyChecks", inPlace := ["internal/bytealg.IndexByteString", "internal/bytealg.IndexString"], unfollowed := true, recurses := true, named := ["internal/bytealg.MaxLen"], apart := false }
def PolicyChecksSaid : Prop := policyChecksRow.holds Tryz.pinned (OpenSpec.ofChange policyChecksSpec)

/-- ITS FALSE NEIGHBOUR: 'it returns false'. Refute it at one input. -/
def policyChecksWrong : ChangeSpec := { name := "policyChecks", fn := fun _ => fun
  | [d1, d2, d3] => { results := [.lit (.bool false)], args := [d1, d2, d3] }
  | _ => none }
def PolicyChecksWrongFalsely : Prop := policyChecksRow.holds Tryz.pinned (OpenSpec.ofChange policyChecksWrong)

/-- 'archivumlaw35.PolicyProves': WHATEVER THE INPUT: true; the input reads as it did. -/
def policyProvesSpec : ChangeSpec := { name := "policyProves", fn := fun _ => fun
  | [d1, d2, d3] => { results := [.lit (.bool true)], args := [d1, d2, d3] }
  | _ => none }
def policyProvesRow : OpenClaim := { program := "ytkochmppmpmddaagreat", sum := "a554933399f020309b7d47a5ec6ec2e05eef57f22f6490f7323e1922f0ed1ca3", func := "archivum/archivumlaw35.PolicyProves", spec := "policyProves", inPlace := ["internal/bytealg.IndexByteString", "internal/bytealg.IndexString"], unfollowed := true, recurses := true, named := ["internal/bytealg.MaxLen"], apart := false }
def PolicyProvesSaid : Prop := policyProvesRow.holds Tryz.pinned (OpenSpec.ofChange policyProvesSpec)

/-- ITS FALSE NEIGHBOUR: 'it returns false'. Refute it at one input. -/
def policyProvesWrong : ChangeSpec := { name := "policyProves", fn := fun _ => fun
  | [d1, d2, d3] => { results := [.lit (.bool false)], args := [d1, d2, d3] }
  | _ => none }
def PolicyProvesWrongFalsely : Prop := policyProvesRow.holds Tryz.pinned (OpenSpec.ofChange policyProvesWrong)

/-- 'archivumlaw35.PolicyDecides': WHATEVER THE INPUT: true; the input reads as it did. -/
def policyDecidesSpec : ChangeSpec := { name := "policyDecides", fn := fun _ => fun
  | [d1, d2, d3] => { results := [.lit (.bool true)], args := [d1, d2, d3] }
  | _ => none }
def policyDecidesRow : OpenClaim := { program := "ytkochmppmpmddaagreat", sum := "a554933399f020309b7d47a5ec6ec2e05eef57f22f6490f7323e1922f0ed1ca3", func := "archivum/archivumlaw35.PolicyDecides", spec := "policyDecides", inPlace := ["internal/bytealg.IndexByteString", "internal/bytealg.IndexString"], unfollowed := true, recurses := true, named := ["internal/bytealg.MaxLen"], apart := false }
def PolicyDecidesSaid : Prop := policyDecidesRow.holds Tryz.pinned (OpenSpec.ofChange policyDecidesSpec)

/-- ITS FALSE NEIGHBOUR: 'it returns false'. Refute it at one input. -/
def policyDecidesWrong : ChangeSpec := { name := "policyDecides", fn := fun _ => fun
  | [d1, d2, d3] => { results := [.lit (.bool false)], args := [d1, d2, d3] }
  | _ => none }
def PolicyDecidesWrongFalsely : Prop := policyDecidesRow.holds Tryz.pinned (OpenSpec.ofChange policyDecidesWrong)

/-- 'archivumlaw35.PolicyBelow': WHATEVER THE INPUT: true; the input reads as it did. -/
def policyBelowSpec : ChangeSpec := { name := "policyBelow", fn := fun _ => fun
  | [d1, d2, d3] => { results := [.lit (.bool true)], args := [d1, d2, d3] }
  | _ => none }
def policyBelowRow : OpenClaim := { program := "ytkochmppmpmddaagreat", sum := "a554933399f020309b7d47a5ec6ec2e05eef57f22f6490f7323e1922f0ed1ca3", func := "archivum/archivumlaw35.PolicyBelow", spec := "policyBelow", inPlace := ["internal/bytealg.IndexByteString", "internal/bytealg.IndexString"], unfollowed := true, recurses := true, named := ["internal/bytealg.MaxLen"], apart := false }
def PolicyBelowSaid : Prop := policyBelowRow.holds Tryz.pinned (OpenSpec.ofChange policyBelowSpec)

/-- ITS FALSE NEIGHBOUR: 'it returns false'. Refute it at one input. -/
def policyBelowWrong : ChangeSpec := { name := "policyBelow", fn := fun _ => fun
  | [d1, d2, d3] => { results := [.lit (.bool false)], args := [d1, d2, d3] }
  | _ => none }
def PolicyBelowWrongFalsely : Prop := policyBelowRow.holds Tryz.pinned (OpenSpec.ofChange policyBelowWrong)

/-- 'archivumlaw35.PolicyOpens': WHATEVER THE INPUT: true; the input reads as it did. -/
def policyOpensSpec : ChangeSpec := { name := "policyOpens", fn := fun _ => fun
  | [d1, d2, d3] => { results := [.lit (.bool true)], args := [d1, d2, d3] }
  | _ => none }
def policyOpensRow : OpenClaim := { program := "ytkochmppmpmddaagreat", sum := "a554933399f020309b7d47a5ec6ec2e05eef57f22f6490f7323e1922f0ed1ca3", func := "archivum/archivumlaw35.PolicyOpens", spec := "policyOpens", inPlace := ["internal/bytealg.IndexByteString", "internal/bytealg.IndexString"], unfollowed := true, recurses := true, named := ["internal/bytealg.MaxLen"], apart := false }
def PolicyOpensSaid : Prop := policyOpensRow.holds Tryz.pinned (OpenSpec.ofChange policyOpensSpec)

/-- ITS FALSE NEIGHBOUR: 'it returns false'. Refute it at one input. -/
def policyOpensWrong : ChangeSpec := { name := "policyOpens", fn := fun _ => fun
  | [d1, d2, d3] => { results := [.lit (.bool false)], args := [d1, d2, d3] }
  | _ => none }
def PolicyOpensWrongFalsely : Prop := policyOpensRow.holds Tryz.pinned (OpenSpec.ofChange policyOpensWrong)

/-- 'archivumlaw35.PolicyFurther': WHATEVER THE INPUT: true; the input reads as it did. -/
def policyFurtherSpec : ChangeSpec := { name := "policyFurther", fn := fun _ => fun
  | [d1, d2, d3] => { results := [.lit (.bool true)], args := [d1, d2, d3] }
  | _ => none }
def policyFurtherRow : OpenClaim := { program := "ytkochmppmpmddaagreat", sum := "a554933399f020309b7d47a5ec6ec2e05eef57f22f6490f7323e1922f0ed1ca3", func := "archivum/archivumlaw35.PolicyFurther", spec := "policyFurther", inPlace := ["internal/bytealg.IndexByteString", "internal/bytealg.IndexString"], unfollowed := true, recurses := true, named := ["internal/bytealg.MaxLen"], apart := false }
def PolicyFurtherSaid : Prop := policyFurtherRow.holds Tryz.pinned (OpenSpec.ofChange policyFurtherSpec)

/-- ITS FALSE NEIGHBOUR: 'it returns false'. Refute it at one input. -/
def policyFurtherWrong : ChangeSpec := { name := "policyFurther", fn := fun _ => fun
  | [d1, d2, d3] => { results := [.lit (.bool false)], args := [d1, d2, d3] }
  | _ => none }
def PolicyFurtherWrongFalsely : Prop := policyFurtherRow.holds Tryz.pinned (OpenSpec.ofChange policyFurtherWrong)

/-- 'archivumlaw35.PolicyDays': WHATEVER THE INPUT: true; the input reads as it did. -/
def policyDaysSpec : ChangeSpec := { name := "policyDays", fn := fun _ => fun
  | [d1, d2, d3] => { results := [.lit (.bool true)], args := [d1, d2, d3] }
  | _ => none }
def policyDaysRow : OpenClaim := { program := "ytkochmppmpmddaagreat", sum := "a554933399f020309b7d47a5ec6ec2e05eef57f22f6490f7323e1922f0ed1ca3", func := "archivum/archivumlaw35.PolicyDays", spec := "policyDays", inPlace := ["internal/bytealg.IndexByteString", "internal/bytealg.IndexString"], unfollowed := true, recurses := true, named := ["internal/bytealg.MaxLen"], apart := false }
def PolicyDaysSaid : Prop := policyDaysRow.holds Tryz.pinned (OpenSpec.ofChange policyDaysSpec)

/-- ITS FALSE NEIGHBOUR: 'it returns false'. Refute it at one input. -/
def policyDaysWrong : ChangeSpec := { name := "policyDays", fn := fun _ => fun
  | [d1, d2, d3] => { results := [.lit (.bool false)], args := [d1, d2, d3] }
  | _ => none }
def PolicyDaysWrongFalsely : Prop := policyDaysRow.holds Tryz.pinned (OpenSpec.ofChange policyDaysWrong)

/-- 'archivumlaw35.PolicyLearns': WHATEVER THE INPUT: true; the input reads as it did. -/
def policyLearnsSpec : ChangeSpec := { name := "policyLearns", fn := fun _ => fun
  | [d1, d2, d3] => { results := [.lit (.bool true)], args := [d1, d2, d3] }
  | _ => none }
def policyLearnsRow : OpenClaim := { program := "ytkochmppmpmddaagreat", sum := "a554933399f020309b7d47a5ec6ec2e05eef57f22f6490f7323e1922f0ed1ca3", func := "archivum/archivumlaw35.PolicyLearns", spec := "policyLearns", inPlace := ["internal/bytealg.IndexByteString", "internal/bytealg.IndexString"], unfollowed := true, recurses := true, named := ["internal/bytealg.MaxLen"], apart := false }
def PolicyLearnsSaid : Prop := policyLearnsRow.holds Tryz.pinned (OpenSpec.ofChange policyLearnsSpec)

/-- ITS FALSE NEIGHBOUR: 'it returns false'. Refute it at one input. -/
def policyLearnsWrong : ChangeSpec := { name := "policyLearns", fn := fun _ => fun
  | [d1, d2, d3] => { results := [.lit (.bool false)], args := [d1, d2, d3] }
  | _ => none }
def PolicyLearnsWrongFalsely : Prop := policyLearnsRow.holds Tryz.pinned (OpenSpec.ofChange policyLearnsWrong)

/- THE SECOND FORM. 'bulk': how many values and letters a reading holds, each counted each time it is reached (what is shared counts as often as it is met; a slice's spare places count too). A statement '..UptoSaid' is the law's where the arguments, and the package variables that the reading takes, are together of bulk at most 1048576: NARROWER than '..Said'. Prove '..Said' where nothing that the law and all that it calls make is longer than what came in: it says more and counts as full. Else prove '..UptoSaid'. A law counts once. -/
mutual
def uptoBulk {H : Type} : DataW H → Nat
  | .lit (.string bytes) => bytes.length + 1
  | .lit _ => 1
  | .nil => 1
  | .ptr d => uptoBulk d + 1
  | .slice elems spare => uptoBulkAll elems + uptoBulkAll spare + 1
  | .agg parts => uptoBulkAll parts + 1
  | .iface _ d => uptoBulk d + 1
  | .map entries => uptoBulkEntries entries + 1
  | .held _ => 1
def uptoBulkAll {H : Type} : List (DataW H) → Nat
  | [] => 0
  | d :: r => uptoBulk d + uptoBulkAll r
def uptoBulkEntries {H : Type} : List (Lit × DataW H) → Nat
  | [] => 0
  | x :: r => uptoBulkEntry x + uptoBulkEntries r
def uptoBulkEntry {H : Type} : Lit × DataW H → Nat
  | (.string bytes, d) => bytes.length + uptoBulk d + 1
  | (_, d) => uptoBulk d + 1
 end
def uptoSmall : (H : Type) → List (DataW H) → Bool := fun _ ds => decide (uptoBulkAll ds ≤ 1048576)
def OpenSpec.upto (s : _root_.Go.ChangeSpec) : _root_.Go.OpenSpec := { _root_.Go.OpenSpec.ofChange s with cond := some uptoSmall }

/-- 'archivumlaw35.PolicyChecks', WHERE WHAT IT READS IS OF BULK AT MOST 1048576: true; the input reads as it did. -/
def policyChecksUptoRow : OpenClaim := { program := "ytkochmppmpmddaagreat", sum := "a554933399f020309b7d47a5ec6ec2e05eef57f22f6490f7323e1922f0ed1ca3", func := "archivum/archivumlaw35.PolicyChecks", spec := "policyChecks", inPlace := ["internal/bytealg.IndexByteString", "internal/bytealg.IndexString"], unfollowed := true, recurses := true, named := ["internal/bytealg.MaxLen"], apart := false, narrowed := true }
def PolicyChecksUptoSaid : Prop := policyChecksUptoRow.holds Tryz.pinned (OpenSpec.upto policyChecksSpec)

/-- 'archivumlaw35.PolicyProves', WHERE WHAT IT READS IS OF BULK AT MOST 1048576: true; the input reads as it did. -/
def policyProvesUptoRow : OpenClaim := { program := "ytkochmppmpmddaagreat", sum := "a554933399f020309b7d47a5ec6ec2e05eef57f22f6490f7323e1922f0ed1ca3", func := "archivum/archivumlaw35.PolicyProves", spec := "policyProves", inPlace := ["internal/bytealg.IndexByteString", "internal/bytealg.IndexString"], unfollowed := true, recurses := true, named := ["internal/bytealg.MaxLen"], apart := false, narrowed := true }
def PolicyProvesUptoSaid : Prop := policyProvesUptoRow.holds Tryz.pinned (OpenSpec.upto policyProvesSpec)

/-- 'archivumlaw35.PolicyDecides', WHERE WHAT IT READS IS OF BULK AT MOST 1048576: true; the input reads as it did. -/
def policyDecidesUptoRow : OpenClaim := { program := "ytkochmppmpmddaagreat", sum := "a554933399f020309b7d47a5ec6ec2e05eef57f22f6490f7323e1922f0ed1ca3", func := "archivum/archivumlaw35.PolicyDecides", spec := "policyDecides", inPlace := ["internal/bytealg.IndexByteString", "internal/bytealg.IndexString"], unfollowed := true, recurses := true, named := ["internal/bytealg.MaxLen"], apart := false, narrowed := true }
def PolicyDecidesUptoSaid : Prop := policyDecidesUptoRow.holds Tryz.pinned (OpenSpec.upto policyDecidesSpec)

/-- 'archivumlaw35.PolicyBelow', WHERE WHAT IT READS IS OF BULK AT MOST 1048576: true; the input reads as it did. -/
def policyBelowUptoRow : OpenClaim := { program := "ytkochmppmpmddaagreat", sum := "a554933399f020309b7d47a5ec6ec2e05eef57f22f6490f7323e1922f0ed1ca3", func := "archivum/archivumlaw35.PolicyBelow", spec := "policyBelow", inPlace := ["internal/bytealg.IndexByteString", "internal/bytealg.IndexString"], unfollowed := true, recurses := true, named := ["internal/bytealg.MaxLen"], apart := false, narrowed := true }
def PolicyBelowUptoSaid : Prop := policyBelowUptoRow.holds Tryz.pinned (OpenSpec.upto policyBelowSpec)

/-- 'archivumlaw35.PolicyOpens', WHERE WHAT IT READS IS OF BULK AT MOST 1048576: true; the input reads as it did. -/
def policyOpensUptoRow : OpenClaim := { program := "ytkochmppmpmddaagreat", sum := "a554933399f020309b7d47a5ec6ec2e05eef57f22f6490f7323e1922f0ed1ca3", func := "archivum/archivumlaw35.PolicyOpens", spec := "policyOpens", inPlace := ["internal/bytealg.IndexByteString", "internal/bytealg.IndexString"], unfollowed := true, recurses := true, named := ["internal/bytealg.MaxLen"], apart := false, narrowed := true }
def PolicyOpensUptoSaid : Prop := policyOpensUptoRow.holds Tryz.pinned (OpenSpec.upto policyOpensSpec)

/-- 'archivumlaw35.PolicyFurther', WHERE WHAT IT READS IS OF BULK AT MOST 1048576: true; the input reads as it did. -/
def policyFurtherUptoRow : OpenClaim := { program := "ytkochmppmpmddaagreat", sum := "a554933399f020309b7d47a5ec6ec2e05eef57f22f6490f7323e1922f0ed1ca3", func := "archivum/archivumlaw35.PolicyFurther", spec := "policyFurther", inPlace := ["internal/bytealg.IndexByteString", "internal/bytealg.IndexString"], unfollowed := true, recurses := true, named := ["internal/bytealg.MaxLen"], apart := false, narrowed := true }
def PolicyFurtherUptoSaid : Prop := policyFurtherUptoRow.holds Tryz.pinned (OpenSpec.upto policyFurtherSpec)

/-- 'archivumlaw35.PolicyDays', WHERE WHAT IT READS IS OF BULK AT MOST 1048576: true; the input reads as it did. -/
def policyDaysUptoRow : OpenClaim := { program := "ytkochmppmpmddaagreat", sum := "a554933399f020309b7d47a5ec6ec2e05eef57f22f6490f7323e1922f0ed1ca3", func := "archivum/archivumlaw35.PolicyDays", spec := "policyDays", inPlace := ["internal/bytealg.IndexByteString", "internal/bytealg.IndexString"], unfollowed := true, recurses := true, named := ["internal/bytealg.MaxLen"], apart := false, narrowed := true }
def PolicyDaysUptoSaid : Prop := policyDaysUptoRow.holds Tryz.pinned (OpenSpec.upto policyDaysSpec)

/-- 'archivumlaw35.PolicyLearns', WHERE WHAT IT READS IS OF BULK AT MOST 1048576: true; the input reads as it did. -/
def policyLearnsUptoRow : OpenClaim := { program := "ytkochmppmpmddaagreat", sum := "a554933399f020309b7d47a5ec6ec2e05eef57f22f6490f7323e1922f0ed1ca3", func := "archivum/archivumlaw35.PolicyLearns", spec := "policyLearns", inPlace := ["internal/bytealg.IndexByteString", "internal/bytealg.IndexString"], unfollowed := true, recurses := true, named := ["internal/bytealg.MaxLen"], apart := false, narrowed := true }
def PolicyLearnsUptoSaid : Prop := policyLearnsUptoRow.holds Tryz.pinned (OpenSpec.upto policyLearnsSpec)

end Rows
end Go.Proofs.YtkochmppmpmddaaGreat
