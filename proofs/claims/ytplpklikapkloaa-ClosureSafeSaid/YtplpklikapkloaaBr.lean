/- The arguments of the laws on closures, opened. -/
import Derived.Test.YtplpklikapkloaaRows
import Derived.Test.YtplpklikapkloaaOa
import Derived.Test.YtplpklikapkloaaBb
import Derived.Test.YtplpklikapkloaaBe
namespace Go.Proofs.Ytplpklikapkloaa
open Go.Abs Go.Arch
open Go.ChangeShapes Go.WideShapes Go.ChangeAt Go.RowKit
set_option linter.unusedVariables false
set_option linter.unusedSimpArgs false

theorem own : ownKnob Try.prog.godebug = none := by kernel_rfl
theorem laidOut : laidOutB Try.prog = true := by kernel_rfl

theorem opn3 : Opn Try.prog 3 fun ds => ∃ n, ds = [I n] ∧ (Lit.int .i64 n).wf = true := opn_int Try.underlying3
theorem opn4 : Opn Try.prog 4 fun ds => ∃ b, ds = [B b] := opn_bool Try.underlying4
theorem opn26 : Opn Try.prog 26 fun ds => ∃ s : Span, ds = s.enc := (opn_struct Try.underlying26 (by kernel_rfl) (.cons opn3 (.cons opn3 .nil))).mono fun ds h => by
  obtain ⟨_, _, rfl, ⟨a, rfl, _⟩, _, _, rfl, ⟨b, rfl, _⟩, rfl⟩ := h
  exact ⟨⟨a, b⟩, rfl⟩
theorem opn28 : Opn Try.prog 28 fun ds => ∃ r : Rule, ds = r.enc := (opn_struct Try.underlying28 (by kernel_rfl) (.cons opn3 (.cons opn3 (.cons opn3 (.cons opn4 (.cons opn26 .nil)))))).mono fun ds h => by
  obtain ⟨_, _, rfl, ⟨a, rfl, _⟩, _, _, rfl, ⟨b, rfl, _⟩, _, _, rfl, ⟨c, rfl, _⟩, _, _, rfl, ⟨e, rfl⟩, _, _, rfl, ⟨s, rfl⟩, rfl⟩ := h
  exact ⟨⟨a, b, c, e, s⟩, rfl⟩
theorem opn36 : Opn Try.prog 36 fun ds => ∃ m : Dating, ds = m.enc := (opn_struct Try.underlying36 (by kernel_rfl) (.cons opn3 (.cons opn3 .nil))).mono fun ds h => by
  obtain ⟨_, _, rfl, ⟨a, rfl, _⟩, _, _, rfl, ⟨b, rfl, _⟩, rfl⟩ := h
  exact ⟨⟨a, b⟩, rfl⟩
theorem opn22 : Opn Try.prog 22 fun ds => ∃ y, ds = [y] ∧ ∃ n g, y = SL none 6 Rule.enc n g ∧ n ≤ maxLen := (opn_slice (sz := 6) (Rule.enc Rule.zero) Try.underlying22 (by kernel_rfl) (by omega) opn28 ⟨_, rfl⟩).mono fun ds h => by
  obtain ⟨n, row, rfl, hn, h⟩ := h
  exact ⟨_, rfl, n, fun i => (h i).choose, congrArg (D.sl none 6 n) (funext fun i => (h i).choose_spec), hn⟩
theorem opn40 : Opn Try.prog 40 fun ds => ∃ a b c e, ds = [I a, I b, I c, I e] ∧ (Lit.int .i64 c).wf = true := (opn_array Try.underlying40 (by kernel_rfl) opn3).mono fun ds h => by
  obtain ⟨_, _, rfl, ⟨a, rfl, _⟩, _, _, rfl, ⟨b, rfl, _⟩, _, _, rfl, ⟨c, rfl, hc⟩, _, _, rfl, ⟨e, rfl, _⟩, rfl⟩ := h
  exact ⟨a, b, c, e, rfl, hc⟩
theorem opn49 : Opn Try.prog 49 fun ds => ∃ a b, ds = [I a, I b] ∧ (Lit.int .i64 b).wf = true := (opn_array Try.underlying49 (by kernel_rfl) opn3).mono fun ds h => by
  obtain ⟨_, _, rfl, ⟨a, rfl, _⟩, _, _, rfl, ⟨b, rfl, hb⟩, rfl⟩ := h
  exact ⟨a, b, rfl, hb⟩
theorem opn56 : Opn Try.prog 56 fun ds => ∃ a b c, ds = [I a, I b, I c] ∧ (Lit.int .i64 c).wf = true := (opn_array Try.underlying56 (by kernel_rfl) opn3).mono fun ds h => by
  obtain ⟨_, _, rfl, ⟨a, rfl, _⟩, _, _, rfl, ⟨b, rfl, _⟩, _, _, rfl, ⟨c, rfl, hc⟩, rfl⟩ := h
  exact ⟨a, b, c, rfl, hc⟩

end Go.Proofs.Ytplpklikapkloaa
