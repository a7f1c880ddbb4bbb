/- What the row of ServiceRuns reckons off the program, each fact by itself; no conditions. Written by a program (mkrj.py). -/
import Derived.Test.YthpplckmbbachaaGreatDoorTie
import Derived.Test.YthpplckmbbachaaGreatDoorCards
import Derived.SevenTiedAt
import Derived.KernelRfl
namespace Go.Proofs.YthpplckmbbachaaGreatDoor.serviceRuns
open Go
set_option linter.unusedVariables false
set_option linter.unusedSimpArgs false
set_option maxRecDepth 100000
theorem any_get {P : Program} (h : P.funcs.any Func.goes = false) (g : Nat) : (P.funcs[g]?).any Func.goes = false := by
  cases e : P.funcs[g]? with
  | none => rfl
  | some fn =>
    simp only [Option.any_some]
    cases hg : fn.goes with
    | false => rfl
    | true =>
      exfalso
      have hm : fn ∈ P.funcs := Array.mem_of_getElem? e
      have : P.funcs.any Func.goes = true := Array.any_eq_true'.2 ⟨fn, hm, hg⟩
      rw [h] at this; cases this
theorem goes_no {P : Program} (h : P.funcs.any Func.goes = false) (f : FuncId) : P.goes f = false := by
  unfold Program.goes
  rw [h, Bool.and_false, Bool.or_false]
  rw [List.any_eq_false]
  intro g _
  rw [any_get h]; decide
theorem none_goes : Tryz.prog.funcs.any Func.goes = false := by kernel_rfl
theorem c8 : Rows.serviceRunsRow.goesBy Tryz.prog = false := by
  unfold OpenClaim.goesBy Program.goesAt Program.goesFrom
  cases h : Tryz.prog.funcNamed Rows.serviceRunsRow.func with
  | none => rfl
  | some f => simp [goes_no none_goes]; rfl
theorem j0 : (Rows.serviceRunsRow.wf (OpenSpec.ofChange (OpenSpec.ofChange Rows.serviceRunsSpec).bare)) = true := by kernel_rfl
theorem j1 : (laidOutB Tryz.prog) = true := by kernel_rfl
theorem j2 : (mapsRowed Tryz.prog) = true := by kernel_rfl
theorem j3 : (Tryz.f4.params.all (Tryz.prog.readableRec ·)) = true := by kernel_rfl
theorem j4 : (namedTie Tryz.prog Rows.serviceRunsRow.named (OpenSpec.ofChange Rows.serviceRunsSpec).bare.vars) = true := by kernel_rfl
theorem j5 : ((Rows.serviceRunsRow.stops == [])) = true := by kernel_rfl
theorem j6 : ((Tryz.prog.stops == [])) = true := by kernel_rfl
theorem j7 : ((Rows.serviceRunsRow.knobs == [])) = true := by kernel_rfl
theorem j8 : ((Tryz.prog.stopKnobs == [])) = true := by kernel_rfl
theorem j9 : ((Rows.serviceRunsRow.inPlace == Tryz.prog.inPlace 4)) = true := by kernel_rfl
theorem j10 : ((Rows.serviceRunsRow.unfollowed == Tryz.prog.unfollowed 4)) = true := by kernel_rfl
theorem j11 : ((Rows.serviceRunsRow.recurses == Tryz.prog.recurses 4)) = true := by kernel_rfl
theorem j12 : ((Rows.serviceRunsRow.named == Tryz.prog.varsNamed 4)) = true := by kernel_rfl
theorem j13 : ((Rows.serviceRunsRow.maps == (Tryz.f4.params.toList ++ (OpenSpec.ofChange Rows.serviceRunsSpec).bare.plain.varTypes Tryz.prog).any (Tryz.prog.mapsRec ·))) = true := by kernel_rfl
theorem j14 : ((Rows.serviceRunsRow.ifaces == (Tryz.f4.params.toList ++ (OpenSpec.ofChange Rows.serviceRunsSpec).bare.plain.varTypes Tryz.prog).any (Tryz.prog.ifacesRec ·))) = true := by kernel_rfl
theorem j15 : ((Rows.serviceRunsRow.mapsOut == Tryz.prog.mapsAmong Tryz.f4.resultTypes.toList)) = true := by kernel_rfl
theorem j16 : ((Rows.serviceRunsRow.loops == (Tryz.f4.params.toList ++ (OpenSpec.ofChange Rows.serviceRunsSpec).bare.plain.varTypes Tryz.prog).any (Tryz.prog.loopsFrom ·))) = true := by kernel_rfl
theorem j17 : ((Rows.serviceRunsRow.wideKeys == (Tryz.f4.params.toList ++ (OpenSpec.ofChange Rows.serviceRunsSpec).bare.plain.varTypes Tryz.prog ++ Tryz.f4.resultTypes.toList).any (Tryz.prog.wideKeysFrom ·))) = true := by kernel_rfl
theorem j18 : ((OpenSpec.ofChange Rows.serviceRunsSpec).bare.vars.all (Tryz.prog.varReadable ·)) = true := by kernel_rfl
theorem j19 : (Tryz.f4.resultTypes.all (fun t => Tryz.prog.readableRec t && decide (t < Tryz.prog.types.size))) = true := by kernel_rfl
theorem j20 : ((Rows.serviceRunsRow.ifacesOut == Tryz.f4.resultTypes.toList.any (Tryz.prog.ifacesRec ·))) = true := by kernel_rfl
theorem j21 : ((Rows.serviceRunsRow.loopsOut == Tryz.f4.resultTypes.toList.any (Tryz.prog.loopsFrom ·))) = true := by kernel_rfl
theorem j22 : ((Rows.serviceRunsRow.plainKeys == Tryz.prog.plainKeys)) = true := by kernel_rfl
theorem j23 : (Rows.serviceRunsRow.shortTexts.isNone) = true := by kernel_rfl
theorem j24 : (Tryz.prog.stopsHeard) = true := by kernel_rfl
theorem j25 : (Tryz.prog.mayEnter) = true := by kernel_rfl
theorem j26 : ((Rows.serviceRunsRow.lifted == Tryz.prog.liftsFinal)) = true := by kernel_rfl
theorem j27 : ((Tryz.prog.make == some Rows.serviceRunsRow.make)) = true := by kernel_rfl
theorem j28 : ((Rows.serviceRunsRow.kinds == (if Rows.serviceRunsRow.domain.isEmpty then [] else Tryz.f4.params.toList.map fun t => match Tryz.prog.underlying t with | some (.int k) => some k | _ => none))) = true := by kernel_rfl
theorem j29 : ((Rows.serviceRunsRow.pinned == Rows.serviceRunsRow.pinnedBy)) = true := by kernel_rfl
theorem j30 : ((Rows.serviceRunsRow.veiled == (Tryz.f4.params.toList ++ (OpenSpec.ofChange Rows.serviceRunsSpec).bare.plain.varTypes Tryz.prog ++ Tryz.f4.resultTypes.toList).any (Tryz.prog.veiledRec ·))) = true := by kernel_rfl
theorem j31 : (Rows.serviceRunsRow.veiledFits Tryz.prog Tryz.f4.params.toList (Tryz.f4.params.toList ++ (OpenSpec.ofChange Rows.serviceRunsSpec).bare.plain.varTypes Tryz.prog ++ Tryz.f4.resultTypes.toList)) = true := by kernel_rfl
theorem joined : joinedFacts Tryz.prog 4 Tryz.f4 (OpenSpec.ofChange Rows.serviceRunsSpec).bare Rows.serviceRunsRow = true := by
  unfold joinedFacts
  simp only [Bool.and_eq_true]
  exact ⟨⟨⟨⟨⟨⟨⟨⟨⟨⟨⟨⟨⟨⟨⟨⟨⟨⟨⟨⟨⟨⟨⟨⟨⟨⟨⟨⟨⟨⟨⟨j0, j1⟩, j2⟩, j3⟩, j4⟩, j5⟩, j6⟩, j7⟩, j8⟩, j9⟩, j10⟩, j11⟩, j12⟩, j13⟩, j14⟩, j15⟩, j16⟩, j17⟩, j18⟩, j19⟩, j20⟩, j21⟩, j22⟩, j23⟩, j24⟩, j25⟩, j26⟩, j27⟩, j28⟩, j29⟩, j30⟩, j31⟩
end Go.Proofs.YthpplckmbbachaaGreatDoor.serviceRuns
