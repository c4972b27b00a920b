/- The closed facts of the row of VaryDiff, one by one. -/
import Derived.Test.YtamnccechaooaaaGreatRow
namespace Go.Proofs.YtamnccechaooaaaGreat.varyDiff
open Go.ChangeShapes Go.WideShapes Go.ChangeAt Go.RowKit

theorem j1 : (Rows.varyDiffRow.wf (OpenSpec.ofChange Rows.varyDiffSpec)) = true := by kernel_rfl
theorem j2 : (laidOutB Tryz.pinned.checked.prog) = true := by kernel_rfl
theorem j3 : (mapsRowed Tryz.pinned.checked.prog) = true := by kernel_rfl
theorem j4 : (Tryz.f15.params.all (Tryz.pinned.checked.prog.readableRec ·)) = true := by kernel_rfl
theorem j5 : (namedTie Tryz.pinned.checked.prog Rows.varyDiffRow.named Rows.varyDiffSpec.vars) = true := by kernel_rfl
theorem j6 : ((Rows.varyDiffRow.stops == [])) = true := by kernel_rfl
theorem j7 : ((Tryz.pinned.checked.prog.stops == [])) = true := by kernel_rfl
theorem j8 : ((Rows.varyDiffRow.knobs == [])) = true := by kernel_rfl
theorem j9 : ((Tryz.pinned.checked.prog.stopKnobs == [])) = true := by kernel_rfl
theorem j10 : ((Rows.varyDiffRow.inPlace == Tryz.pinned.checked.prog.inPlace 15)) = true := by kernel_rfl
theorem j11 : ((Rows.varyDiffRow.unfollowed == Tryz.pinned.checked.prog.unfollowed 15)) = true := by kernel_rfl
theorem j12 : ((Rows.varyDiffRow.recurses == Tryz.pinned.checked.prog.recurses 15)) = true := by kernel_rfl
theorem j13 : ((Rows.varyDiffRow.named == Tryz.pinned.checked.prog.varsNamed 15)) = true := by kernel_rfl
theorem j14 : ((Rows.varyDiffRow.maps == (Tryz.f15.params.toList ++ Rows.varyDiffSpec.plain.varTypes Tryz.pinned.checked.prog).any (Tryz.pinned.checked.prog.mapsRec ·))) = true := by kernel_rfl
theorem j15 : ((Rows.varyDiffRow.ifaces == (Tryz.f15.params.toList ++ Rows.varyDiffSpec.plain.varTypes Tryz.pinned.checked.prog).any (Tryz.pinned.checked.prog.ifacesRec ·))) = true := by kernel_rfl
theorem j16 : ((Rows.varyDiffRow.mapsOut == Tryz.pinned.checked.prog.mapsAmong Tryz.f15.resultTypes.toList)) = true := by kernel_rfl
theorem j17 : ((Rows.varyDiffRow.loops == (Tryz.f15.params.toList ++ Rows.varyDiffSpec.plain.varTypes Tryz.pinned.checked.prog).any (Tryz.pinned.checked.prog.loopsFrom ·))) = true := by kernel_rfl
theorem j18 : ((Rows.varyDiffRow.wideKeys == (Tryz.f15.params.toList ++ Rows.varyDiffSpec.plain.varTypes Tryz.pinned.checked.prog ++ Tryz.f15.resultTypes.toList).any (Tryz.pinned.checked.prog.wideKeysFrom ·))) = true := by kernel_rfl
theorem j19 : (Rows.varyDiffSpec.vars.all (Tryz.pinned.checked.prog.varReadable ·)) = true := by kernel_rfl
theorem j20 : (Tryz.f15.resultTypes.all (fun t => Tryz.pinned.checked.prog.readableRec t && decide (t < Tryz.pinned.checked.prog.types.size))) = true := by kernel_rfl
theorem j21 : ((Rows.varyDiffRow.ifacesOut == Tryz.f15.resultTypes.toList.any (Tryz.pinned.checked.prog.ifacesRec ·))) = true := by kernel_rfl
theorem j22 : ((Rows.varyDiffRow.loopsOut == Tryz.f15.resultTypes.toList.any (Tryz.pinned.checked.prog.loopsFrom ·))) = true := by kernel_rfl
theorem j23 : ((Rows.varyDiffRow.plainKeys == Tryz.pinned.checked.prog.plainKeys)) = true := by kernel_rfl
theorem j24 : (Rows.varyDiffRow.shortTexts.isNone) = true := by kernel_rfl
theorem j25 : (Tryz.pinned.checked.prog.stopsHeard) = true := by kernel_rfl
theorem j26 : (Tryz.pinned.checked.prog.mayEnter) = true := by kernel_rfl
theorem j27 : ((Rows.varyDiffRow.lifted == Tryz.pinned.checked.prog.liftsFinal)) = true := by kernel_rfl
theorem j28 : ((Tryz.pinned.checked.prog.make == some Rows.varyDiffRow.make)) = true := by kernel_rfl
theorem j29 : ((Rows.varyDiffRow.kinds == (if Rows.varyDiffRow.domain.isEmpty then [] else Tryz.f15.params.toList.map fun t => match Tryz.pinned.checked.prog.underlying t with | some (.int k) => some k | _ => none))) = true := by kernel_rfl
theorem j30 : ((Rows.varyDiffRow.pinned == Rows.varyDiffRow.pinnedBy)) = true := by kernel_rfl
theorem j31 : ((Rows.varyDiffRow.veiled == (Tryz.f15.params.toList ++ Rows.varyDiffSpec.plain.varTypes Tryz.pinned.checked.prog ++ Tryz.f15.resultTypes.toList).any (Tryz.pinned.checked.prog.veiledRec ·))) = true := by kernel_rfl
theorem j32 : (Rows.varyDiffRow.veiledFits Tryz.pinned.checked.prog Tryz.f15.params.toList (Tryz.f15.params.toList ++ Rows.varyDiffSpec.plain.varTypes Tryz.pinned.checked.prog ++ Tryz.f15.resultTypes.toList)) = true := by kernel_rfl
theorem joined : joinedFacts Tryz.pinned.checked.prog 15 Tryz.f15 Rows.varyDiffSpec Rows.varyDiffRow = true := by
  unfold joinedFacts
  rw [j1, j2, j3, j4, j5, j6, j7, j8, j9, j10, j11, j12, j13, j14, j15, j16, j17, j18, j19, j20, j21, j22, j23, j24, j25, j26, j27, j28, j30, j31, j32]
  kernel_rfl
end Go.Proofs.YtamnccechaooaaaGreat.varyDiff
