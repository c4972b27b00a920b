/- The closed facts of the row of VaryDays, one by one. -/
import Derived.Test.YtamnccechaooaaaGreatRow
namespace Go.Proofs.YtamnccechaooaaaGreat.varyDays
open Go.ChangeShapes Go.WideShapes Go.ChangeAt Go.RowKit

theorem j1 : (Rows.varyDaysRow.wf (OpenSpec.ofChange Rows.varyDaysSpec)) = true := by kernel_rfl
theorem j2 : (laidOutB Tryz.pinned.checked.prog) = true := by kernel_rfl
theorem j3 : (mapsRowed Tryz.pinned.checked.prog) = true := by kernel_rfl
theorem j4 : (Tryz.f19.params.all (Tryz.pinned.checked.prog.readableRec ·)) = true := by kernel_rfl
theorem j5 : (namedTie Tryz.pinned.checked.prog Rows.varyDaysRow.named Rows.varyDaysSpec.vars) = true := by kernel_rfl
theorem j6 : ((Rows.varyDaysRow.stops == [])) = true := by kernel_rfl
theorem j7 : ((Tryz.pinned.checked.prog.stops == [])) = true := by kernel_rfl
theorem j8 : ((Rows.varyDaysRow.knobs == [])) = true := by kernel_rfl
theorem j9 : ((Tryz.pinned.checked.prog.stopKnobs == [])) = true := by kernel_rfl
theorem j10 : ((Rows.varyDaysRow.inPlace == Tryz.pinned.checked.prog.inPlace 19)) = true := by kernel_rfl
theorem j11 : ((Rows.varyDaysRow.unfollowed == Tryz.pinned.checked.prog.unfollowed 19)) = true := by kernel_rfl
theorem j12 : ((Rows.varyDaysRow.recurses == Tryz.pinned.checked.prog.recurses 19)) = true := by kernel_rfl
theorem j13 : ((Rows.varyDaysRow.named == Tryz.pinned.checked.prog.varsNamed 19)) = true := by kernel_rfl
theorem j14 : ((Rows.varyDaysRow.maps == (Tryz.f19.params.toList ++ Rows.varyDaysSpec.plain.varTypes Tryz.pinned.checked.prog).any (Tryz.pinned.checked.prog.mapsRec ·))) = true := by kernel_rfl
theorem j15 : ((Rows.varyDaysRow.ifaces == (Tryz.f19.params.toList ++ Rows.varyDaysSpec.plain.varTypes Tryz.pinned.checked.prog).any (Tryz.pinned.checked.prog.ifacesRec ·))) = true := by kernel_rfl
theorem j16 : ((Rows.varyDaysRow.mapsOut == Tryz.pinned.checked.prog.mapsAmong Tryz.f19.resultTypes.toList)) = true := by kernel_rfl
theorem j17 : ((Rows.varyDaysRow.loops == (Tryz.f19.params.toList ++ Rows.varyDaysSpec.plain.varTypes Tryz.pinned.checked.prog).any (Tryz.pinned.checked.prog.loopsFrom ·))) = true := by kernel_rfl
theorem j18 : ((Rows.varyDaysRow.wideKeys == (Tryz.f19.params.toList ++ Rows.varyDaysSpec.plain.varTypes Tryz.pinned.checked.prog ++ Tryz.f19.resultTypes.toList).any (Tryz.pinned.checked.prog.wideKeysFrom ·))) = true := by kernel_rfl
theorem j19 : (Rows.varyDaysSpec.vars.all (Tryz.pinned.checked.prog.varReadable ·)) = true := by kernel_rfl
theorem j20 : (Tryz.f19.resultTypes.all (fun t => Tryz.pinned.checked.prog.readableRec t && decide (t < Tryz.pinned.checked.prog.types.size))) = true := by kernel_rfl
theorem j21 : ((Rows.varyDaysRow.ifacesOut == Tryz.f19.resultTypes.toList.any (Tryz.pinned.checked.prog.ifacesRec ·))) = true := by kernel_rfl
theorem j22 : ((Rows.varyDaysRow.loopsOut == Tryz.f19.resultTypes.toList.any (Tryz.pinned.checked.prog.loopsFrom ·))) = true := by kernel_rfl
theorem j23 : ((Rows.varyDaysRow.plainKeys == Tryz.pinned.checked.prog.plainKeys)) = true := by kernel_rfl
theorem j24 : (Rows.varyDaysRow.shortTexts.isNone) = true := by kernel_rfl
theorem j25 : (Tryz.pinned.checked.prog.stopsHeard) = true := by kernel_rfl
theorem j26 : (Tryz.pinned.checked.prog.mayEnter) = true := by kernel_rfl
theorem j27 : ((Rows.varyDaysRow.lifted == Tryz.pinned.checked.prog.liftsFinal)) = true := by kernel_rfl
theorem j28 : ((Tryz.pinned.checked.prog.make == some Rows.varyDaysRow.make)) = true := by kernel_rfl
theorem j29 : ((Rows.varyDaysRow.kinds == (if Rows.varyDaysRow.domain.isEmpty then [] else Tryz.f19.params.toList.map fun t => match Tryz.pinned.checked.prog.underlying t with | some (.int k) => some k | _ => none))) = true := by kernel_rfl
theorem j30 : ((Rows.varyDaysRow.pinned == Rows.varyDaysRow.pinnedBy)) = true := by kernel_rfl
theorem j31 : ((Rows.varyDaysRow.veiled == (Tryz.f19.params.toList ++ Rows.varyDaysSpec.plain.varTypes Tryz.pinned.checked.prog ++ Tryz.f19.resultTypes.toList).any (Tryz.pinned.checked.prog.veiledRec ·))) = true := by kernel_rfl
theorem j32 : (Rows.varyDaysRow.veiledFits Tryz.pinned.checked.prog Tryz.f19.params.toList (Tryz.f19.params.toList ++ Rows.varyDaysSpec.plain.varTypes Tryz.pinned.checked.prog ++ Tryz.f19.resultTypes.toList)) = true := by kernel_rfl
theorem joined : joinedFacts Tryz.pinned.checked.prog 19 Tryz.f19 Rows.varyDaysSpec Rows.varyDaysRow = true := by
  unfold joinedFacts
  rw [j1, j2, j3, j4, j5, j6, j7, j8, j9, j10, j11, j12, j13, j14, j15, j16, j17, j18, j19, j20, j21, j22, j23, j24, j25, j26, j27, j28, j30, j31, j32]
  kernel_rfl
end Go.Proofs.YtamnccechaooaaaGreat.varyDays
