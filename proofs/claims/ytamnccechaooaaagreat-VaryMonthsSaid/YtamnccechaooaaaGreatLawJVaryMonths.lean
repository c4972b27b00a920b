/- The closed facts of the row of VaryMonths, one by one. -/
import Derived.Test.YtamnccechaooaaaGreatRow
namespace Go.Proofs.YtamnccechaooaaaGreat.varyMonths
open Go.ChangeShapes Go.WideShapes Go.ChangeAt Go.RowKit

theorem j1 : (Rows.varyMonthsRow.wf (OpenSpec.ofChange Rows.varyMonthsSpec)) = true := by kernel_rfl
theorem j2 : (laidOutB Tryz.pinned.checked.prog) = true := by kernel_rfl
theorem j3 : (mapsRowed Tryz.pinned.checked.prog) = true := by kernel_rfl
theorem j4 : (Tryz.f17.params.all (Tryz.pinned.checked.prog.readableRec ·)) = true := by kernel_rfl
theorem j5 : (namedTie Tryz.pinned.checked.prog Rows.varyMonthsRow.named Rows.varyMonthsSpec.vars) = true := by kernel_rfl
theorem j6 : ((Rows.varyMonthsRow.stops == [])) = true := by kernel_rfl
theorem j7 : ((Tryz.pinned.checked.prog.stops == [])) = true := by kernel_rfl
theorem j8 : ((Rows.varyMonthsRow.knobs == [])) = true := by kernel_rfl
theorem j9 : ((Tryz.pinned.checked.prog.stopKnobs == [])) = true := by kernel_rfl
theorem j10 : ((Rows.varyMonthsRow.inPlace == Tryz.pinned.checked.prog.inPlace 17)) = true := by kernel_rfl
theorem j11 : ((Rows.varyMonthsRow.unfollowed == Tryz.pinned.checked.prog.unfollowed 17)) = true := by kernel_rfl
theorem j12 : ((Rows.varyMonthsRow.recurses == Tryz.pinned.checked.prog.recurses 17)) = true := by kernel_rfl
theorem j13 : ((Rows.varyMonthsRow.named == Tryz.pinned.checked.prog.varsNamed 17)) = true := by kernel_rfl
theorem j14 : ((Rows.varyMonthsRow.maps == (Tryz.f17.params.toList ++ Rows.varyMonthsSpec.plain.varTypes Tryz.pinned.checked.prog).any (Tryz.pinned.checked.prog.mapsRec ·))) = true := by kernel_rfl
theorem j15 : ((Rows.varyMonthsRow.ifaces == (Tryz.f17.params.toList ++ Rows.varyMonthsSpec.plain.varTypes Tryz.pinned.checked.prog).any (Tryz.pinned.checked.prog.ifacesRec ·))) = true := by kernel_rfl
theorem j16 : ((Rows.varyMonthsRow.mapsOut == Tryz.pinned.checked.prog.mapsAmong Tryz.f17.resultTypes.toList)) = true := by kernel_rfl
theorem j17 : ((Rows.varyMonthsRow.loops == (Tryz.f17.params.toList ++ Rows.varyMonthsSpec.plain.varTypes Tryz.pinned.checked.prog).any (Tryz.pinned.checked.prog.loopsFrom ·))) = true := by kernel_rfl
theorem j18 : ((Rows.varyMonthsRow.wideKeys == (Tryz.f17.params.toList ++ Rows.varyMonthsSpec.plain.varTypes Tryz.pinned.checked.prog ++ Tryz.f17.resultTypes.toList).any (Tryz.pinned.checked.prog.wideKeysFrom ·))) = true := by kernel_rfl
theorem j19 : (Rows.varyMonthsSpec.vars.all (Tryz.pinned.checked.prog.varReadable ·)) = true := by kernel_rfl
theorem j20 : (Tryz.f17.resultTypes.all (fun t => Tryz.pinned.checked.prog.readableRec t && decide (t < Tryz.pinned.checked.prog.types.size))) = true := by kernel_rfl
theorem j21 : ((Rows.varyMonthsRow.ifacesOut == Tryz.f17.resultTypes.toList.any (Tryz.pinned.checked.prog.ifacesRec ·))) = true := by kernel_rfl
theorem j22 : ((Rows.varyMonthsRow.loopsOut == Tryz.f17.resultTypes.toList.any (Tryz.pinned.checked.prog.loopsFrom ·))) = true := by kernel_rfl
theorem j23 : ((Rows.varyMonthsRow.plainKeys == Tryz.pinned.checked.prog.plainKeys)) = true := by kernel_rfl
theorem j24 : (Rows.varyMonthsRow.shortTexts.isNone) = true := by kernel_rfl
theorem j25 : (Tryz.pinned.checked.prog.stopsHeard) = true := by kernel_rfl
theorem j26 : (Tryz.pinned.checked.prog.mayEnter) = true := by kernel_rfl
theorem j27 : ((Rows.varyMonthsRow.lifted == Tryz.pinned.checked.prog.liftsFinal)) = true := by kernel_rfl
theorem j28 : ((Tryz.pinned.checked.prog.make == some Rows.varyMonthsRow.make)) = true := by kernel_rfl
theorem j29 : ((Rows.varyMonthsRow.kinds == (if Rows.varyMonthsRow.domain.isEmpty then [] else Tryz.f17.params.toList.map fun t => match Tryz.pinned.checked.prog.underlying t with | some (.int k) => some k | _ => none))) = true := by kernel_rfl
theorem j30 : ((Rows.varyMonthsRow.pinned == Rows.varyMonthsRow.pinnedBy)) = true := by kernel_rfl
theorem j31 : ((Rows.varyMonthsRow.veiled == (Tryz.f17.params.toList ++ Rows.varyMonthsSpec.plain.varTypes Tryz.pinned.checked.prog ++ Tryz.f17.resultTypes.toList).any (Tryz.pinned.checked.prog.veiledRec ·))) = true := by kernel_rfl
theorem j32 : (Rows.varyMonthsRow.veiledFits Tryz.pinned.checked.prog Tryz.f17.params.toList (Tryz.f17.params.toList ++ Rows.varyMonthsSpec.plain.varTypes Tryz.pinned.checked.prog ++ Tryz.f17.resultTypes.toList)) = true := by kernel_rfl
theorem joined : joinedFacts Tryz.pinned.checked.prog 17 Tryz.f17 Rows.varyMonthsSpec Rows.varyMonthsRow = true := by
  unfold joinedFacts
  rw [j1, j2, j3, j4, j5, j6, j7, j8, j9, j10, j11, j12, j13, j14, j15, j16, j17, j18, j19, j20, j21, j22, j23, j24, j25, j26, j27, j28, j30, j31, j32]
  kernel_rfl
end Go.Proofs.YtamnccechaooaaaGreat.varyMonths
