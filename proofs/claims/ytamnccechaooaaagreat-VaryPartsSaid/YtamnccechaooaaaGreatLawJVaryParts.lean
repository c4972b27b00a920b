/- The closed facts of the row of VaryParts, one by one. -/
import Derived.Test.YtamnccechaooaaaGreatRow
namespace Go.Proofs.YtamnccechaooaaaGreat.varyParts
open Go.ChangeShapes Go.WideShapes Go.ChangeAt Go.RowKit

theorem j1 : (Rows.varyPartsRow.wf (OpenSpec.ofChange Rows.varyPartsSpec)) = true := by kernel_rfl
theorem j2 : (laidOutB Tryz.pinned.checked.prog) = true := by kernel_rfl
theorem j3 : (mapsRowed Tryz.pinned.checked.prog) = true := by kernel_rfl
theorem j4 : (Tryz.f18.params.all (Tryz.pinned.checked.prog.readableRec ·)) = true := by kernel_rfl
theorem j5 : (namedTie Tryz.pinned.checked.prog Rows.varyPartsRow.named Rows.varyPartsSpec.vars) = true := by kernel_rfl
theorem j6 : ((Rows.varyPartsRow.stops == [])) = true := by kernel_rfl
theorem j7 : ((Tryz.pinned.checked.prog.stops == [])) = true := by kernel_rfl
theorem j8 : ((Rows.varyPartsRow.knobs == [])) = true := by kernel_rfl
theorem j9 : ((Tryz.pinned.checked.prog.stopKnobs == [])) = true := by kernel_rfl
theorem j10 : ((Rows.varyPartsRow.inPlace == Tryz.pinned.checked.prog.inPlace 18)) = true := by kernel_rfl
theorem j11 : ((Rows.varyPartsRow.unfollowed == Tryz.pinned.checked.prog.unfollowed 18)) = true := by kernel_rfl
theorem j12 : ((Rows.varyPartsRow.recurses == Tryz.pinned.checked.prog.recurses 18)) = true := by kernel_rfl
theorem j13 : ((Rows.varyPartsRow.named == Tryz.pinned.checked.prog.varsNamed 18)) = true := by kernel_rfl
theorem j14 : ((Rows.varyPartsRow.maps == (Tryz.f18.params.toList ++ Rows.varyPartsSpec.plain.varTypes Tryz.pinned.checked.prog).any (Tryz.pinned.checked.prog.mapsRec ·))) = true := by kernel_rfl
theorem j15 : ((Rows.varyPartsRow.ifaces == (Tryz.f18.params.toList ++ Rows.varyPartsSpec.plain.varTypes Tryz.pinned.checked.prog).any (Tryz.pinned.checked.prog.ifacesRec ·))) = true := by kernel_rfl
theorem j16 : ((Rows.varyPartsRow.mapsOut == Tryz.pinned.checked.prog.mapsAmong Tryz.f18.resultTypes.toList)) = true := by kernel_rfl
theorem j17 : ((Rows.varyPartsRow.loops == (Tryz.f18.params.toList ++ Rows.varyPartsSpec.plain.varTypes Tryz.pinned.checked.prog).any (Tryz.pinned.checked.prog.loopsFrom ·))) = true := by kernel_rfl
theorem j18 : ((Rows.varyPartsRow.wideKeys == (Tryz.f18.params.toList ++ Rows.varyPartsSpec.plain.varTypes Tryz.pinned.checked.prog ++ Tryz.f18.resultTypes.toList).any (Tryz.pinned.checked.prog.wideKeysFrom ·))) = true := by kernel_rfl
theorem j19 : (Rows.varyPartsSpec.vars.all (Tryz.pinned.checked.prog.varReadable ·)) = true := by kernel_rfl
theorem j20 : (Tryz.f18.resultTypes.all (fun t => Tryz.pinned.checked.prog.readableRec t && decide (t < Tryz.pinned.checked.prog.types.size))) = true := by kernel_rfl
theorem j21 : ((Rows.varyPartsRow.ifacesOut == Tryz.f18.resultTypes.toList.any (Tryz.pinned.checked.prog.ifacesRec ·))) = true := by kernel_rfl
theorem j22 : ((Rows.varyPartsRow.loopsOut == Tryz.f18.resultTypes.toList.any (Tryz.pinned.checked.prog.loopsFrom ·))) = true := by kernel_rfl
theorem j23 : ((Rows.varyPartsRow.plainKeys == Tryz.pinned.checked.prog.plainKeys)) = true := by kernel_rfl
theorem j24 : (Rows.varyPartsRow.shortTexts.isNone) = true := by kernel_rfl
theorem j25 : (Tryz.pinned.checked.prog.stopsHeard) = true := by kernel_rfl
theorem j26 : (Tryz.pinned.checked.prog.mayEnter) = true := by kernel_rfl
theorem j27 : ((Rows.varyPartsRow.lifted == Tryz.pinned.checked.prog.liftsFinal)) = true := by kernel_rfl
theorem j28 : ((Tryz.pinned.checked.prog.make == some Rows.varyPartsRow.make)) = true := by kernel_rfl
theorem j29 : ((Rows.varyPartsRow.kinds == (if Rows.varyPartsRow.domain.isEmpty then [] else Tryz.f18.params.toList.map fun t => match Tryz.pinned.checked.prog.underlying t with | some (.int k) => some k | _ => none))) = true := by kernel_rfl
theorem j30 : ((Rows.varyPartsRow.pinned == Rows.varyPartsRow.pinnedBy)) = true := by kernel_rfl
theorem j31 : ((Rows.varyPartsRow.veiled == (Tryz.f18.params.toList ++ Rows.varyPartsSpec.plain.varTypes Tryz.pinned.checked.prog ++ Tryz.f18.resultTypes.toList).any (Tryz.pinned.checked.prog.veiledRec ·))) = true := by kernel_rfl
theorem j32 : (Rows.varyPartsRow.veiledFits Tryz.pinned.checked.prog Tryz.f18.params.toList (Tryz.f18.params.toList ++ Rows.varyPartsSpec.plain.varTypes Tryz.pinned.checked.prog ++ Tryz.f18.resultTypes.toList)) = true := by kernel_rfl
theorem joined : joinedFacts Tryz.pinned.checked.prog 18 Tryz.f18 Rows.varyPartsSpec Rows.varyPartsRow = true := by
  unfold joinedFacts
  rw [j1, j2, j3, j4, j5, j6, j7, j8, j9, j10, j11, j12, j13, j14, j15, j16, j17, j18, j19, j20, j21, j22, j23, j24, j25, j26, j27, j28, j30, j31, j32]
  kernel_rfl
end Go.Proofs.YtamnccechaooaaaGreat.varyParts
