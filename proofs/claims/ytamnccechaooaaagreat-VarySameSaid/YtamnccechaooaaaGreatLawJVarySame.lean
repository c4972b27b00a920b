/- The closed facts of the row of VarySame, one by one. -/
import Derived.Test.YtamnccechaooaaaGreatRow
namespace Go.Proofs.YtamnccechaooaaaGreat.varySame
open Go.ChangeShapes Go.WideShapes Go.ChangeAt Go.RowKit

theorem j1 : (Rows.varySameRow.wf (OpenSpec.ofChange Rows.varySameSpec)) = true := by kernel_rfl
theorem j2 : (laidOutB Tryz.pinned.checked.prog) = true := by kernel_rfl
theorem j3 : (mapsRowed Tryz.pinned.checked.prog) = true := by kernel_rfl
theorem j4 : (Tryz.f16.params.all (Tryz.pinned.checked.prog.readableRec ·)) = true := by kernel_rfl
theorem j5 : (namedTie Tryz.pinned.checked.prog Rows.varySameRow.named Rows.varySameSpec.vars) = true := by kernel_rfl
theorem j6 : ((Rows.varySameRow.stops == [])) = true := by kernel_rfl
theorem j7 : ((Tryz.pinned.checked.prog.stops == [])) = true := by kernel_rfl
theorem j8 : ((Rows.varySameRow.knobs == [])) = true := by kernel_rfl
theorem j9 : ((Tryz.pinned.checked.prog.stopKnobs == [])) = true := by kernel_rfl
theorem j10 : ((Rows.varySameRow.inPlace == Tryz.pinned.checked.prog.inPlace 16)) = true := by kernel_rfl
theorem j11 : ((Rows.varySameRow.unfollowed == Tryz.pinned.checked.prog.unfollowed 16)) = true := by kernel_rfl
theorem j12 : ((Rows.varySameRow.recurses == Tryz.pinned.checked.prog.recurses 16)) = true := by kernel_rfl
theorem j13 : ((Rows.varySameRow.named == Tryz.pinned.checked.prog.varsNamed 16)) = true := by kernel_rfl
theorem j14 : ((Rows.varySameRow.maps == (Tryz.f16.params.toList ++ Rows.varySameSpec.plain.varTypes Tryz.pinned.checked.prog).any (Tryz.pinned.checked.prog.mapsRec ·))) = true := by kernel_rfl
theorem j15 : ((Rows.varySameRow.ifaces == (Tryz.f16.params.toList ++ Rows.varySameSpec.plain.varTypes Tryz.pinned.checked.prog).any (Tryz.pinned.checked.prog.ifacesRec ·))) = true := by kernel_rfl
theorem j16 : ((Rows.varySameRow.mapsOut == Tryz.pinned.checked.prog.mapsAmong Tryz.f16.resultTypes.toList)) = true := by kernel_rfl
theorem j17 : ((Rows.varySameRow.loops == (Tryz.f16.params.toList ++ Rows.varySameSpec.plain.varTypes Tryz.pinned.checked.prog).any (Tryz.pinned.checked.prog.loopsFrom ·))) = true := by kernel_rfl
theorem j18 : ((Rows.varySameRow.wideKeys == (Tryz.f16.params.toList ++ Rows.varySameSpec.plain.varTypes Tryz.pinned.checked.prog ++ Tryz.f16.resultTypes.toList).any (Tryz.pinned.checked.prog.wideKeysFrom ·))) = true := by kernel_rfl
theorem j19 : (Rows.varySameSpec.vars.all (Tryz.pinned.checked.prog.varReadable ·)) = true := by kernel_rfl
theorem j20 : (Tryz.f16.resultTypes.all (fun t => Tryz.pinned.checked.prog.readableRec t && decide (t < Tryz.pinned.checked.prog.types.size))) = true := by kernel_rfl
theorem j21 : ((Rows.varySameRow.ifacesOut == Tryz.f16.resultTypes.toList.any (Tryz.pinned.checked.prog.ifacesRec ·))) = true := by kernel_rfl
theorem j22 : ((Rows.varySameRow.loopsOut == Tryz.f16.resultTypes.toList.any (Tryz.pinned.checked.prog.loopsFrom ·))) = true := by kernel_rfl
theorem j23 : ((Rows.varySameRow.plainKeys == Tryz.pinned.checked.prog.plainKeys)) = true := by kernel_rfl
theorem j24 : (Rows.varySameRow.shortTexts.isNone) = true := by kernel_rfl
theorem j25 : (Tryz.pinned.checked.prog.stopsHeard) = true := by kernel_rfl
theorem j26 : (Tryz.pinned.checked.prog.mayEnter) = true := by kernel_rfl
theorem j27 : ((Rows.varySameRow.lifted == Tryz.pinned.checked.prog.liftsFinal)) = true := by kernel_rfl
theorem j28 : ((Tryz.pinned.checked.prog.make == some Rows.varySameRow.make)) = true := by kernel_rfl
theorem j29 : ((Rows.varySameRow.kinds == (if Rows.varySameRow.domain.isEmpty then [] else Tryz.f16.params.toList.map fun t => match Tryz.pinned.checked.prog.underlying t with | some (.int k) => some k | _ => none))) = true := by kernel_rfl
theorem j30 : ((Rows.varySameRow.pinned == Rows.varySameRow.pinnedBy)) = true := by kernel_rfl
theorem j31 : ((Rows.varySameRow.veiled == (Tryz.f16.params.toList ++ Rows.varySameSpec.plain.varTypes Tryz.pinned.checked.prog ++ Tryz.f16.resultTypes.toList).any (Tryz.pinned.checked.prog.veiledRec ·))) = true := by kernel_rfl
theorem j32 : (Rows.varySameRow.veiledFits Tryz.pinned.checked.prog Tryz.f16.params.toList (Tryz.f16.params.toList ++ Rows.varySameSpec.plain.varTypes Tryz.pinned.checked.prog ++ Tryz.f16.resultTypes.toList)) = true := by kernel_rfl
theorem joined : joinedFacts Tryz.pinned.checked.prog 16 Tryz.f16 Rows.varySameSpec Rows.varySameRow = true := by
  unfold joinedFacts
  rw [j1, j2, j3, j4, j5, j6, j7, j8, j9, j10, j11, j12, j13, j14, j15, j16, j17, j18, j19, j20, j21, j22, j23, j24, j25, j26, j27, j28, j30, j31, j32]
  kernel_rfl
end Go.Proofs.YtamnccechaooaaaGreat.varySame
