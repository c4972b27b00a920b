/- The closed facts of the row of BookPosts, one by one. -/
import Derived.Test.YtamnccechaooaaaGreatRow
namespace Go.Proofs.YtamnccechaooaaaGreat.bookPosts
open Go.ChangeShapes Go.WideShapes Go.ChangeAt Go.RowKit

theorem j1 : (Rows.bookPostsRow.wf (OpenSpec.ofChange Rows.bookPostsSpec)) = true := by kernel_rfl
theorem j2 : (laidOutB Tryz.pinned.checked.prog) = true := by kernel_rfl
theorem j3 : (mapsRowed Tryz.pinned.checked.prog) = true := by kernel_rfl
theorem j4 : (Tryz.f8.params.all (Tryz.pinned.checked.prog.readableRec ·)) = true := by kernel_rfl
theorem j5 : (namedTie Tryz.pinned.checked.prog Rows.bookPostsRow.named Rows.bookPostsSpec.vars) = true := by kernel_rfl
theorem j6 : ((Rows.bookPostsRow.stops == [])) = true := by kernel_rfl
theorem j7 : ((Tryz.pinned.checked.prog.stops == [])) = true := by kernel_rfl
theorem j8 : ((Rows.bookPostsRow.knobs == [])) = true := by kernel_rfl
theorem j9 : ((Tryz.pinned.checked.prog.stopKnobs == [])) = true := by kernel_rfl
theorem j10 : ((Rows.bookPostsRow.inPlace == Tryz.pinned.checked.prog.inPlace 8)) = true := by kernel_rfl
theorem j11 : ((Rows.bookPostsRow.unfollowed == Tryz.pinned.checked.prog.unfollowed 8)) = true := by kernel_rfl
theorem j12 : ((Rows.bookPostsRow.recurses == Tryz.pinned.checked.prog.recurses 8)) = true := by kernel_rfl
theorem j13 : ((Rows.bookPostsRow.named == Tryz.pinned.checked.prog.varsNamed 8)) = true := by kernel_rfl
theorem j14 : ((Rows.bookPostsRow.maps == (Tryz.f8.params.toList ++ Rows.bookPostsSpec.plain.varTypes Tryz.pinned.checked.prog).any (Tryz.pinned.checked.prog.mapsRec ·))) = true := by kernel_rfl
theorem j15 : ((Rows.bookPostsRow.ifaces == (Tryz.f8.params.toList ++ Rows.bookPostsSpec.plain.varTypes Tryz.pinned.checked.prog).any (Tryz.pinned.checked.prog.ifacesRec ·))) = true := by kernel_rfl
theorem j16 : ((Rows.bookPostsRow.mapsOut == Tryz.pinned.checked.prog.mapsAmong Tryz.f8.resultTypes.toList)) = true := by kernel_rfl
theorem j17 : ((Rows.bookPostsRow.loops == (Tryz.f8.params.toList ++ Rows.bookPostsSpec.plain.varTypes Tryz.pinned.checked.prog).any (Tryz.pinned.checked.prog.loopsFrom ·))) = true := by kernel_rfl
theorem j18 : ((Rows.bookPostsRow.wideKeys == (Tryz.f8.params.toList ++ Rows.bookPostsSpec.plain.varTypes Tryz.pinned.checked.prog ++ Tryz.f8.resultTypes.toList).any (Tryz.pinned.checked.prog.wideKeysFrom ·))) = true := by kernel_rfl
theorem j19 : (Rows.bookPostsSpec.vars.all (Tryz.pinned.checked.prog.varReadable ·)) = true := by kernel_rfl
theorem j20 : (Tryz.f8.resultTypes.all (fun t => Tryz.pinned.checked.prog.readableRec t && decide (t < Tryz.pinned.checked.prog.types.size))) = true := by kernel_rfl
theorem j21 : ((Rows.bookPostsRow.ifacesOut == Tryz.f8.resultTypes.toList.any (Tryz.pinned.checked.prog.ifacesRec ·))) = true := by kernel_rfl
theorem j22 : ((Rows.bookPostsRow.loopsOut == Tryz.f8.resultTypes.toList.any (Tryz.pinned.checked.prog.loopsFrom ·))) = true := by kernel_rfl
theorem j23 : ((Rows.bookPostsRow.plainKeys == Tryz.pinned.checked.prog.plainKeys)) = true := by kernel_rfl
theorem j24 : (Rows.bookPostsRow.shortTexts.isNone) = true := by kernel_rfl
theorem j25 : (Tryz.pinned.checked.prog.stopsHeard) = true := by kernel_rfl
theorem j26 : (Tryz.pinned.checked.prog.mayEnter) = true := by kernel_rfl
theorem j27 : ((Rows.bookPostsRow.lifted == Tryz.pinned.checked.prog.liftsFinal)) = true := by kernel_rfl
theorem j28 : ((Tryz.pinned.checked.prog.make == some Rows.bookPostsRow.make)) = true := by kernel_rfl
theorem j29 : ((Rows.bookPostsRow.kinds == (if Rows.bookPostsRow.domain.isEmpty then [] else Tryz.f8.params.toList.map fun t => match Tryz.pinned.checked.prog.underlying t with | some (.int k) => some k | _ => none))) = true := by kernel_rfl
theorem j30 : ((Rows.bookPostsRow.pinned == Rows.bookPostsRow.pinnedBy)) = true := by kernel_rfl
theorem j31 : ((Rows.bookPostsRow.veiled == (Tryz.f8.params.toList ++ Rows.bookPostsSpec.plain.varTypes Tryz.pinned.checked.prog ++ Tryz.f8.resultTypes.toList).any (Tryz.pinned.checked.prog.veiledRec ·))) = true := by kernel_rfl
theorem j32 : (Rows.bookPostsRow.veiledFits Tryz.pinned.checked.prog Tryz.f8.params.toList (Tryz.f8.params.toList ++ Rows.bookPostsSpec.plain.varTypes Tryz.pinned.checked.prog ++ Tryz.f8.resultTypes.toList)) = true := by kernel_rfl
theorem joined : joinedFacts Tryz.pinned.checked.prog 8 Tryz.f8 Rows.bookPostsSpec Rows.bookPostsRow = true := by
  unfold joinedFacts
  rw [j1, j2, j3, j4, j5, j6, j7, j8, j9, j10, j11, j12, j13, j14, j15, j16, j17, j18, j19, j20, j21, j22, j23, j24, j25, j26, j27, j28, j30, j31, j32]
  kernel_rfl
end Go.Proofs.YtamnccechaooaaaGreat.bookPosts
