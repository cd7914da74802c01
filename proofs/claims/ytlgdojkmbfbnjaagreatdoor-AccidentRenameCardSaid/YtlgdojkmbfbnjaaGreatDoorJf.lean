/- The row's cells, each reckoned by itself. -/
import Derived.Test.YtlgdojkmbfbnjaaGreatDoorGB
namespace Go.Proofs.YtlgdojkmbfbnjaaGreatDoor.accidentRename
open Go.RowKit
set_option maxRecDepth 100000

/-! The row's cells, each told by itself. -/
theorem j1 : (Rows.accidentRenameRow.inPlace == Tryz.prog.inPlace 3) = true := by kernel_rfl
theorem j2 : (Rows.accidentRenameRow.unfollowed == Tryz.prog.unfollowed 3) = true := by kernel_rfl
theorem j3 : (Rows.accidentRenameRow.recurses == Tryz.prog.recurses 3) = true := by kernel_rfl
theorem j4 : (Rows.accidentRenameRow.named == Tryz.prog.varsNamed 3) = true := by kernel_rfl
theorem closed : joinedFacts Tryz.prog 3 Tryz.f3 Rows.accidentRenameSpec Rows.accidentRenameRow = true := by
  unfold joinedFacts
  rw [j1, j2, j3, j4]
  kernel_rfl
theorem c1 : Rows.accidentRenameRow.wfByText (OpenSpec.ofChange Rows.accidentRenameSpec) = true := by kernel_rfl
theorem c2 : Tryz.prog.mainIs = some (true, "2078addb3b87e52da71e42656250c60dac60c7e61bd49005995174885dccb1f4".toList) := by kernel_rfl
theorem c3 : false = Tryz.prog.looks [] := by kernel_rfl
theorem c4 : ([3, 4].all fun u => !Tryz.prog.wantsStandIn u) = true := by kernel_rfl
theorem c5 : false = Rows.accidentRenameRow.goesBy Tryz.prog := by kernel_rfl
end Go.Proofs.YtlgdojkmbfbnjaaGreatDoor.accidentRename
