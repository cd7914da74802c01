/-
  DERIVED. GIVEN WITH THE SEED: THE PROGRAM's TIES (one call each: nine closed facts by the kernel) AND EACH ROW's TIE, after the 31st guide's Derived/Test/Toyas{Tie, Card}.lean. No idea stands in it: it is a product of the set-up. Laid BY PROGRAM, IN A SANDBOX (cutbox-door.mjs). By AI agents, Wed Nov 11 2026. No macro, syntax, notation, axiom, sorry.
-/
import Derived.Test.YtlgdojkmbfbnjaaGreatDoorRows
import Derived.LaidByTextLater
import Derived.SevenTiedAt
import Derived.LaidSub
import Derived.LaidOnce
namespace Go.Proofs.YtlgdojkmbfbnjaaGreatDoor
open Go
set_option maxRecDepth 100000
theorem seatTie1 : Tryz.prog.laidByTextLater [("semvcs/typing.integer", Rows.laid_semvcs_typing_integer), ("semvcs/typing.text", Rows.laid_semvcs_typing_text), ("semvcs/typing.boolean", Rows.laid_semvcs_typing_boolean)] [.data, .data, .data] true :=
  Program.laidByTextLater_by_one 24 8 3 (by kernel_rfl) (by kernel_rfl) (by kernel_rfl) (by kernel_rfl) (by kernel_rfl) (by kernel_rfl) (fun _ _ => by kernel_rfl)
theorem noOwnUnsafe : Tryz.pinned.checked.prog.headLifts.contains "ownunsafe" = false := by kernel_rfl
theorem tie : Tryz.prog.laidByTextLater [("semvcs/typing.integer", Rows.laid_semvcs_typing_integer), ("semvcs/typing.text", Rows.laid_semvcs_typing_text), ("semvcs/typing.boolean", Rows.laid_semvcs_typing_boolean)] [.data, .data, .data] true :=
  Program.laidByTextLater.sub seatTie1 ["semvcs/typing.integer", "semvcs/typing.text", "semvcs/typing.boolean"] (by kernel_rfl) (by kernel_rfl)
theorem accidentRename_row_tie : Rows.accidentRenameRow.laidByTextAt .later Tryz.pinned [.data, .data, .data] true :=
  OpenClaim.laidByTextAt_later rfl rfl tie noOwnUnsafe
theorem accidentRenameUpto_row_tie : Rows.accidentRenameUptoRow.laidByTextAt .later Tryz.pinned [.data, .data, .data] true :=
  OpenClaim.laidByTextAt_later rfl rfl tie noOwnUnsafe
end Go.Proofs.YtlgdojkmbfbnjaaGreatDoor
