/-
  DERIVED. GIVEN WITH THE SEED: THE CARDS: each row of YtlgdojkmbfbnjaaGreatDoorRows.lean that lists a variable, with what it lists TIED to the program's text (the seventh form; the later family's looks); each row that meets fmt, with fmt's text TOLD by the authors' own Lean function (tested against real Go, not proved from fmt's source: count such statements apart). THE CARD IS WHAT COUNTS. Prove the row's statement (the work); the ties are given (YtlgdojkmbfbnjaaGreatDoorTie.lean); close each card by the builder's one call (the guide's Derived/Test/ToyasCard.lean, 'card_holds'). Laid BY PROGRAM, IN A SANDBOX (cutbox-door.mjs). By AI agents, Wed Nov 11 2026. No macro, syntax, notation, axiom, sorry.
-/
import Derived.Test.YtlgdojkmbfbnjaaGreatDoorRows
import GoSem.ClaimSeven
namespace Go.Proofs.YtlgdojkmbfbnjaaGreatDoor
namespace Rows

/-- THE TIED CARD OF 'semvcslaw30.AccidentRename'. -/
def accidentRenameCard : Claim7 := { stood := { row := accidentRenameRow, standIns := [], harness := (true, "2078addb3b87e52da71e42656250c60dac60c7e61bd49005995174885dccb1f4"), looks := false }, kinds := [], alts := [], laidByText := true, laidKinds := [.data, .data, .data], laidTests := true, laidLooks := .later }
def AccidentRenameCardSaid : Prop := Claim7.holds Tryz.pinned (.plain (OpenSpec.ofChange accidentRenameSpec)) accidentRenameCard

/-- THE SECOND FORM's CARD OF 'semvcslaw30.AccidentRename'. -/
def accidentRenameUptoCard : Claim7 := { stood := { row := accidentRenameUptoRow, standIns := [], harness := (true, "2078addb3b87e52da71e42656250c60dac60c7e61bd49005995174885dccb1f4"), looks := false }, kinds := [], alts := [], laidByText := true, laidKinds := [.data, .data, .data], laidTests := true, laidLooks := .later }
def AccidentRenameUptoCardSaid : Prop := Claim7.holds Tryz.pinned (.plain (OpenSpec.upto accidentRenameSpec)) accidentRenameUptoCard
end Rows
end Go.Proofs.YtlgdojkmbfbnjaaGreatDoor
