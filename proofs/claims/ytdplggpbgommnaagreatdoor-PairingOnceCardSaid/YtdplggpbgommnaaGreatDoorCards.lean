/-
  DERIVED. GIVEN WITH THE SEED: THE CARDS: each row of YtdplggpbgommnaaGreatDoorRows.lean that lists a variable, with what it lists TIED to the program's text (the seventh form; the later family's looks); each row that meets fmt, with fmt's text TOLD by the authors' own Lean function (tested against real Go, not proved from fmt's source: count such statements apart). THE CARD IS WHAT COUNTS. Prove the row's statement (the work); the ties are given (YtdplggpbgommnaaGreatDoorTie.lean); close each card by the builder's one call (the guide's Derived/Test/ToyasCard.lean, 'card_holds'). Laid BY PROGRAM, IN A SANDBOX (cutbox-door.mjs). By AI agents, Wed Nov 11 2026. No macro, syntax, notation, axiom, sorry.
-/
import Derived.Test.YtdplggpbgommnaaGreatDoorRows
import GoSem.ClaimSeven
namespace Go.Proofs.YtdplggpbgommnaaGreatDoor
namespace Rows

/-- THE TIED CARD OF 'semvcslaw20.PairingTrees'. -/
def pairingTreesCard : Claim7 := { stood := { row := pairingTreesRow, standIns := [], harness := (true, "1007eadc39c3b2980903ce8b276563a895ca10cdc9920775fee60c31771816f5"), looks := false }, kinds := [], alts := [], laidByText := true, laidKinds := [.data, .data, .data, .data, .pinned, .pinned, .pinned, .pinned, .pinned, .pinned], laidTests := true, laidLooks := .later }
def PairingTreesCardSaid : Prop := Claim7.holds Tryz.pinned (.plain (OpenSpec.ofChange pairingTreesSpec)) pairingTreesCard

/-- THE TIED CARD OF 'semvcslaw20.PairingMade'. -/
def pairingMadeCard : Claim7 := { stood := { row := pairingMadeRow, standIns := [], harness := (true, "1007eadc39c3b2980903ce8b276563a895ca10cdc9920775fee60c31771816f5"), looks := false }, kinds := [], alts := [], laidByText := true, laidKinds := [.data, .data, .data, .data, .pinned, .pinned, .pinned, .pinned, .pinned, .pinned], laidTests := true, laidLooks := .later }
def PairingMadeCardSaid : Prop := Claim7.holds Tryz.pinned (.plain (OpenSpec.ofChange pairingMadeSpec)) pairingMadeCard

/-- THE TIED CARD OF 'semvcslaw20.PairingOnce'. -/
def pairingOnceCard : Claim7 := { stood := { row := pairingOnceRow, standIns := [], harness := (true, "1007eadc39c3b2980903ce8b276563a895ca10cdc9920775fee60c31771816f5"), looks := false }, kinds := [], alts := [], laidByText := true, laidKinds := [.data, .data, .data, .data, .pinned, .pinned, .pinned, .pinned, .pinned, .pinned], laidTests := true, laidLooks := .later }
def PairingOnceCardSaid : Prop := Claim7.holds Tryz.pinned (.plain (OpenSpec.ofChange pairingOnceSpec)) pairingOnceCard

/-- THE TIED CARD OF 'semvcslaw20.PairingSelf'. -/
def pairingSelfCard : Claim7 := { stood := { row := pairingSelfRow, standIns := [], harness := (true, "1007eadc39c3b2980903ce8b276563a895ca10cdc9920775fee60c31771816f5"), looks := false }, kinds := [], alts := [], laidByText := true, laidKinds := [.data, .data, .data, .data, .pinned, .pinned, .pinned, .pinned, .pinned, .pinned], laidTests := true, laidLooks := .later }
def PairingSelfCardSaid : Prop := Claim7.holds Tryz.pinned (.plain (OpenSpec.ofChange pairingSelfSpec)) pairingSelfCard

/-- THE TIED CARD OF 'semvcslaw20.PairingNames'. -/
def pairingNamesCard : Claim7 := { stood := { row := pairingNamesRow, standIns := [], harness := (true, "1007eadc39c3b2980903ce8b276563a895ca10cdc9920775fee60c31771816f5"), looks := false }, kinds := [], alts := [], laidByText := true, laidKinds := [.data, .data, .data, .data, .pinned, .pinned, .pinned, .pinned, .pinned, .pinned], laidTests := true, laidLooks := .later }
def PairingNamesCardSaid : Prop := Claim7.holds Tryz.pinned (.plain (OpenSpec.ofChange pairingNamesSpec)) pairingNamesCard

/-- THE SECOND FORM's CARD OF 'semvcslaw20.PairingTrees'. -/
def pairingTreesUptoCard : Claim7 := { stood := { row := pairingTreesUptoRow, standIns := [], harness := (true, "1007eadc39c3b2980903ce8b276563a895ca10cdc9920775fee60c31771816f5"), looks := false }, kinds := [], alts := [], laidByText := true, laidKinds := [.data, .data, .data, .data, .pinned, .pinned, .pinned, .pinned, .pinned, .pinned], laidTests := true, laidLooks := .later }
def PairingTreesUptoCardSaid : Prop := Claim7.holds Tryz.pinned (.plain (OpenSpec.upto pairingTreesSpec)) pairingTreesUptoCard

/-- THE SECOND FORM's CARD OF 'semvcslaw20.PairingMade'. -/
def pairingMadeUptoCard : Claim7 := { stood := { row := pairingMadeUptoRow, standIns := [], harness := (true, "1007eadc39c3b2980903ce8b276563a895ca10cdc9920775fee60c31771816f5"), looks := false }, kinds := [], alts := [], laidByText := true, laidKinds := [.data, .data, .data, .data, .pinned, .pinned, .pinned, .pinned, .pinned, .pinned], laidTests := true, laidLooks := .later }
def PairingMadeUptoCardSaid : Prop := Claim7.holds Tryz.pinned (.plain (OpenSpec.upto pairingMadeSpec)) pairingMadeUptoCard

/-- THE SECOND FORM's CARD OF 'semvcslaw20.PairingOnce'. -/
def pairingOnceUptoCard : Claim7 := { stood := { row := pairingOnceUptoRow, standIns := [], harness := (true, "1007eadc39c3b2980903ce8b276563a895ca10cdc9920775fee60c31771816f5"), looks := false }, kinds := [], alts := [], laidByText := true, laidKinds := [.data, .data, .data, .data, .pinned, .pinned, .pinned, .pinned, .pinned, .pinned], laidTests := true, laidLooks := .later }
def PairingOnceUptoCardSaid : Prop := Claim7.holds Tryz.pinned (.plain (OpenSpec.upto pairingOnceSpec)) pairingOnceUptoCard

/-- THE SECOND FORM's CARD OF 'semvcslaw20.PairingSelf'. -/
def pairingSelfUptoCard : Claim7 := { stood := { row := pairingSelfUptoRow, standIns := [], harness := (true, "1007eadc39c3b2980903ce8b276563a895ca10cdc9920775fee60c31771816f5"), looks := false }, kinds := [], alts := [], laidByText := true, laidKinds := [.data, .data, .data, .data, .pinned, .pinned, .pinned, .pinned, .pinned, .pinned], laidTests := true, laidLooks := .later }
def PairingSelfUptoCardSaid : Prop := Claim7.holds Tryz.pinned (.plain (OpenSpec.upto pairingSelfSpec)) pairingSelfUptoCard

/-- THE SECOND FORM's CARD OF 'semvcslaw20.PairingNames'. -/
def pairingNamesUptoCard : Claim7 := { stood := { row := pairingNamesUptoRow, standIns := [], harness := (true, "1007eadc39c3b2980903ce8b276563a895ca10cdc9920775fee60c31771816f5"), looks := false }, kinds := [], alts := [], laidByText := true, laidKinds := [.data, .data, .data, .data, .pinned, .pinned, .pinned, .pinned, .pinned, .pinned], laidTests := true, laidLooks := .later }
def PairingNamesUptoCardSaid : Prop := Claim7.holds Tryz.pinned (.plain (OpenSpec.upto pairingNamesSpec)) pairingNamesUptoCard
end Rows
end Go.Proofs.YtdplggpbgommnaaGreatDoor
