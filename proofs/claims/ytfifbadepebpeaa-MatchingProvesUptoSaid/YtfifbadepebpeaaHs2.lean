/- A cell is written in a block of one's own. -/
import Derived.Test.YtfifbadepebpeaaMem
namespace Go.Proofs.Ytfifbadepebpeaa
open Go.RowKit

theorem imm1 {h : Hp} {w : World} (hi : Imm h w) {g : Nat} (hn : h g = none) (i : Nat) (v : Value) : Imm h (w.setCell ⟨g, i, none⟩ v) :=
  hi.keep fun b c hc => Below.heap_setCell _ _ _ _ (fun e => by have e' : b = g := e; rw [e', hn] at hc; cases hc)
end Go.Proofs.Ytfifbadepebpeaa
