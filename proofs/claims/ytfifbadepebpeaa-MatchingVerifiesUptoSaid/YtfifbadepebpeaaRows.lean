/-
  NARROWER THAN 'FOR EVERY INPUT', by the rows' own cells (each row's printed sentence says how): MatchingTrees: loops · MatchingProves: loops.
  DERIVED. THE GIVEN ROWS OF THIS SEAT. 7 by the template 'for every input the law returns true; each argument reads behind the call as it read before'; 0 by the template 'total and deterministic' (their statements: YtfifbadepebpeaaTotals.lean).
  GIVEN WITH THE SEED: the statements are not yours to turn. If you find one false, say at which input.
  Laid BY PROGRAM, IN A SANDBOX (cutbox-rows.mjs): the forced cells as the released guide's own fill.sh prints them over the translation 40dd31581ef32309… (all of the seat's roots in one cut). By AI agents, Wed Nov 11 2026. No macro, syntax, notation, axiom, sorry.
-/
import Derived.Test.YtfifbadepebpeaaChecked
import GoSem.Claim
import GoSem.ClaimJoined
import GoSem.ClaimMapViews
import Derived.JoinedTies
import Derived.KernelRfl
namespace Go.Proofs.Ytfifbadepebpeaa
/- THE CELL 'sum', in the pinned program and in every row, IS THE sha256 OF THE DUMP (.gsa) THAT YtfifbadepebpeaaProg.lean LOADS. Nothing in Lean hashes anything: it is a label: what it is worth is what the hold of that sum in a sandbox is worth. -/
noncomputable def Try.pinned : Pinned := { name := "ytfifbadepebpeaa", sum := "40dd31581ef3230941796bcc85da612d7aa2c5e4377f0b0db460f6a134b59ff9", checked := Try.checked }
namespace Rows
def none {H : Type} : Left H := { results := [], args := [] }

/-- 'semvcslaw19.MatchingTrees': WHATEVER THE INPUT: true; the input reads as it did. -/
def matchingTreesSpec : ChangeSpec := { name := "matchingTrees", fn := fun _ => fun
  | [d1, d2, d3] => { results := [.lit (.bool true)], args := [d1, d2, d3] }
  | _ => none }
def matchingTreesRow : OpenClaim := { program := "ytfifbadepebpeaa", sum := "40dd31581ef3230941796bcc85da612d7aa2c5e4377f0b0db460f6a134b59ff9", func := "semvcs/semvcslaw19.MatchingTrees", spec := "matchingTrees", unfollowed := true, recurses := true, loops := true, plainKeys := false, apart := false }
def MatchingTreesSaid : Prop := matchingTreesRow.holds Try.pinned (OpenSpec.ofChange matchingTreesSpec)

/-- ITS FALSE NEIGHBOUR: 'it returns false'. Refute it at one input. -/
def matchingTreesWrong : ChangeSpec := { name := "matchingTrees", fn := fun _ => fun
  | [d1, d2, d3] => { results := [.lit (.bool false)], args := [d1, d2, d3] }
  | _ => none }
def MatchingTreesWrongFalsely : Prop := matchingTreesRow.holds Try.pinned (OpenSpec.ofChange matchingTreesWrong)

/-- 'semvcslaw19.MatchingMade': WHATEVER THE INPUT: true; the input reads as it did. -/
def matchingMadeSpec : ChangeSpec := { name := "matchingMade", fn := fun _ => fun
  | [d1, d2, d3, d4] => { results := [.lit (.bool true)], args := [d1, d2, d3, d4] }
  | _ => none }
def matchingMadeRow : OpenClaim := { program := "ytfifbadepebpeaa", sum := "40dd31581ef3230941796bcc85da612d7aa2c5e4377f0b0db460f6a134b59ff9", func := "semvcs/semvcslaw19.MatchingMade", spec := "matchingMade", unfollowed := true, recurses := true, plainKeys := false, apart := false }
def MatchingMadeSaid : Prop := matchingMadeRow.holds Try.pinned (OpenSpec.ofChange matchingMadeSpec)

/-- ITS FALSE NEIGHBOUR: 'it returns false'. Refute it at one input. -/
def matchingMadeWrong : ChangeSpec := { name := "matchingMade", fn := fun _ => fun
  | [d1, d2, d3, d4] => { results := [.lit (.bool false)], args := [d1, d2, d3, d4] }
  | _ => none }
def MatchingMadeWrongFalsely : Prop := matchingMadeRow.holds Try.pinned (OpenSpec.ofChange matchingMadeWrong)

/-- 'semvcslaw19.MatchingVerifies': WHATEVER THE INPUT: true; the input reads as it did. -/
def matchingVerifiesSpec : ChangeSpec := { name := "matchingVerifies", fn := fun _ => fun
  | [d1, d2, d3, d4, d5, d6] => { results := [.lit (.bool true)], args := [d1, d2, d3, d4, d5, d6] }
  | _ => none }
def matchingVerifiesRow : OpenClaim := { program := "ytfifbadepebpeaa", sum := "40dd31581ef3230941796bcc85da612d7aa2c5e4377f0b0db460f6a134b59ff9", func := "semvcs/semvcslaw19.MatchingVerifies", spec := "matchingVerifies", unfollowed := true, recurses := true, plainKeys := false, apart := false }
def MatchingVerifiesSaid : Prop := matchingVerifiesRow.holds Try.pinned (OpenSpec.ofChange matchingVerifiesSpec)

/-- ITS FALSE NEIGHBOUR: 'it returns false'. Refute it at one input. -/
def matchingVerifiesWrong : ChangeSpec := { name := "matchingVerifies", fn := fun _ => fun
  | [d1, d2, d3, d4, d5, d6] => { results := [.lit (.bool false)], args := [d1, d2, d3, d4, d5, d6] }
  | _ => none }
def MatchingVerifiesWrongFalsely : Prop := matchingVerifiesRow.holds Try.pinned (OpenSpec.ofChange matchingVerifiesWrong)

/-- 'semvcslaw19.MatchingSelf': WHATEVER THE INPUT: true; the input reads as it did. -/
def matchingSelfSpec : ChangeSpec := { name := "matchingSelf", fn := fun _ => fun
  | [d] => { results := [.lit (.bool true)], args := [d] }
  | _ => none }
def matchingSelfRow : OpenClaim := { program := "ytfifbadepebpeaa", sum := "40dd31581ef3230941796bcc85da612d7aa2c5e4377f0b0db460f6a134b59ff9", func := "semvcs/semvcslaw19.MatchingSelf", spec := "matchingSelf", unfollowed := true, recurses := true, plainKeys := false, apart := false }
def MatchingSelfSaid : Prop := matchingSelfRow.holds Try.pinned (OpenSpec.ofChange matchingSelfSpec)

/-- ITS FALSE NEIGHBOUR: 'it returns false'. Refute it at one input. -/
def matchingSelfWrong : ChangeSpec := { name := "matchingSelf", fn := fun _ => fun
  | [d] => { results := [.lit (.bool false)], args := [d] }
  | _ => none }
def MatchingSelfWrongFalsely : Prop := matchingSelfRow.holds Try.pinned (OpenSpec.ofChange matchingSelfWrong)

/-- 'semvcslaw19.MatchingCosts': WHATEVER THE INPUT: true; the input reads as it did. -/
def matchingCostsSpec : ChangeSpec := { name := "matchingCosts", fn := fun _ => fun
  | [d1, d2, d3, d4] => { results := [.lit (.bool true)], args := [d1, d2, d3, d4] }
  | _ => none }
def matchingCostsRow : OpenClaim := { program := "ytfifbadepebpeaa", sum := "40dd31581ef3230941796bcc85da612d7aa2c5e4377f0b0db460f6a134b59ff9", func := "semvcs/semvcslaw19.MatchingCosts", spec := "matchingCosts", unfollowed := true, recurses := true, plainKeys := false, apart := false }
def MatchingCostsSaid : Prop := matchingCostsRow.holds Try.pinned (OpenSpec.ofChange matchingCostsSpec)

/-- ITS FALSE NEIGHBOUR: 'it returns false'. Refute it at one input. -/
def matchingCostsWrong : ChangeSpec := { name := "matchingCosts", fn := fun _ => fun
  | [d1, d2, d3, d4] => { results := [.lit (.bool false)], args := [d1, d2, d3, d4] }
  | _ => none }
def MatchingCostsWrongFalsely : Prop := matchingCostsRow.holds Try.pinned (OpenSpec.ofChange matchingCostsWrong)

/-- 'semvcslaw19.MatchingLeast': WHATEVER THE INPUT: true; the input reads as it did. -/
def matchingLeastSpec : ChangeSpec := { name := "matchingLeast", fn := fun _ => fun
  | [d1, d2, d3, d4, d5] => { results := [.lit (.bool true)], args := [d1, d2, d3, d4, d5] }
  | _ => none }
def matchingLeastRow : OpenClaim := { program := "ytfifbadepebpeaa", sum := "40dd31581ef3230941796bcc85da612d7aa2c5e4377f0b0db460f6a134b59ff9", func := "semvcs/semvcslaw19.MatchingLeast", spec := "matchingLeast", unfollowed := true, recurses := true, plainKeys := false, apart := false }
def MatchingLeastSaid : Prop := matchingLeastRow.holds Try.pinned (OpenSpec.ofChange matchingLeastSpec)

/-- ITS FALSE NEIGHBOUR: 'it returns false'. Refute it at one input. -/
def matchingLeastWrong : ChangeSpec := { name := "matchingLeast", fn := fun _ => fun
  | [d1, d2, d3, d4, d5] => { results := [.lit (.bool false)], args := [d1, d2, d3, d4, d5] }
  | _ => none }
def MatchingLeastWrongFalsely : Prop := matchingLeastRow.holds Try.pinned (OpenSpec.ofChange matchingLeastWrong)

/-- 'semvcslaw19.MatchingProves': WHATEVER THE INPUT: true; the input reads as it did. -/
def matchingProvesSpec : ChangeSpec := { name := "matchingProves", fn := fun _ => fun
  | [d1, d2, d3, d4] => { results := [.lit (.bool true)], args := [d1, d2, d3, d4] }
  | _ => none }
def matchingProvesRow : OpenClaim := { program := "ytfifbadepebpeaa", sum := "40dd31581ef3230941796bcc85da612d7aa2c5e4377f0b0db460f6a134b59ff9", func := "semvcs/semvcslaw19.MatchingProves", spec := "matchingProves", unfollowed := true, recurses := true, loops := true, plainKeys := false, apart := false }
def MatchingProvesSaid : Prop := matchingProvesRow.holds Try.pinned (OpenSpec.ofChange matchingProvesSpec)

/-- ITS FALSE NEIGHBOUR: 'it returns false'. Refute it at one input. -/
def matchingProvesWrong : ChangeSpec := { name := "matchingProves", fn := fun _ => fun
  | [d1, d2, d3, d4] => { results := [.lit (.bool false)], args := [d1, d2, d3, d4] }
  | _ => none }
def MatchingProvesWrongFalsely : Prop := matchingProvesRow.holds Try.pinned (OpenSpec.ofChange matchingProvesWrong)

/- THE SECOND FORM. 'bulk': how many values and letters a reading holds, each counted each time it is reached (what is shared counts as often as it is met; a slice's spare places count too). A statement '..UptoSaid' is the law's where the arguments, and the package variables that the reading takes, are together of bulk at most 1048576: NARROWER than '..Said'. Prove '..Said' where nothing that the law and all that it calls make is longer than what came in: it says more and counts as full. Else prove '..UptoSaid'. A law counts once. -/
mutual
def uptoBulk {H : Type} : DataW H → Nat
  | .lit (.string bytes) => bytes.length + 1
  | .lit _ => 1
  | .nil => 1
  | .ptr d => uptoBulk d + 1
  | .slice elems spare => uptoBulkAll elems + uptoBulkAll spare + 1
  | .agg parts => uptoBulkAll parts + 1
  | .iface _ d => uptoBulk d + 1
  | .map entries => uptoBulkEntries entries + 1
  | .held _ => 1
def uptoBulkAll {H : Type} : List (DataW H) → Nat
  | [] => 0
  | d :: r => uptoBulk d + uptoBulkAll r
def uptoBulkEntries {H : Type} : List (Lit × DataW H) → Nat
  | [] => 0
  | x :: r => uptoBulkEntry x + uptoBulkEntries r
def uptoBulkEntry {H : Type} : Lit × DataW H → Nat
  | (.string bytes, d) => bytes.length + uptoBulk d + 1
  | (_, d) => uptoBulk d + 1
 end
def uptoSmall : (H : Type) → List (DataW H) → Bool := fun _ ds => decide (uptoBulkAll ds ≤ 1048576)
def OpenSpec.upto (s : _root_.Go.ChangeSpec) : _root_.Go.OpenSpec := { _root_.Go.OpenSpec.ofChange s with cond := some uptoSmall }

/-- 'semvcslaw19.MatchingTrees', WHERE WHAT IT READS IS OF BULK AT MOST 1048576: true; the input reads as it did. -/
def matchingTreesUptoRow : OpenClaim := { program := "ytfifbadepebpeaa", sum := "40dd31581ef3230941796bcc85da612d7aa2c5e4377f0b0db460f6a134b59ff9", func := "semvcs/semvcslaw19.MatchingTrees", spec := "matchingTrees", unfollowed := true, recurses := true, loops := true, plainKeys := false, apart := false, narrowed := true }
def MatchingTreesUptoSaid : Prop := matchingTreesUptoRow.holds Try.pinned (OpenSpec.upto matchingTreesSpec)

/-- 'semvcslaw19.MatchingMade', WHERE WHAT IT READS IS OF BULK AT MOST 1048576: true; the input reads as it did. -/
def matchingMadeUptoRow : OpenClaim := { program := "ytfifbadepebpeaa", sum := "40dd31581ef3230941796bcc85da612d7aa2c5e4377f0b0db460f6a134b59ff9", func := "semvcs/semvcslaw19.MatchingMade", spec := "matchingMade", unfollowed := true, recurses := true, plainKeys := false, apart := false, narrowed := true }
def MatchingMadeUptoSaid : Prop := matchingMadeUptoRow.holds Try.pinned (OpenSpec.upto matchingMadeSpec)

/-- 'semvcslaw19.MatchingVerifies', WHERE WHAT IT READS IS OF BULK AT MOST 1048576: true; the input reads as it did. -/
def matchingVerifiesUptoRow : OpenClaim := { program := "ytfifbadepebpeaa", sum := "40dd31581ef3230941796bcc85da612d7aa2c5e4377f0b0db460f6a134b59ff9", func := "semvcs/semvcslaw19.MatchingVerifies", spec := "matchingVerifies", unfollowed := true, recurses := true, plainKeys := false, apart := false, narrowed := true }
def MatchingVerifiesUptoSaid : Prop := matchingVerifiesUptoRow.holds Try.pinned (OpenSpec.upto matchingVerifiesSpec)

/-- 'semvcslaw19.MatchingSelf', WHERE WHAT IT READS IS OF BULK AT MOST 1048576: true; the input reads as it did. -/
def matchingSelfUptoRow : OpenClaim := { program := "ytfifbadepebpeaa", sum := "40dd31581ef3230941796bcc85da612d7aa2c5e4377f0b0db460f6a134b59ff9", func := "semvcs/semvcslaw19.MatchingSelf", spec := "matchingSelf", unfollowed := true, recurses := true, plainKeys := false, apart := false, narrowed := true }
def MatchingSelfUptoSaid : Prop := matchingSelfUptoRow.holds Try.pinned (OpenSpec.upto matchingSelfSpec)

/-- 'semvcslaw19.MatchingCosts', WHERE WHAT IT READS IS OF BULK AT MOST 1048576: true; the input reads as it did. -/
def matchingCostsUptoRow : OpenClaim := { program := "ytfifbadepebpeaa", sum := "40dd31581ef3230941796bcc85da612d7aa2c5e4377f0b0db460f6a134b59ff9", func := "semvcs/semvcslaw19.MatchingCosts", spec := "matchingCosts", unfollowed := true, recurses := true, plainKeys := false, apart := false, narrowed := true }
def MatchingCostsUptoSaid : Prop := matchingCostsUptoRow.holds Try.pinned (OpenSpec.upto matchingCostsSpec)

/-- 'semvcslaw19.MatchingLeast', WHERE WHAT IT READS IS OF BULK AT MOST 1048576: true; the input reads as it did. -/
def matchingLeastUptoRow : OpenClaim := { program := "ytfifbadepebpeaa", sum := "40dd31581ef3230941796bcc85da612d7aa2c5e4377f0b0db460f6a134b59ff9", func := "semvcs/semvcslaw19.MatchingLeast", spec := "matchingLeast", unfollowed := true, recurses := true, plainKeys := false, apart := false, narrowed := true }
def MatchingLeastUptoSaid : Prop := matchingLeastUptoRow.holds Try.pinned (OpenSpec.upto matchingLeastSpec)

/-- 'semvcslaw19.MatchingProves', WHERE WHAT IT READS IS OF BULK AT MOST 1048576: true; the input reads as it did. -/
def matchingProvesUptoRow : OpenClaim := { program := "ytfifbadepebpeaa", sum := "40dd31581ef3230941796bcc85da612d7aa2c5e4377f0b0db460f6a134b59ff9", func := "semvcs/semvcslaw19.MatchingProves", spec := "matchingProves", unfollowed := true, recurses := true, loops := true, plainKeys := false, apart := false, narrowed := true }
def MatchingProvesUptoSaid : Prop := matchingProvesUptoRow.holds Try.pinned (OpenSpec.upto matchingProvesSpec)

end Rows
end Go.Proofs.Ytfifbadepebpeaa
