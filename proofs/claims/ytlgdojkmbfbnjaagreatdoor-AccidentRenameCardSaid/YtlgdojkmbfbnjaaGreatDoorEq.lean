/- '==' and '!=' of two arrays of two integers. -/
import Derived.Test.YtlgdojkmbfbnjaaGreatDoorMem
namespace Go.Proofs.YtlgdojkmbfbnjaaGreatDoor
open Go.RowKit

end Go.Proofs.YtlgdojkmbfbnjaaGreatDoor
