/- The function of the statement, reckoned for whatever numbers. -/
import Derived.Test.YtlgdojkmbfbnjaaGreatDoorDt
import Derived.Test.YtlgdojkmbfbnjaaGreatDoorFD
namespace Go.Proofs.YtlgdojkmbfbnjaaGreatDoor
open Go.RowKit
set_option maxRecDepth 100000000
noncomputable def TT : List Kn := e1606 :: e1597 :: e1596 :: e1503 :: e1502 :: e1501 :: e1492 :: e1491 :: e1398 :: e1397 :: e1396 :: e1387 :: e1386 :: e1293 :: e1292 :: e1291 :: e1282 :: e1281 :: e1188 :: e1187 :: e1186 :: e1179 :: e1178 :: e1085 :: e1084 :: e1083 :: e1074 :: e1073 :: e980 :: e979 :: e978 :: e967 :: e966 :: e873 :: e872 :: e871 :: e862 :: e861 :: e768 :: e767 :: e766 :: e757 :: e756 :: e663 :: e662 :: e661 :: e652 :: e651 :: e558 :: e557 :: e556 :: e547 :: e546 :: e453 :: e452 :: e451 :: e440 :: e439 :: e346 :: e345 :: e344 :: e335 :: e334 :: e241 :: e240 :: e239 :: e230 :: e229 :: e136 :: e135 :: e134 :: e133 :: e126 :: e116 :: e115 :: e114 :: e113 :: e112 :: e111 :: e100 :: e99 :: e6 :: e5 :: e4 :: e3 :: e2 :: e1 :: e0 :: []
theorem ttk : (fun n m : Int => rTop TT n m true) = (fun _ _ => true) := by kernel_rfl
theorem tfk : (fun n m : Int => rTop TT n m false) = (fun _ _ => true) := by kernel_rfl
end Go.Proofs.YtlgdojkmbfbnjaaGreatDoor
