/- Calls of the program, reckoned by the kernel. -/
import Derived.Test.YtlgdojkmbfbnjaaGreatDoorDt
namespace Go.Proofs.YtlgdojkmbfbnjaaGreatDoor
open Go.RowKit
set_option maxRecDepth 100000000
theorem b106k : ckB (e1500 :: e1499 :: e1498 :: e1497 :: e1496 :: e1495 :: e1494 :: e1493 :: e1395 :: e1394 :: e1393 :: e1392 :: e1391 :: e1390 :: e1389 :: e1388 :: e1290 :: e1289 :: e1288 :: e1287 :: e1286 :: e1285 :: e1284 :: e1283 :: e1185 :: e1184 :: e1183 :: e1182 :: e1181 :: e1180 :: e1082 :: e1081 :: e1080 :: e1079 :: e1078 :: e1077 :: e1076 :: e1075 :: e977 :: e975 :: e974 :: e973 :: e972 :: e971 :: e970 :: e969 :: e968 :: e870 :: e869 :: e868 :: e867 :: e866 :: e865 :: e864 :: e863 :: e765 :: e764 :: e763 :: e762 :: e761 :: e760 :: e759 :: e758 :: e660 :: e659 :: e658 :: e657 :: e656 :: e655 :: e654 :: e653 :: e555 :: e554 :: e553 :: e552 :: e551 :: e550 :: e549 :: e548 :: e107 :: e102 :: []) b106 = true := by kernel_rfl
theorem b33k : ckB ([]) b33 = true := by kernel_rfl
theorem b59k : ckB (e976 :: []) b59 = true := by kernel_rfl
theorem b63k : ckB (e1389 :: []) b63 = true := by kernel_rfl
theorem v8k : ckB ([]) v8 = true := by kernel_rfl
theorem b73k : ckB ((v20 ++ v21)) b73 = true := by kernel_rfl
theorem b85k : ckB ((v24 ++ v25)) b85 = true := by kernel_rfl
theorem v17k : ckB (v16) v17 = true := by kernel_rfl
theorem b94k : ckB (e545 :: v8) b94 = true := by kernel_rfl
end Go.Proofs.YtlgdojkmbfbnjaaGreatDoor
