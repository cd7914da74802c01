/- Calls of the program, reckoned by the kernel. -/
import Derived.Test.YtlgdojkmbfbnjaaGreatDoorDt
namespace Go.Proofs.YtlgdojkmbfbnjaaGreatDoor
open Go.RowKit
set_option maxRecDepth 100000000
theorem b104k : ckB (e1595 :: e1490 :: e1385 :: e1280 :: e1177 :: e1072 :: e965 :: e860 :: e755 :: e650 :: e545 :: e438 :: e333 :: e228 :: e98 :: []) b104 = true := by kernel_rfl
theorem b69k : ckB (e864 :: e759 :: e654 :: []) b69 = true := by kernel_rfl
theorem b57k : ckB (e864 :: []) b57 = true := by kernel_rfl
theorem b62k : ckB (e1284 :: []) b62 = true := by kernel_rfl
theorem v28k : ckB ([]) v28 = true := by kernel_rfl
theorem b83k : ckB ((v18 ++ v19)) b83 = true := by kernel_rfl
theorem v13k : ckB (v12) v13 = true := by kernel_rfl
theorem b92k : ckB (e333 :: v4) b92 = true := by kernel_rfl
theorem b41k : ckB (e113 :: e112 :: e1 :: e0 :: []) b41 = true := by kernel_rfl
end Go.Proofs.YtlgdojkmbfbnjaaGreatDoor
