/- Calls of the program, reckoned by the kernel. -/
import Derived.Test.YtlgdojkmbfbnjaaGreatDoorDt
namespace Go.Proofs.YtlgdojkmbfbnjaaGreatDoor
open Go.RowKit
set_option maxRecDepth 100000000
theorem b70k : ckB (e1076 :: e969 :: e864 :: []) b70 = true := by kernel_rfl
theorem b71k : ckB (e1389 :: e1284 :: e102 :: []) b71 = true := by kernel_rfl
theorem b50k : ckB (e232 :: []) b50 = true := by kernel_rfl
theorem b54k : ckB (e549 :: []) b54 = true := by kernel_rfl
theorem v24k : ckB ([]) v24 = true := by kernel_rfl
theorem b81k : ckB ((v14 ++ v15)) b81 = true := by kernel_rfl
theorem v9k : ckB (v8) v9 = true := by kernel_rfl
theorem b90k : ckB (e98 :: v0) b90 = true := by kernel_rfl
theorem b101k : ckB (e1385 :: v24) b101 = true := by kernel_rfl
end Go.Proofs.YtlgdojkmbfbnjaaGreatDoor
