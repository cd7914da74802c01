/- Calls of the program, reckoned by the kernel. -/
import Derived.Test.YtlgdojkmbfbnjaaGreatDoorDt
namespace Go.Proofs.YtlgdojkmbfbnjaaGreatDoor
open Go.RowKit
set_option maxRecDepth 100000000
theorem b44k : ckB (e1180 :: e1076 :: e1075 :: e969 :: e968 :: e864 :: e863 :: e759 :: e758 :: []) b44 = true := by kernel_rfl
theorem b49k : ckB (e131 :: []) b49 = true := by kernel_rfl
theorem b48k : ckB (e129 :: []) b48 = true := by kernel_rfl
theorem b64k : ckB (e1494 :: []) b64 = true := by kernel_rfl
theorem v10k : ckB ([]) v10 = true := by kernel_rfl
theorem b74k : ckB ((v0 ++ v1)) b74 = true := by kernel_rfl
theorem b86k : ckB ((v26 ++ v27)) b86 = true := by kernel_rfl
theorem v19k : ckB (v18) v19 = true := by kernel_rfl
theorem b95k : ckB (e650 :: v10) b95 = true := by kernel_rfl
end Go.Proofs.YtlgdojkmbfbnjaaGreatDoor
