/- Calls of the program, reckoned by the kernel. -/
import Derived.Test.YtlgdojkmbfbnjaaGreatDoorDt
namespace Go.Proofs.YtlgdojkmbfbnjaaGreatDoor
open Go.RowKit
set_option maxRecDepth 100000000
theorem b72k : ckB (e1599 :: e1494 :: e1389 :: []) b72 = true := by kernel_rfl
theorem b42k : ckB (e232 :: e231 :: e118 :: e117 :: e103 :: e102 :: e101 :: []) b42 = true := by kernel_rfl
theorem b56k : ckB (e759 :: []) b56 = true := by kernel_rfl
theorem v2k : ckB ([]) v2 = true := by kernel_rfl
theorem v16k : ckB ([]) v16 = true := by kernel_rfl
theorem b77k : ckB ((v6 ++ v7)) b77 = true := by kernel_rfl
theorem v1k : ckB (v0) v1 = true := by kernel_rfl
theorem v23k : ckB (v22) v23 = true := by kernel_rfl
theorem b97k : ckB (e860 :: v14) b97 = true := by kernel_rfl
end Go.Proofs.YtlgdojkmbfbnjaaGreatDoor
