/- Calls of the program, reckoned by the kernel. -/
import Derived.Test.YtlgdojkmbfbnjaaGreatDoorDt
namespace Go.Proofs.YtlgdojkmbfbnjaaGreatDoor
open Go.RowKit
set_option maxRecDepth 100000000
theorem b66k : ckB (e117 :: e103 :: []) b66 = true := by kernel_rfl
theorem b32k : ckB ([]) b32 = true := by kernel_rfl
theorem b47k : ckB (e117 :: []) b47 = true := by kernel_rfl
theorem b46k : ckB (e103 :: []) b46 = true := by kernel_rfl
theorem v12k : ckB ([]) v12 = true := by kernel_rfl
theorem b75k : ckB ((v2 ++ v3)) b75 = true := by kernel_rfl
theorem b87k : ckB ((v28 ++ v29)) b87 = true := by kernel_rfl
theorem v21k : ckB (v20) v21 = true := by kernel_rfl
theorem b96k : ckB (e755 :: v12) b96 = true := by kernel_rfl
end Go.Proofs.YtlgdojkmbfbnjaaGreatDoor
