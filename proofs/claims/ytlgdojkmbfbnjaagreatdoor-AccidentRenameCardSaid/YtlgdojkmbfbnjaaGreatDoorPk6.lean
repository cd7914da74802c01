/- Calls of the program, reckoned by the kernel. -/
import Derived.Test.YtlgdojkmbfbnjaaGreatDoorDt
namespace Go.Proofs.YtlgdojkmbfbnjaaGreatDoor
open Go.RowKit
set_option maxRecDepth 100000000
theorem b43k : ckB (e654 :: e653 :: e549 :: e548 :: e442 :: e441 :: e337 :: e336 :: []) b43 = true := by kernel_rfl
theorem b37k : ckB ([]) b37 = true := by kernel_rfl
theorem b30k : ckB ([]) b30 = true := by kernel_rfl
theorem b61k : ckB (e102 :: []) b61 = true := by kernel_rfl
theorem v26k : ckB ([]) v26 = true := by kernel_rfl
theorem b82k : ckB ((v16 ++ v17)) b82 = true := by kernel_rfl
theorem v11k : ckB (v10) v11 = true := by kernel_rfl
theorem b91k : ckB (e228 :: v2) b91 = true := by kernel_rfl
theorem b102k : ckB (e1490 :: v26) b102 = true := by kernel_rfl
end Go.Proofs.YtlgdojkmbfbnjaaGreatDoor
