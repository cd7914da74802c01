/- Calls of the program, reckoned by the kernel. -/
import Derived.Test.YtlgdojkmbfbnjaaGreatDoorDt
namespace Go.Proofs.YtlgdojkmbfbnjaaGreatDoor
open Go.RowKit
set_option maxRecDepth 100000000
theorem b68k : ckB (e549 :: e442 :: e337 :: []) b68 = true := by kernel_rfl
theorem b31k : ckB ([]) b31 = true := by kernel_rfl
theorem b55k : ckB (e654 :: []) b55 = true := by kernel_rfl
theorem v0k : ckB ([]) v0 = true := by kernel_rfl
theorem v14k : ckB ([]) v14 = true := by kernel_rfl
theorem b76k : ckB ((v4 ++ v5)) b76 = true := by kernel_rfl
theorem b107k : ckB (e1605 :: e1604 :: e1603 :: e1602 :: e1601 :: e1600 :: e1599 :: e1598 :: e107 :: e102 :: []) b107 = true := by kernel_rfl
theorem v25k : ckB (v24) v25 = true := by kernel_rfl
theorem b98k : ckB (e965 :: v16) b98 = true := by kernel_rfl
end Go.Proofs.YtlgdojkmbfbnjaaGreatDoor
