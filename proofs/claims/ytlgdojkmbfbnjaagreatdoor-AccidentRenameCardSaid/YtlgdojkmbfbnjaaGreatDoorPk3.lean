/- Calls of the program, reckoned by the kernel. -/
import Derived.Test.YtlgdojkmbfbnjaaGreatDoorDt
namespace Go.Proofs.YtlgdojkmbfbnjaaGreatDoor
open Go.RowKit
set_option maxRecDepth 100000000
theorem b35k : ckB ([]) b35 = true := by kernel_rfl
theorem b34k : ckB ([]) b34 = true := by kernel_rfl
theorem b51k : ckB (e337 :: []) b51 = true := by kernel_rfl
theorem b65k : ckB (e1599 :: []) b65 = true := by kernel_rfl
theorem b40k : ckB ([]) b40 = true := by kernel_rfl
theorem b88k : ckB (e1600 :: e1495 :: e1390 :: e1285 :: e1077 :: e970 :: e865 :: e760 :: e655 :: e550 :: e443 :: e338 :: e233 :: e119 :: e107 :: e104 :: []) b88 = true := by kernel_rfl
theorem b84k : ckB ((v22 ++ v23)) b84 = true := by kernel_rfl
theorem v15k : ckB (v14) v15 = true := by kernel_rfl
theorem b93k : ckB (e438 :: v6) b93 = true := by kernel_rfl
theorem b108k : ckB (e133 :: e126 :: e116 :: e115 :: e114 :: []) b108 = true := by kernel_rfl
end Go.Proofs.YtlgdojkmbfbnjaaGreatDoor
