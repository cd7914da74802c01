/- Calls of the program, reckoned by the kernel. -/
import Derived.Test.YtlgdojkmbfbnjaaGreatDoorDt
namespace Go.Proofs.YtlgdojkmbfbnjaaGreatDoor
open Go.RowKit
set_option maxRecDepth 100000000
theorem b67k : ckB (e337 :: e232 :: e117 :: []) b67 = true := by kernel_rfl
theorem b38k : ckB ([]) b38 = true := by kernel_rfl
theorem b60k : ckB (e1076 :: []) b60 = true := by kernel_rfl
theorem v6k : ckB ([]) v6 = true := by kernel_rfl
theorem v20k : ckB ([]) v20 = true := by kernel_rfl
theorem b79k : ckB ((v10 ++ v11)) b79 = true := by kernel_rfl
theorem v5k : ckB (v4) v5 = true := by kernel_rfl
theorem v29k : ckB (v28) v29 = true := by kernel_rfl
theorem b103k : ckB (e1595 :: v28) b103 = true := by kernel_rfl
end Go.Proofs.YtlgdojkmbfbnjaaGreatDoor
