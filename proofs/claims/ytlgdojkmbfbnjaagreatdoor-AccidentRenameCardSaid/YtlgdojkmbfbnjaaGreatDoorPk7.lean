/- Calls of the program, reckoned by the kernel. -/
import Derived.Test.YtlgdojkmbfbnjaaGreatDoorDt
namespace Go.Proofs.YtlgdojkmbfbnjaaGreatDoor
open Go.RowKit
set_option maxRecDepth 100000000
theorem b45k : ckB (e1599 :: e1598 :: e1494 :: e1493 :: e1389 :: e1388 :: e1284 :: e1283 :: []) b45 = true := by kernel_rfl
theorem b39k : ckB ([]) b39 = true := by kernel_rfl
theorem b53k : ckB (e449 :: []) b53 = true := by kernel_rfl
theorem b52k : ckB (e442 :: []) b52 = true := by kernel_rfl
theorem v22k : ckB ([]) v22 = true := by kernel_rfl
theorem b80k : ckB ((v12 ++ v13)) b80 = true := by kernel_rfl
theorem v7k : ckB (v6) v7 = true := by kernel_rfl
theorem b89k : ckB (e1177 :: v20) b89 = true := by kernel_rfl
theorem b100k : ckB (e1280 :: v22) b100 = true := by kernel_rfl
end Go.Proofs.YtlgdojkmbfbnjaaGreatDoor
