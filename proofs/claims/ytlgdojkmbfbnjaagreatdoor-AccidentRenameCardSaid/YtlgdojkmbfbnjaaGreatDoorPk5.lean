/- Calls of the program, reckoned by the kernel. -/
import Derived.Test.YtlgdojkmbfbnjaaGreatDoorDt
namespace Go.Proofs.YtlgdojkmbfbnjaaGreatDoor
open Go.RowKit
set_option maxRecDepth 100000000
theorem b105k : ckB (e450 :: e448 :: e447 :: e446 :: e445 :: e444 :: e443 :: e442 :: e441 :: e343 :: e342 :: e341 :: e340 :: e339 :: e338 :: e337 :: e336 :: e238 :: e237 :: e236 :: e235 :: e234 :: e233 :: e232 :: e231 :: e132 :: e130 :: e128 :: e127 :: e125 :: e124 :: e123 :: e122 :: e121 :: e120 :: e119 :: e118 :: e117 :: e110 :: e109 :: e108 :: e107 :: e106 :: e105 :: e104 :: e103 :: e102 :: e101 :: []) b105 = true := by kernel_rfl
theorem b36k : ckB ([]) b36 = true := by kernel_rfl
theorem b58k : ckB (e969 :: []) b58 = true := by kernel_rfl
theorem v4k : ckB ([]) v4 = true := by kernel_rfl
theorem v18k : ckB ([]) v18 = true := by kernel_rfl
theorem b78k : ckB ((v8 ++ v9)) b78 = true := by kernel_rfl
theorem v3k : ckB (v2) v3 = true := by kernel_rfl
theorem v27k : ckB (v26) v27 = true := by kernel_rfl
theorem b99k : ckB (e1072 :: v18) b99 = true := by kernel_rfl
end Go.Proofs.YtlgdojkmbfbnjaaGreatDoor
