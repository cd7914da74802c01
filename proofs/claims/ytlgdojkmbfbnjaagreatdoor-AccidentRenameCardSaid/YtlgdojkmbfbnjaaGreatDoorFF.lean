/- The functions without a body. -/
import Derived.Test.YtlgdojkmbfbnjaaGreatDoorFD
import Derived.Laws.Externs
import Derived.Lib.Builder
namespace Go.Proofs.YtlgdojkmbfbnjaaGreatDoor
open Go.RowKit
set_option maxRecDepth 100000000
theorem ext1 : (List.range' 0 386).all (fun f => Nat.beq f 361 || !(Nat.beq (extK Go.Proofs.Tryz.prog f) 1)) = true := by kernel_rfl
theorem ext2 : (List.range' 0 386).all (fun f => Nat.beq f 350 || !(Nat.beq (extK Go.Proofs.Tryz.prog f) 2)) = true := by kernel_rfl
theorem ext_size : Go.Proofs.Tryz.prog.funcs.size = 386 := by kernel_rfl
theorem ext_of {k g : Nat} (h : (List.range' 0 386).all (fun f => Nat.beq f g || !(Nat.beq (extK Go.Proofs.Tryz.prog f) k)) = true) (hk : k ≠ 0) {f : Nat} (hf : extK Go.Proofs.Tryz.prog f = k) : f = g := by
  rcases Nat.lt_or_ge f 386 with h1 | h1
  · have := List.all_eq_true.1 h f (List.mem_range'_1.2 ⟨by omega, by omega⟩)
    rw [hf, Nat.beq_refl] at this
    simpa [beq_iff] using this
  · exfalso
    unfold extK at hf
    rw [Array.getElem?_eq_none (by rw [ext_size]; exact h1)] at hf
    exact hk hf.symm
theorem ext : ExtOk Go.Proofs.Tryz.prog := ⟨fun f v w h => by
  obtain rfl := ext_of ext1 (by decide) h
  rw [run_callFunc_extern Tryz.func361 (by kernel_rfl) (by kernel_rfl) (by kernel_rfl) (e := Extern.AbiNoEscape.same) (by kernel_rfl)]
  rw [Lib.run_noEscape]; rfl, fun f s c w h => by
  obtain rfl := ext_of ext2 (by decide) h
  rw [run_callFunc_extern Tryz.func350 (by kernel_rfl) (by kernel_rfl) (by kernel_rfl) (e := Extern.BytealgIndexByte.indexByte) (by kernel_rfl)]
  rw [run_indexByte_string]; rfl⟩
end Go.Proofs.YtlgdojkmbfbnjaaGreatDoor
