/- Every function of the program is in order. -/
import Derived.Test.YtlgdojkmbfbnjaaGreatDoorFD
namespace Go.Proofs.YtlgdojkmbfbnjaaGreatDoor
open Go.RowKit
set_option maxRecDepth 100000000
/-- What is asked of every function. -/
theorem ok_more : ∀ f, 386 ≤ f → okF Go.Proofs.Tryz.prog hints f = true := fun f h => by
  have hs : Go.Proofs.Tryz.prog.funcs.size = 386 := by kernel_rfl
  unfold okF
  rw [Array.getElem?_eq_none (by rw [hs]; exact h)]
theorem ok_0 : (List.range' 0 20).all (fun f => okF Go.Proofs.Tryz.prog hints f) = true := by kernel_rfl
theorem ok_20 : (List.range' 20 20).all (fun f => okF Go.Proofs.Tryz.prog hints f) = true := by kernel_rfl
theorem ok_40 : (List.range' 40 20).all (fun f => okF Go.Proofs.Tryz.prog hints f) = true := by kernel_rfl
theorem ok_60 : (List.range' 60 20).all (fun f => okF Go.Proofs.Tryz.prog hints f) = true := by kernel_rfl
theorem ok_80 : (List.range' 80 20).all (fun f => okF Go.Proofs.Tryz.prog hints f) = true := by kernel_rfl
theorem ok_100 : (List.range' 100 20).all (fun f => okF Go.Proofs.Tryz.prog hints f) = true := by kernel_rfl
theorem ok_120 : (List.range' 120 20).all (fun f => okF Go.Proofs.Tryz.prog hints f) = true := by kernel_rfl
theorem ok_140 : (List.range' 140 20).all (fun f => okF Go.Proofs.Tryz.prog hints f) = true := by kernel_rfl
theorem ok_160 : (List.range' 160 20).all (fun f => okF Go.Proofs.Tryz.prog hints f) = true := by kernel_rfl
theorem ok_180 : (List.range' 180 20).all (fun f => okF Go.Proofs.Tryz.prog hints f) = true := by kernel_rfl
theorem ok_200 : (List.range' 200 20).all (fun f => okF Go.Proofs.Tryz.prog hints f) = true := by kernel_rfl
theorem ok_220 : (List.range' 220 20).all (fun f => okF Go.Proofs.Tryz.prog hints f) = true := by kernel_rfl
theorem ok_240 : (List.range' 240 20).all (fun f => okF Go.Proofs.Tryz.prog hints f) = true := by kernel_rfl
theorem ok_260 : (List.range' 260 20).all (fun f => okF Go.Proofs.Tryz.prog hints f) = true := by kernel_rfl
theorem ok_280 : (List.range' 280 20).all (fun f => okF Go.Proofs.Tryz.prog hints f) = true := by kernel_rfl
theorem ok_300 : (List.range' 300 20).all (fun f => okF Go.Proofs.Tryz.prog hints f) = true := by kernel_rfl
theorem ok_320 : (List.range' 320 20).all (fun f => okF Go.Proofs.Tryz.prog hints f) = true := by kernel_rfl
theorem ok_340 : (List.range' 340 20).all (fun f => okF Go.Proofs.Tryz.prog hints f) = true := by kernel_rfl
theorem ok_360 : (List.range' 360 20).all (fun f => okF Go.Proofs.Tryz.prog hints f) = true := by kernel_rfl
theorem ok_380 : (List.range' 380 6).all (fun f => okF Go.Proofs.Tryz.prog hints f) = true := by kernel_rfl
theorem fol : Go.Proofs.Tryz.prog.follows .mixedOrders = true := by kernel_rfl
theorem ok_all : ∀ f, okF Go.Proofs.Tryz.prog hints f = true := fun f => by
  have key : ∀ {a n : Nat}, (List.range' a n).all (fun f => okF Go.Proofs.Tryz.prog hints f) = true → a ≤ f → f < a + n → okF Go.Proofs.Tryz.prog hints f = true := fun {a n} h h1 h2 => List.all_eq_true.1 h f (List.mem_range'_1.2 ⟨h1, h2⟩)
  rcases Nat.lt_or_ge f 20 with h | h
  · exact key ok_0 (by omega) (by omega)
  rcases Nat.lt_or_ge f 40 with h | h
  · exact key ok_20 (by omega) (by omega)
  rcases Nat.lt_or_ge f 60 with h | h
  · exact key ok_40 (by omega) (by omega)
  rcases Nat.lt_or_ge f 80 with h | h
  · exact key ok_60 (by omega) (by omega)
  rcases Nat.lt_or_ge f 100 with h | h
  · exact key ok_80 (by omega) (by omega)
  rcases Nat.lt_or_ge f 120 with h | h
  · exact key ok_100 (by omega) (by omega)
  rcases Nat.lt_or_ge f 140 with h | h
  · exact key ok_120 (by omega) (by omega)
  rcases Nat.lt_or_ge f 160 with h | h
  · exact key ok_140 (by omega) (by omega)
  rcases Nat.lt_or_ge f 180 with h | h
  · exact key ok_160 (by omega) (by omega)
  rcases Nat.lt_or_ge f 200 with h | h
  · exact key ok_180 (by omega) (by omega)
  rcases Nat.lt_or_ge f 220 with h | h
  · exact key ok_200 (by omega) (by omega)
  rcases Nat.lt_or_ge f 240 with h | h
  · exact key ok_220 (by omega) (by omega)
  rcases Nat.lt_or_ge f 260 with h | h
  · exact key ok_240 (by omega) (by omega)
  rcases Nat.lt_or_ge f 280 with h | h
  · exact key ok_260 (by omega) (by omega)
  rcases Nat.lt_or_ge f 300 with h | h
  · exact key ok_280 (by omega) (by omega)
  rcases Nat.lt_or_ge f 320 with h | h
  · exact key ok_300 (by omega) (by omega)
  rcases Nat.lt_or_ge f 340 with h | h
  · exact key ok_320 (by omega) (by omega)
  rcases Nat.lt_or_ge f 360 with h | h
  · exact key ok_340 (by omega) (by omega)
  rcases Nat.lt_or_ge f 380 with h | h
  · exact key ok_360 (by omega) (by omega)
  rcases Nat.lt_or_ge f 386 with h | h
  · exact key ok_380 (by omega) (by omega)
  exact ok_more f h
end Go.Proofs.YtlgdojkmbfbnjaaGreatDoor
