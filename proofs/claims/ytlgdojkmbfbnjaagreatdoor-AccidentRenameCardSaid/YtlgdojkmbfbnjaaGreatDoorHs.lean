/- Blocks whose cells are known. -/
import Derived.Test.YtlgdojkmbfbnjaaGreatDoorMem
namespace Go.Proofs.YtlgdojkmbfbnjaaGreatDoor
open Go.RowKit

/-- A block that has these cells. -/
structure Has (w : World) (b : Nat) (c : Array Value) : Prop where
  lt : b < w.heap.size
  cl : ∀ o, w.cell? ⟨b, o, none⟩ = c[o]?
  fz : ∀ o, w.frozen? ⟨b, o, none⟩ = false
theorem Has.drew {w : World} {b : Nat} {c : Array Value} (h : Has w b c) : Has w.drew b c := ⟨h.lt, h.cl, h.fz⟩
theorem Has.alloc {w : World} {b : Nat} {c : Array Value} (h : Has w b c) (o : Obj) : Has (w.alloc o) b c := by
  refine ⟨by have := h.lt; simp; omega, fun q => ?_, fun q => ?_⟩
  · rw [World.cell?_alloc_past _ _ _ h.lt]; exact h.cl q
  · rw [World.frozen?_alloc_past _ _ _ h.lt]; exact h.fz q
theorem Has.below {W w : World} {b : Nat} {c : Array Value} (h : Has W b c) (hb : Below W.heap.size W w) : Has w b c :=
  ⟨Nat.lt_of_lt_of_le h.lt hb.size, fun q => (hb.cell (p := ⟨b, q, none⟩) h.lt).trans (h.cl q), fun q => (hb.frozen (p := ⟨b, q, none⟩) h.lt).trans (h.fz q)⟩
theorem Has.new (w : World) (c : Array Value) (t : TypeId) : Has (w.alloc (.cells c t)) w.heap.size c :=
  ⟨by simp, fun q => by rw [World.cell?_alloc_at _ _ _ _ rfl], fun q => World.frozen?_alloc_at _ _ _ _ rfl⟩
theorem Has.new1 (w : World) (o : Obj) (c : Array Value) (t : TypeId) : Has ((w.alloc o).alloc (.cells c t)) (w.heap.size + 1) c := by
  have := Has.new (w.alloc o) c t
  simpa using this
theorem Has.ne {w : World} {b g : Nat} {c : Array Value} (h : Has w b c) (hg : g ≠ b) (i : Nat) (v : Value) : Has (w.setCell ⟨g, i, none⟩ v) b c := by
  refine ⟨by simpa [World.setCell] using h.lt, fun q => ?_, fun q => ?_⟩
  · rw [World.cell?_of_block (a := ⟨b, q, none⟩) (Below.heap_setCell _ _ _ _ (by exact fun e => hg e.symm))]; exact h.cl q
  · rw [World.frozen?_of_block (a := ⟨b, q, none⟩) (Below.heap_setCell _ _ _ _ (by exact fun e => hg e.symm))]; exact h.fz q

theorem Has.putx {w : World} {b : Nat} {c : Array Value} (x : Has w b c) (i : Nat) (hi : i < c.size) (v : Value) : Has (w.setCell ⟨b, i, none⟩ v) b (c.setIfInBounds i v) := by
  refine ⟨by simpa [World.setCell] using x.lt, fun o => ?_, fun o => by have := x.fz o; simp [this]⟩
  by_cases e : o = i
  · subst e
    rw [World.cell?_setCell_same _ _ _ ((x.cl o).trans (Array.getElem?_eq_getElem hi))]
    simp [hi]
  · rw [World.cell?_setCell_other _ _ _ _ (by simp), x.cl o]
    rw [Array.getElem?_setIfInBounds_ne (fun h => e h.symm)]
end Go.Proofs.YtlgdojkmbfbnjaaGreatDoor
