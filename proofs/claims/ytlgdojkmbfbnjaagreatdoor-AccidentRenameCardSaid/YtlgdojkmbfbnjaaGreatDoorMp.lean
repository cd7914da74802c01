/- Maps whose keys are pairs. -/
import Derived.Test.YtlgdojkmbfbnjaaGreatDoorEq
namespace Go.Proofs.YtlgdojkmbfbnjaaGreatDoor
open Go.RowKit

def keyV (p : Int × Int) : Value := .agg #[.int .i64 p.1, .int .i64 p.2]

/-- Block r is a map with the entries l, in their order. -/
def MapL (w : World) (r : Nat) (l : List ((Int × Int) × Value)) : Prop := ∃ es clock, w.heap[r]? = some (.map es clock) ∧ es.toList.map (fun e => (e.key, e.val)) = l.map fun q => (keyV q.1, q.2)

theorem MapL.keep {w w' : World} {r : Nat} {l : List ((Int × Int) × Value)} (m : MapL w r l) (h : w'.heap[r]? = w.heap[r]?) : MapL w' r l := by
  obtain ⟨es, c, h1, h2⟩ := m; exact ⟨es, c, by rw [h]; exact h1, h2⟩
theorem MapL.lt {w : World} {r : Nat} {l : List ((Int × Int) × Value)} (m : MapL w r l) : r < w.heap.size := by
  obtain ⟨es, c, h1, h2⟩ := m
  rcases Nat.lt_or_ge r w.heap.size with hl | hl
  · exact hl
  · rw [Array.getElem?_eq_none hl] at h1; cases h1

def findL (l : List ((Int × Int) × Value)) (p : Int × Int) : Option Value := (l.find? fun q => decide (q.1 = p)).map (·.2)
def setL : List ((Int × Int) × Value) → Int × Int → Value → List ((Int × Int) × Value)
  | [], p, v => [(p, v)]
  | q :: l, p, v => if q.1 = p then (p, v) :: l else q :: setL l p v

theorem findL_set (l : List ((Int × Int) × Value)) (p q : Int × Int) (v : Value) : findL (setL l p v) q = if q = p then some v else findL l q := by
  induction l with
  | nil =>
    by_cases h : q = p
    · subst h; simp [findL, setL]
    · have : p ≠ q := fun e => h e.symm
      simp [findL, setL, h, this]
  | cons a l ih =>
    unfold setL
    by_cases h1 : a.1 = p
    · rw [if_pos h1]
      by_cases h : q = p
      · subst h; simp [findL]
      · have h2 : p ≠ q := fun e => h e.symm
        have h3 : a.1 ≠ q := fun e => h (by rw [← e, h1])
        simp [findL, h, h2, h3]
    · rw [if_neg h1]
      by_cases h2 : a.1 = q
      · have : q ≠ p := fun e => h1 (by rw [h2, e])
        simp [findL, h2, this]
      · unfold findL at *
        rw [List.find?_cons_of_neg (by simpa using h2), ih]
        by_cases h : q = p
        · simp [h]
        · rw [if_neg h, if_neg h, List.find?_cons_of_neg (by simpa using h2)]

theorem findL_idx (l : List ((Int × Int) × Value)) (p : Int × Int) : findL l p = (l.findIdx? (fun q => decide (q.1 = p))).map fun k => (l.getD k default).2 := by
  induction l with
  | nil => rfl
  | cons a l ih =>
    unfold findL at *
    by_cases h : a.1 = p
    · simp [h, List.findIdx?_cons]
    · rw [List.find?_cons_of_neg (by simpa using h), ih, List.findIdx?_cons]
      simp only [h, decide_false, Bool.false_eq_true, if_false, Option.map_map]
      cases l.findIdx? (fun q => decide (q.1 = p)) <;> simp

def putMap (w : World) (r : Nat) (o : Obj) : World := { w with heap := w.heap.setIfInBounds r o }

theorem setL_none (l : List ((Int × Int) × Value)) (p : Int × Int) (v : Value) (h : l.findIdx? (fun q => decide (q.1 = p)) = none) : setL l p v = l ++ [(p, v)] := by
  induction l with
  | nil => rfl
  | cons a l ih =>
    rw [List.findIdx?_cons] at h
    by_cases h1 : a.1 = p
    · simp [h1] at h
    · simp only [h1, decide_false, Bool.false_eq_true, if_false, Option.map_eq_none_iff] at h
      rw [setL, if_neg h1, ih h]; rfl
theorem setL_some (l : List ((Int × Int) × Value)) (p : Int × Int) (v : Value) (k : Nat) (h : l.findIdx? (fun q => decide (q.1 = p)) = some k) : k < l.length ∧ setL l p v = l.set k (p, v) ∧ (l.getD k default).1 = p := by
  induction l generalizing k with
  | nil => simp at h
  | cons a l ih =>
    rw [List.findIdx?_cons] at h
    by_cases h1 : a.1 = p
    · simp only [h1, decide_true, if_true, Option.some.injEq] at h
      subst h
      exact ⟨by simp, by rw [setL, if_pos h1]; rfl, by simpa using h1⟩
    · simp only [h1, decide_false, Bool.false_eq_true, if_false, Option.map_eq_some_iff] at h
      obtain ⟨j, hj, rfl⟩ := h
      obtain ⟨i1, i2, i3⟩ := ih j hj
      exact ⟨by simp; omega, by rw [setL, if_neg h1, i2]; rfl, by simpa using i3⟩

theorem sameBits_key (p : Int × Int) : Instr.sameBits 10000 (keyV p) (keyV p) = true := by
  rw [show (10000 : Nat) = 9999 + 1 from rfl, keyV, Instr.sameBits]
  simp [Instr.sameBits]

theorem mapL_new (w : World) : MapL (w.alloc (.map #[] 0)) w.heap.size [] := ⟨#[], 0, heap_alloc_new w _, rfl⟩
theorem grown_put (w : World) (r : Nat) (o : Obj) : w.grownBy (putMap w r o) (some r) :=
  ⟨rfl, rfl, rfl, by simp [putMap], fun k hk hne => by
    have : r ≠ k := fun e => hne (by rw [e])
    simp [putMap, this]⟩

theorem _root_.Go.World.grownBy.cellOf {w w' : World} {row : Option Nat} (hg : w.grownBy w' row) {b i : Nat} (hb : b < w.heap.size) (hne : row ≠ some b) : w'.cell? ⟨b, i, none⟩ = w.cell? ⟨b, i, none⟩ ∧ w'.frozen? ⟨b, i, none⟩ = w.frozen? ⟨b, i, none⟩ :=
  ⟨World.cell?_of_block (a := ⟨b, i, none⟩) (hg.block b hb (fun e => hne e.symm)), World.frozen?_of_block (a := ⟨b, i, none⟩) (hg.block b hb (fun e => hne e.symm))⟩
end Go.Proofs.YtlgdojkmbfbnjaaGreatDoor
