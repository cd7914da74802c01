/- A tree as a list of nodes in preorder. -/
import Derived.Test.YtfifbadepebpeaaTyp
namespace Go.Proofs.Ytfifbadepebpeaa

def kidNums : List Tree → Nat → List Int
  | [], _ => []
  | t :: ts, n => (n : Int) :: kidNums ts (n + t.size)

mutual
def flatAt : Tree → Int → Nat → List NodeP
  | .node k s _ ks, parent, at_ => ⟨k, s, parent, kidNums ks (at_ + 1), sizes ks + 1⟩ :: flatKids ks at_ (at_ + 1)
def flatKids : List Tree → Nat → Nat → List NodeP
  | [], _, _ => []
  | t :: ts, p, n => flatAt t p n ++ flatKids ts p (n + t.size)
end
def flatP (t : Tree) : List NodeP := flatAt t (-1) 0

theorem flatAt_eq (t : Tree) (p : Int) (n : Nat) : flatAt t p n = ⟨t.kind, t.text, p, kidNums t.kids (n + 1), t.size⟩ :: flatKids t.kids n (n + 1) := by
  cases t; simp [flatAt, Tree.kind, Tree.text, Tree.kids, Tree.size]
theorem flatKids_cons (t : Tree) (ts : List Tree) (p n : Nat) : flatKids (t :: ts) p n = flatAt t p n ++ flatKids ts p (n + t.size) := by rw [flatKids]

mutual
theorem flatAt_length : ∀ (t : Tree) (p : Int) (n : Nat), (flatAt t p n).length = t.size
  | .node k s l ks, p, n => by rw [flatAt, Tree.size, List.length_cons, flatKids_length]
theorem flatKids_length : ∀ (ts : List Tree) (p n : Nat), (flatKids ts p n).length = sizes ts
  | [], _, _ => by rw [flatKids, sizes]; rfl
  | t :: ts, p, n => by rw [flatKids, sizes, List.length_append, flatAt_length, flatKids_length]
end
theorem flatP_length (t : Tree) : (flatP t).length = t.size := flatAt_length t _ _

theorem kidNums_length (ts : List Tree) (n : Nat) : (kidNums ts n).length = ts.length := by
  induction ts generalizing n with
  | nil => rfl
  | cons t ts ih => simp [kidNums, ih]

theorem sizes_take (ts : List Tree) (k : Nat) (hk : k < ts.length) : sizes (ts.take (k + 1)) = sizes (ts.take k) + ts[k].size := by
  induction ts generalizing k with
  | nil => simp at hk
  | cons t ts ih =>
    cases k with
    | zero => simp [sizes]
    | succ k => simp only [List.take_succ_cons, sizes, List.getElem_cons_succ]; rw [ih k (by simpa using hk)]; omega
theorem sizes_take_le (ts : List Tree) (k : Nat) : sizes (ts.take k) ≤ sizes ts := by
  induction ts generalizing k with
  | nil => simp
  | cons t ts ih =>
    cases k with
    | zero => simp [sizes]
    | succ k => simp only [List.take_succ_cons, sizes]; have := ih k; omega

theorem length_le_sizes (ts : List Tree) : ts.length ≤ sizes ts := by
  induction ts with
  | nil => simp
  | cons t ts ih => rw [sizes_cons, List.length_cons]; have := t.size_eq; omega

theorem kidNums_take (ts : List Tree) (n j : Nat) (hj : j < ts.length) : kidNums (ts.take (j + 1)) n = kidNums (ts.take j) n ++ [((n + sizes (ts.take j) : Nat) : Int)] := by
  induction ts generalizing n j with
  | nil => simp at hj
  | cons t ts ih =>
    cases j with
    | zero => simp [kidNums, sizes]
    | succ j =>
      simp only [List.take_succ_cons, kidNums, sizes, List.cons_append]
      rw [ih (n + t.size) j (by simpa using hj)]
      simp only [Nat.add_assoc]
theorem flatKids_take (ts : List Tree) (p n j : Nat) (hj : j < ts.length) : flatKids (ts.take (j + 1)) p n = flatKids (ts.take j) p n ++ flatAt ts[j] p (n + sizes (ts.take j)) := by
  induction ts generalizing n j with
  | nil => simp at hj
  | cons t ts ih =>
    cases j with
    | zero => simp [flatKids, sizes]
    | succ j =>
      simp only [List.take_succ_cons, flatKids, sizes, List.getElem_cons_succ]
      rw [ih (n + t.size) j (by simpa using hj)]
      simp only [Nat.add_assoc, List.append_assoc]
theorem kidNums_mem (ts : List Tree) (n : Nat) (x : Int) (hx : x ∈ kidNums ts n) : (n : Int) ≤ x ∧ x < n + sizes ts := by
  induction ts generalizing n with
  | nil => simp [kidNums] at hx
  | cons t ts ih =>
    simp only [kidNums, List.mem_cons] at hx
    have hs : 0 < t.size := by have := t.size_eq; omega
    rw [sizes_cons]
    rcases hx with rfl | hx
    · omega
    · have := ih (n + t.size) hx; omega
end Go.Proofs.Ytfifbadepebpeaa
