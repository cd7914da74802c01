/- Alignments: the potentials of the grid, and the pairs. -/
import Derived.Test.YtfifbadepebpeaaWa
import Derived.Test.YtfifbadepebpeaaBa
namespace Go.Proofs.Ytfifbadepebpeaa

def ptRow0 (add : List Int) : Nat → Int
  | 0 => 0
  | j + 1 => ptRow0 add j + add.getD j 0
def ptStep (prev : Nat → Int) (d : Int) (add crow : List Int) : Nat → Int
  | 0 => prev 0 + d
  | j + 1 =>
    if 0 ≤ crow.getD j 0 then min (min (prev (j + 1) + d) (ptStep prev d add crow j + add.getD j 0)) (prev j + crow.getD j 0)
    else min (prev (j + 1) + d) (ptStep prev d add crow j + add.getD j 0)
def pt (drop add : List Int) (cost : List (List Int)) : Nat → Nat → Int
  | 0 => ptRow0 add
  | i + 1 => ptStep (pt drop add cost i) (drop.getD i 0) add (cost.getD i [])

structure Prop17 (drop add : List Int) (cost : List (List Int)) : Prop where
  dl : drop.length ≤ 400
  al : add.length ≤ 400
  cl : cost.length = drop.length
  rl : ∀ i (h : i < cost.length), cost[i].length = add.length
  d : ∀ x ∈ drop, 0 ≤ x ∧ x ≤ 1048576
  a : ∀ x ∈ add, 0 ≤ x ∧ x ≤ 1048576
  c : ∀ i (h : i < cost.length), ∀ x ∈ cost[i], -1 ≤ x ∧ x ≤ 1048576

theorem withinB_iff (lo hi : Int) (l : List Int) : withinB lo hi l = true ↔ ∀ x ∈ l, lo ≤ x ∧ x ≤ hi := by
  unfold withinB
  rw [List.all_eq_true]
  simp

theorem properB_iff {drop add : List Int} {cost : List (List Int)} : properB drop add cost = true ↔ Prop17 drop add cost := by
  unfold properB
  simp only [Bool.and_eq_true, decide_eq_true_eq, withinB_iff]
  constructor
  · rintro ⟨⟨⟨⟨⟨h1, h2⟩, h3⟩, h4⟩, h5⟩, h6⟩
    unfold rowsB at h6
    rw [List.all_eq_true] at h6
    simp only [Bool.and_eq_true, decide_eq_true_eq, withinB_iff] at h6
    exact ⟨h1, h2, h3, fun i h => (h6 _ (List.getElem_mem h)).1, h4, h5, fun i h => (h6 _ (List.getElem_mem h)).2⟩
  · intro p
    refine ⟨⟨⟨⟨⟨p.dl, p.al⟩, p.cl⟩, p.d⟩, p.a⟩, ?_⟩
    unfold rowsB
    rw [List.all_eq_true]
    intro r hr
    obtain ⟨i, hi, rfl⟩ := List.mem_iff_getElem.1 hr
    simp only [Bool.and_eq_true, decide_eq_true_eq, withinB_iff]
    exact ⟨p.rl i hi, p.c i hi⟩

theorem getD_of_lt {α : Type} (l : List α) (i : Nat) (d : α) (h : i < l.length) : l.getD i d = l[i] := by simp [List.getD, h]

theorem getD_bd {l : List Int} (h : ∀ x ∈ l, 0 ≤ x ∧ x ≤ 1048576) (i : Nat) : 0 ≤ l.getD i 0 ∧ l.getD i 0 ≤ 1048576 := by
  rcases Nat.lt_or_ge i l.length with hi | hi
  · rw [getD_of_lt l i 0 hi]; exact h _ (List.getElem_mem hi)
  · simp [List.getD, List.getElem?_eq_none hi]

theorem pt_bd {drop add : List Int} {cost : List (List Int)} (p : Prop17 drop add cost) : ∀ (i j : Nat), 0 ≤ pt drop add cost i j ∧ pt drop add cost i j ≤ ((i + j : Nat) : Int) * 1048576
  | 0, j => by
    induction j with
    | zero => simp [pt, ptRow0]
    | succ j ih =>
      simp only [pt, ptRow0] at ih ⊢
      have := getD_bd p.a j
      omega
  | i + 1, j => by
    have hd := getD_bd p.d i
    induction j with
    | zero =>
      simp only [pt, ptStep]
      have := pt_bd p i 0
      omega
    | succ j ih =>
      have ha := getD_bd p.a j
      have h1 := pt_bd p i (j + 1)
      have h2 := pt_bd p i j
      simp only [pt, ptStep] at ih ⊢
      split
      · omega
      · omega

theorem pt_succ (drop add : List Int) (cost : List (List Int)) (i j : Nat) : pt drop add cost (i + 1) (j + 1) = if 0 ≤ (cost.getD i []).getD j 0 then min (min (pt drop add cost i (j + 1) + drop.getD i 0) (pt drop add cost (i + 1) j + add.getD j 0)) (pt drop add cost i j + (cost.getD i []).getD j 0)
    else min (pt drop add cost i (j + 1) + drop.getD i 0) (pt drop add cost (i + 1) j + add.getD j 0) := rfl

def potT (drop add : List Int) (cost : List (List Int)) : List (List Int) := (List.range (drop.length + 1)).map fun i => (List.range (add.length + 1)).map (pt drop add cost i)

def backP (drop add : List Int) (cost : List (List Int)) : Nat → Nat → Nat → List (Int × Int)
  | 0, _, _ => []
  | f + 1, i, j =>
    if 0 < i ∨ 0 < j then
      if 0 < i ∧ 0 < j ∧ 0 ≤ (cost.getD (i - 1) []).getD (j - 1) 0 ∧ pt drop add cost i j = pt drop add cost (i - 1) (j - 1) + (cost.getD (i - 1) []).getD (j - 1) 0 then
        (((i - 1 : Nat) : Int), ((j - 1 : Nat) : Int)) :: backP drop add cost f (i - 1) (j - 1)
      else if 0 < i ∧ pt drop add cost i j = pt drop add cost (i - 1) j + drop.getD (i - 1) 0 then backP drop add cost f (i - 1) j
      else backP drop add cost f i (j - 1)
    else []

theorem pt_col (drop add : List Int) (cost : List (List Int)) (i : Nat) : pt drop add cost (i + 1) 0 = pt drop add cost i 0 + drop.getD i 0 := rfl

theorem backP_fuel (drop add : List Int) (cost : List (List Int)) : ∀ (f g i j : Nat), i + j ≤ f → i + j ≤ g → backP drop add cost f i j = backP drop add cost g i j
  | 0, 0, i, j, _, _ => rfl
  | 0, g + 1, i, j, h1, _ => by rw [backP, backP, if_neg (by omega)]
  | f + 1, 0, i, j, _, h2 => by rw [backP, backP, if_neg (by omega)]
  | f + 1, g + 1, i, j, h1, h2 => by
    rw [backP, backP]
    by_cases hz : 0 < i ∨ 0 < j
    · rw [if_pos hz, if_pos hz]
      split
      · rw [backP_fuel drop add cost f g (i - 1) (j - 1) (by omega) (by omega)]
      · split
        · rw [backP_fuel drop add cost f g (i - 1) j (by omega) (by omega)]
        · rename_i h3
          have hj : 0 < j := by
            rcases Nat.eq_zero_or_pos j with rfl | hj
            · exfalso
              apply h3
              obtain ⟨k, rfl⟩ : ∃ k, i = k + 1 := ⟨i - 1, by omega⟩
              exact ⟨by omega, pt_col drop add cost k⟩
            · exact hj
          rw [backP_fuel drop add cost f g i (j - 1) (by omega) (by omega)]
    · rw [if_neg hz, if_neg hz]

theorem backP_len (drop add : List Int) (cost : List (List Int)) : ∀ (f i j : Nat), (backP drop add cost f i j).length ≤ f
  | 0, _, _ => by simp [backP]
  | f + 1, i, j => by
    rw [backP]
    split
    · split
      · have := backP_len drop add cost f (i - 1) (j - 1); simp; omega
      · split
        · have := backP_len drop add cost f (i - 1) j; omega
        · have := backP_len drop add cost f i (j - 1); omega
    · simp

theorem backP_mem (drop add : List Int) (cost : List (List Int)) : ∀ (f i j : Nat) (p : Int × Int), p ∈ backP drop add cost f i j → 0 ≤ p.1 ∧ p.1 < i ∧ 0 ≤ p.2 ∧ p.2 < j
  | 0, _, _, p, h => by simp [backP] at h
  | f + 1, i, j, p, h => by
    rw [backP] at h
    split at h
    · split at h
      · rename_i h1
        rcases List.mem_cons.1 h with rfl | h
        · simp only; omega
        · have := backP_mem drop add cost f (i - 1) (j - 1) p h; omega
      · split at h
        · have := backP_mem drop add cost f (i - 1) j p h; omega
        · have := backP_mem drop add cost f i (j - 1) p h; omega
    · simp at h

def alignP (drop add : List Int) (cost : List (List Int)) : AlignP :=
  { pairs := (backP drop add cost (drop.length + add.length) drop.length add.length).reverse, cost := pt drop add cost drop.length add.length, pot := potT drop add cost }

def rowTo (f : Nat → Int) (n j : Nat) : List Int := (List.range j).map f ++ List.replicate (n - j) 0
theorem rowTo_len (f : Nat → Int) (n j : Nat) (h : j ≤ n) : (rowTo f n j).length = n := by simp [rowTo]; omega
theorem rowTo_set (f : Nat → Int) (n j : Nat) (h : j < n) : (rowTo f n j).set j (f j) = rowTo f n (j + 1) := by
  unfold rowTo
  rw [List.set_append_right _ _ (by simp), List.length_map, List.length_range, Nat.sub_self, show n - j = (n - (j + 1)) + 1 by omega, List.replicate_succ, List.set_cons_zero, List.range_succ, List.map_append, List.append_assoc]
  rfl
theorem rowTo_set_map (f : Nat → Int) (n j : Nat) (h : j < n) : ((rowTo f n j).map (Value.int .i64)).set j (.int .i64 (f j)) = (rowTo f n (j + 1)).map (Value.int .i64) := by
  rw [← List.map_set, rowTo_set f n j h]
theorem rowTo_get (f : Nat → Int) (n j k : Nat) (h : k < j) : ((rowTo f n j).map (Value.int .i64))[k]? = some (.int .i64 (f k)) := by
  unfold rowTo
  rw [List.map_append, List.getElem?_append_left (by simp; omega)]
  simp [h]
theorem rowTo_at (f : Nat → Int) (n j : Nat) (h : j < n) : ((rowTo f n j).map (Value.int .i64))[j]? = some (.int .i64 0) := by
  unfold rowTo
  have h' : 0 < n - j := by omega
  rw [List.map_append, List.getElem?_append_right (by simp)]
  simp [h']
theorem rowTo_skip (f : Nat → Int) (n j : Nat) (h : j < n) (hz : f j = 0) : rowTo f n (j + 1) = rowTo f n j := by
  rw [← rowTo_set f n j h, hz]
  unfold rowTo
  rw [List.set_append_right _ _ (by simp), List.length_map, List.length_range, Nat.sub_self, show n - j = (n - (j + 1)) + 1 by omega, List.replicate_succ, List.set_cons_zero]
theorem rowTo_full (f : Nat → Int) (n : Nat) : rowTo f n n = (List.range n).map f := by simp [rowTo]
theorem madeCells1 (z : Value) (n : Nat) : (madeCells #[z] (n * 1)).toList = List.replicate n z := by
  apply List.ext_getElem?
  intro i
  rw [Nat.mul_one]
  by_cases h : i < n
  · simp [madeCells, h, Nat.mod_one]
  · simp [madeCells, h]
end Go.Proofs.Ytfifbadepebpeaa
