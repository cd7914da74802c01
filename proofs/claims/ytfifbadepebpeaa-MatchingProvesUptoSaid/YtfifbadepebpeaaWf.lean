/- Flat trees are well formed: the kids of a node are the nodes whose parent it is. -/
import Derived.Test.YtfifbadepebpeaaFlat
namespace Go.Proofs.Ytfifbadepebpeaa

structure FW (x : List NodeP) (n : Nat) (roots : List Int) (P : Int) : Prop where
  kid : ∀ (i : Nat) (nd : NodeP) (c : Int), x[i]? = some nd → c ∈ nd.kids → ∃ (m : Nat) (md : NodeP), x[m]? = some md ∧ c = ((n + m : Nat) : Int) ∧ i < m ∧ md.parent = ((n + i : Nat) : Int)
  par : ∀ (i : Nat) (nd : NodeP), x[i]? = some nd → (nd.parent = P ∧ ((n + i : Nat) : Int) ∈ roots) ∨ ∃ (j : Nat) (jd : NodeP), x[j]? = some jd ∧ j < i ∧ nd.parent = ((n + j : Nat) : Int) ∧ ((n + i : Nat) : Int) ∈ jd.kids
  asc : ∀ (i : Nat) (nd : NodeP), x[i]? = some nd → nd.kids.Pairwise (· < ·)
  root : ∀ r ∈ roots, ∃ (m : Nat) (md : NodeP), x[m]? = some md ∧ r = ((n + m : Nat) : Int) ∧ md.parent = P
  sz : ∀ (i : Nat) (nd : NodeP), x[i]? = some nd → nd.size = 1 + (nd.kids.map fun c : Int => (x.getD (c - (n : Int)).toNat default).size).sum
  rsz : (roots.map fun c : Int => (x.getD (c - (n : Int)).toNat default).size).sum = (x.length : Int)

theorem getD_left {x y : List NodeP} {n m : Nat} (h : m < x.length) : (x ++ y).getD (((n + m : Nat) : Int) - n).toNat default = x.getD (((n + m : Nat) : Int) - n).toNat default := by
  have e : (((n + m : Nat) : Int) - n).toNat = m := by omega
  rw [e, List.getD_eq_getElem?_getD, List.getD_eq_getElem?_getD, List.getElem?_append_left h]
theorem getD_right {x y : List NodeP} {n m : Nat} : (x ++ y).getD (((n + x.length + m : Nat) : Int) - n).toNat default = y.getD (((n + x.length + m : Nat) : Int) - ((n + x.length : Nat) : Int)).toNat default := by
  have e1 : (((n + x.length + m : Nat) : Int) - n).toNat = x.length + m := by omega
  have e2 : (((n + x.length + m : Nat) : Int) - ((n + x.length : Nat) : Int)).toNat = m := by omega
  rw [e1, e2, List.getD_eq_getElem?_getD, List.getD_eq_getElem?_getD, List.getElem?_append_right (by omega)]
  congr 2
  omega

theorem lt_of_some {x : List NodeP} {m : Nat} {md : NodeP} (h : x[m]? = some md) : m < x.length := by
  rcases Nat.lt_or_ge m x.length with hl | hl
  · exact hl
  · rw [List.getElem?_eq_none hl] at h; cases h

theorem FW.append {x y : List NodeP} {n : Nat} {r s : List Int} {P : Int} (a : FW x n r P) (b : FW y (n + x.length) s P) : FW (x ++ y) n (r ++ s) P := by
  have key : ∀ (i : Nat) (nd : NodeP), (x ++ y)[i]? = some nd → (x[i]? = some nd ∧ i < x.length) ∨ (∃ k : Nat, i = x.length + k ∧ y[k]? = some nd) := by
    intro i nd h
    rcases Nat.lt_or_ge i x.length with hi | hi
    · rw [List.getElem?_append_left hi] at h; exact .inl ⟨h, hi⟩
    · rw [List.getElem?_append_right hi] at h; exact .inr ⟨i - x.length, by omega, h⟩
  have left : ∀ (i : Nat) (nd : NodeP), x[i]? = some nd → (x ++ y)[i]? = some nd := fun i nd h => by
    have hi : i < x.length := by
      rcases Nat.lt_or_ge i x.length with hi | hi
      · exact hi
      · rw [List.getElem?_eq_none hi] at h; cases h
    rw [List.getElem?_append_left hi]; exact h
  have right : ∀ (i : Nat) (nd : NodeP), y[i]? = some nd → (x ++ y)[x.length + i]? = some nd := fun i nd h => by
    rw [List.getElem?_append_right (by omega), show x.length + i - x.length = i by omega]; exact h
  refine ⟨?_, ?_, ?_, ?_, ?_, ?_⟩
  · intro i nd c h hc
    rcases key i nd h with ⟨h, _⟩ | ⟨k, rfl, h'⟩
    · obtain ⟨m, md, h1, h2, h3, h4⟩ := a.kid i nd c h hc
      exact ⟨m, md, left m md h1, h2, h3, h4⟩
    · obtain ⟨m, md, h1, h2, h3, h4⟩ := b.kid k nd c h' hc
      exact ⟨x.length + m, md, right m md h1, by rw [h2]; simp only [Nat.add_assoc], by omega, by rw [h4]; simp only [Nat.add_assoc]⟩
  · intro i nd h
    rcases key i nd h with ⟨h, _⟩ | ⟨k, rfl, h'⟩
    · rcases a.par i nd h with ⟨h1, h2⟩ | ⟨j, jd, h1, h2, h3, h4⟩
      · exact .inl ⟨h1, List.mem_append_left _ h2⟩
      · exact .inr ⟨j, jd, left j jd h1, h2, h3, h4⟩
    · rcases b.par k nd h' with ⟨h1, h2⟩ | ⟨j, jd, h1, h2, h3, h4⟩
      · exact .inl ⟨h1, List.mem_append_right _ (by simpa only [Nat.add_assoc] using h2)⟩
      · exact .inr ⟨x.length + j, jd, right j jd h1, by omega, by rw [h3]; simp only [Nat.add_assoc], by simpa only [Nat.add_assoc] using h4⟩
  · intro i nd h
    rcases key i nd h with ⟨h, _⟩ | ⟨k, rfl, h'⟩
    · exact a.asc i nd h
    · exact b.asc k nd h'
  · intro q hq
    rcases List.mem_append.1 hq with hq | hq
    · obtain ⟨m, md, h1, h2, h3⟩ := a.root q hq
      exact ⟨m, md, left m md h1, h2, h3⟩
    · obtain ⟨m, md, h1, h2, h3⟩ := b.root q hq
      exact ⟨x.length + m, md, right m md h1, by rw [h2]; simp only [Nat.add_assoc], h3⟩
  · intro i nd h
    rcases key i nd h with ⟨h, _⟩ | ⟨k, rfl, h'⟩
    · rw [a.sz i nd h]
      congr 2
      apply List.map_congr_left
      intro c hc
      obtain ⟨m, md, h1, rfl, _⟩ := a.kid i nd c h hc
      rw [getD_left (lt_of_some h1)]
    · rw [b.sz k nd h']
      congr 2
      apply List.map_congr_left
      intro c hc
      obtain ⟨m, md, h1, rfl, _⟩ := b.kid k nd c h' hc
      rw [getD_right]
  · rw [List.map_append, List.sum_append]
    have e1 : (r.map fun c : Int => ((x ++ y).getD (c - (n : Int)).toNat default).size) = r.map fun c : Int => (x.getD (c - (n : Int)).toNat default).size := by
      apply List.map_congr_left
      intro c hc
      obtain ⟨m, md, h1, rfl, _⟩ := a.root c hc
      rw [getD_left (lt_of_some h1)]
    have e2 : (s.map fun c : Int => ((x ++ y).getD (c - (n : Int)).toNat default).size) = s.map fun c => (y.getD (c - ((n + x.length : Nat) : Int)).toNat default).size := by
      apply List.map_congr_left
      intro c hc
      obtain ⟨m, md, h1, rfl, _⟩ := b.root c hc
      rw [getD_right]
    rw [e1, e2, a.rsz, b.rsz, List.length_append]
    omega

theorem FW.cons {x : List NodeP} {n : Nat} {P : Int} (r : NodeP) (a : FW x (n + 1) r.kids (n : Int)) (hp : r.parent = P) (hasc : r.kids.Pairwise (· < ·)) (hs : r.size = (x.length : Int) + 1) : FW (r :: x) n [(n : Int)] P := by
  have sh : ∀ m : Nat, (r :: x).getD (((n + 1 + m : Nat) : Int) - n).toNat default = x.getD (((n + 1 + m : Nat) : Int) - ((n + 1 : Nat) : Int)).toNat default := fun m => by
    have e1 : (((n + 1 + m : Nat) : Int) - n).toNat = m + 1 := by omega
    have e2 : (((n + 1 + m : Nat) : Int) - ((n + 1 : Nat) : Int)).toNat = m := by omega
    rw [e1, e2]; rfl
  refine ⟨?_, ?_, ?_, ?_, ?_, ?_⟩
  · intro i nd c h hc
    cases i with
    | zero =>
      simp only [List.getElem?_cons_zero, Option.some.injEq] at h
      subst h
      obtain ⟨m, md, h1, h2, h3⟩ := a.root c hc
      exact ⟨m + 1, md, by simpa using h1, by rw [h2]; omega, by omega, by rw [h3]; simp⟩
    | succ i =>
      obtain ⟨m, md, h1, h2, h3, h4⟩ := a.kid i nd c (by simpa using h) hc
      exact ⟨m + 1, md, by simpa using h1, by rw [h2]; omega, by omega, by rw [h4]; omega⟩
  · intro i nd h
    cases i with
    | zero =>
      simp only [List.getElem?_cons_zero, Option.some.injEq] at h
      subst h
      exact .inl ⟨hp, by simp⟩
    | succ i =>
      right
      rcases a.par i nd (by simpa using h) with ⟨h1, h2⟩ | ⟨j, jd, h1, h2, h3, h4⟩
      · exact ⟨0, r, rfl, by omega, by rw [h1]; simp, by rw [show n + (i + 1) = n + 1 + i by omega]; exact h2⟩
      · exact ⟨j + 1, jd, by simpa using h1, by omega, by rw [h3]; omega, by rw [show n + (i + 1) = n + 1 + i by omega]; exact h4⟩
  · intro i nd h
    cases i with
    | zero =>
      simp only [List.getElem?_cons_zero, Option.some.injEq] at h
      subst h; exact hasc
    | succ i => exact a.asc i nd (by simpa using h)
  · intro q hq
    simp only [List.mem_singleton] at hq
    exact ⟨0, r, rfl, by rw [hq]; simp, hp⟩
  · intro i nd h
    cases i with
    | zero =>
      simp only [List.getElem?_cons_zero, Option.some.injEq] at h
      subst h
      have e : (r.kids.map fun c : Int => ((r :: x).getD (c - (n : Int)).toNat default).size) = r.kids.map fun c => (x.getD (c - ((n + 1 : Nat) : Int)).toNat default).size := by
        apply List.map_congr_left
        intro c hc
        obtain ⟨m, md, h1, rfl, _⟩ := a.root c hc
        rw [sh]
      rw [e, a.rsz, hs]
      omega
    | succ i =>
      have h' : x[i]? = some nd := by simpa using h
      rw [a.sz i nd h']
      congr 2
      apply List.map_congr_left
      intro c hc
      obtain ⟨m, md, h1, rfl, _⟩ := a.kid i nd c h' hc
      rw [sh]
  · simp [hs]

theorem kidNums_asc (ts : List Tree) (n : Nat) : (kidNums ts n).Pairwise (· < ·) := by
  induction ts generalizing n with
  | nil => simp [kidNums]
  | cons t ts ih =>
    simp only [kidNums, List.pairwise_cons]
    refine ⟨fun x hx => ?_, ih _⟩
    have := kidNums_mem ts _ x hx
    have hs : 0 < t.size := by have := t.size_eq; omega
    omega

mutual
theorem flatAt_fw : ∀ (t : Tree) (P : Int) (n : Nat), FW (flatAt t P n) n [(n : Int)] P
  | .node k s l ks, P, n => by
    rw [flatAt]
    exact FW.cons _ (flatKids_fw ks n (n + 1)) rfl (kidNums_asc _ _) (by rw [flatKids_length])
theorem flatKids_fw : ∀ (ts : List Tree) (p n : Nat), FW (flatKids ts p n) n (kidNums ts n) (p : Int)
  | [], p, n => by
    rw [flatKids, kidNums]
    exact ⟨fun i nd c h => by simp at h, fun i nd h => by simp at h, fun i nd h => by simp at h, fun r h => by simp at h, fun i nd h => by simp at h, by simp⟩
  | t :: ts, p, n => by
    rw [flatKids, kidNums]
    have h2 := flatKids_fw ts p (n + t.size)
    have := FW.append (flatAt_fw t (p : Int) n) (by rw [flatAt_length]; exact h2)
    simpa using this
end

/-- A flat tree. -/
structure WF (x : List NodeP) : Prop where
  pos : 0 < x.length
  root : ∀ (nd : NodeP), x[0]? = some nd → nd.parent = -1
  kid : ∀ (i : Nat) (nd : NodeP) (c : Int), x[i]? = some nd → c ∈ nd.kids → ∃ (m : Nat) (md : NodeP), x[m]? = some md ∧ c = (m : Int) ∧ i < m ∧ md.parent = (i : Int)
  par : ∀ (i : Nat) (nd : NodeP), x[i]? = some nd → 0 < i → ∃ (j : Nat) (jd : NodeP), x[j]? = some jd ∧ j < i ∧ nd.parent = (j : Int) ∧ (i : Int) ∈ jd.kids
  asc : ∀ (i : Nat) (nd : NodeP), x[i]? = some nd → nd.kids.Pairwise (· < ·)
  sz : ∀ (i : Nat) (nd : NodeP), x[i]? = some nd → nd.size = 1 + (nd.kids.map fun c => (x.getD c.toNat default).size).sum
  rsz : (x.getD 0 default).size = (x.length : Int)

theorem flatP_wf (t : Tree) : WF (flatP t) := by
  have f := flatAt_fw t (-1) 0
  have hpos : 0 < (flatP t).length := by rw [flatP_length]; have := t.size_eq; omega
  refine ⟨hpos, ?_, ?_, ?_, f.asc, fun i nd h => by have := f.sz i nd h; simpa [flatP] using this, by have := f.rsz; simpa [flatP] using this⟩
  · intro nd h
    rcases f.par 0 nd h with ⟨h1, _⟩ | ⟨j, _, _, h2, _⟩
    · exact h1
    · omega
  · intro i nd c h hc
    obtain ⟨m, md, h1, h2, h3, h4⟩ := f.kid i nd c h hc
    exact ⟨m, md, h1, by rw [h2]; simp, h3, by rw [h4]; simp⟩
  · intro i nd h hi
    rcases f.par i nd h with ⟨_, h2⟩ | ⟨j, jd, h1, h2, h3, h4⟩
    · simp at h2; omega
    · exact ⟨j, jd, h1, h2, by rw [h3]; simp, by simpa using h4⟩
end Go.Proofs.Ytfifbadepebpeaa
