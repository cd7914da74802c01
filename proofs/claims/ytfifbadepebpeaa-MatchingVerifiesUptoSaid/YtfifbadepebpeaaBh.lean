/- Sorting pairs; reversing pairs. -/
import Derived.Test.YtfifbadepebpeaaBg
import Derived.Test.YtfifbadepebpeaaBa
import Derived.Test.YtfifbadepebpeaaSh
namespace Go.Proofs.Ytfifbadepebpeaa
open Go.RowKit Go.Sort

def sortP (l : List (Int × Int)) : List (Int × Int) := l.mergeSort fun x y => !decide (orderP y x < 0)

theorem orderP_lt (p q : Int × Int) : orderP p q < 0 ↔ p.1 < q.1 ∨ p.1 = q.1 ∧ p.2 < q.2 := by
  unfold orderP orP cmpP
  by_cases h1 : p.1 < q.1
  · simp [h1]
  · by_cases h2 : q.1 < p.1
    · simp [h1, h2]; omega
    · have h3 : p.1 = q.1 := by omega
      simp only [h3, Int.lt_irrefl, if_false, if_true, orP, false_or, true_and]
      by_cases h4 : p.2 < q.2
      · simp [h4]
      · by_cases h5 : q.2 < p.2
        · simp [h4, h5]
        · simp [h4, h5]

theorem order_swo : SWO (ltOf orderP) where
  irrefl x := by unfold ltOf; rw [decide_eq_false_iff_not, orderP_lt]; omega
  trans x y z h1 h2 := by unfold ltOf at *; rw [decide_eq_true_eq, orderP_lt] at *; omega
  ntrans x y z h1 h2 := by unfold ltOf at *; rw [decide_eq_false_iff_not, orderP_lt] at *; omega

theorem order_tot (x y : Int × Int) (h1 : ltOf orderP x y = false) (h2 : ltOf orderP y x = false) : x = y := by
  unfold ltOf at *
  rw [decide_eq_false_iff_not, orderP_lt] at *
  exact Prod.ext (by omega) (by omega)

theorem flatK_encP (l : List (Int × Int)) : (flatK encP 2 l.toArray).toList = l.flatMap encP := by
  apply List.ext_getElem?
  intro t
  have hlen := encP_len l
  rcases Nat.lt_or_ge t (l.length * 2) with ht | ht
  · obtain ⟨i, hti⟩ : ∃ i, t = i * 2 ∨ t = i * 2 + 1 := ⟨t / 2, by omega⟩
    have hi : i < l.length := by omega
    obtain ⟨e0, e1⟩ := encP_at l i hi
    rcases hti with rfl | rfl
    · rw [e0]
      have q1 : i * 2 / 2 = i := by omega
      simp [flatK, ht, q1, hi, encP]
    · rw [e1]
      have q1 : (i * 2 + 1) / 2 = i := by omega
      have q2 : (i * 2 + 1) % 2 = 1 := by omega
      simp [flatK, ht, q1, q2, hi, encP]
  · rw [List.getElem?_eq_none (by simpa using ht), List.getElem?_eq_none (by omega)]

theorem own_put {w : World} {h : Hp} {B : Nat} {T : TypeId} {g cap : Nat} {l l' : List (Int × Int)} (own : Ow w h B T 2 (.slice (some ⟨g, 0, none⟩) l.length cap) l.length (l.flatMap encP)) (hl : l'.length = l.length) (m : Nat) (os : Array Obj) :
    w.grownBy (grow (putRowK encP 2 (Sort.ahead w m) g 0 l'.toArray) os) (some g) ∧ Ow (grow (putRowK encP 2 (Sort.ahead w m) g 0 l'.toArray) os) h B T 2 (.slice (some ⟨g, 0, none⟩) l.length cap) l.length (l'.flatMap encP) := by
  have hfr := own.free
  have hlt := (own.lt g rfl).2
  rcases own.row with ⟨h1, ⟨hv, _⟩ | ⟨g', cap', cur, hv, hb, hh, hnc, hcm, hcs, htake⟩⟩
  · simp at hv
  simp only [Value.slice.injEq, Option.some.injEq, Addr.mk.injEq, and_true, true_and] at hv
  obtain ⟨rfl, rfl⟩ := hv
  have hheap : (grow (putRowK encP 2 (Sort.ahead w m) g 0 l'.toArray) os).heap = w.heap.modify g (onCells (putCells id 0 (flatK encP 2 l'.toArray))) ++ os := rfl
  have hg : (grow (putRowK encP 2 (Sort.ahead w m) g 0 l'.toArray) os).heap[g]? = some (.cells (putCells id 0 (flatK encP 2 l'.toArray) cur) T (0, 0)) := by
    rw [hheap, Array.getElem?_append_left (by simpa using hlt), Array.getElem?_modify, if_pos rfl, hh]; rfl
  refine ⟨⟨rfl, rfl, rfl, by rw [hheap]; simp, fun k hk hne => ?_⟩, ⟨⟨by rw [encP_len, hl], .inr ⟨g, cap, _, rfl, hb, hg, hnc, hcm, by simpa [putCells] using hcs, ?_⟩⟩, hfr⟩⟩
  · rw [hheap, Array.getElem?_append_left (by simpa using hk), Array.getElem?_modify, if_neg (fun e => hne (by rw [e]))]
  · rw [← flatK_encP]
    apply List.ext_getElem?
    intro t
    have hle : l.length * 2 ≤ cur.size := by rw [hcs]; exact Nat.mul_le_mul_right _ hnc
    rw [List.getElem?_take]
    by_cases ht : t < l.length * 2
    · rw [if_pos ht]
      have h2 : t < (flatK encP 2 l'.toArray).size := by simpa [hl] using ht
      have h3 : t < cur.size := by omega
      rw [Array.getElem?_toList, Array.getElem?_toList, Array.getElem?_eq_getElem h2]
      simp [putCells, h3, hl, ht]
    · rw [if_neg ht, List.getElem?_eq_none (by simpa [hl] using Nat.le_of_not_lt ht)]

theorem order_lays (blk off size : Nat) (w : World) : CmpLays Try.prog 52 #[] encP 2 orderP blk off size w :=
  fun _ _ _ _ x y => order_any _ x y

theorem sort_any (h : Hp) (w : World) (hi : Imm h w) (B : Nat) (v : Value) (l : List (Int × Int)) (hl : l.length ≤ 70368744177664) (own : Ow w h B 52 2 v l.length (l.flatMap encP)) :
    Calls Try.prog 51 #[v, .func (.func 52) #[] #[]] w fun e w' => e = .returned (.tuple #[]) ∧ w.grownBy w' v.ownBlock ∧ Ow w' h B 52 2 v l.length ((sortP l).flatMap encP) := by
  obtain ⟨a, cap, rfl⟩ := own.shape
  rcases Nat.eq_zero_or_pos l.length with h0 | h0
  · have hnil : l = [] := List.length_eq_zero_iff.1 h0
    subst hnil
    have := AnyF.slices_SortFunc_none (P := Try.prog) { Try.sortL with } a cap (.func (.func 52) #[] #[]) w
    refine Calls.mono this ?_
    rintro e w' ⟨rfl, rfl⟩
    exact ⟨rfl, World.grownBy.refl _ _, by simpa [sortP] using own⟩
  · obtain ⟨g, rfl, h1, h2, h3, h4, h5⟩ := own.cell h0
    have hH : HoldsK encP 2 w g 0 l.toArray := by
      intro j hj
      have hj' : j < (l.flatMap encP).length := by rw [encP_len]; simpa using hj
      have e : (flatK encP 2 l.toArray)[j]! = (l.flatMap encP)[j] := by
        have := congrArg (fun z => z[j]?) (flatK_encP l)
        simp only [List.getElem?_eq_getElem hj'] at this
        rw [getElem!_def]
        rw [Array.getElem?_toList] at this
        rw [this]
      refine ⟨?_, h5 _⟩
      rw [Nat.zero_add, e]
      exact h4 j _ (List.getElem?_eq_getElem hj')
    have := AnyQ.slices_SortFunc_total (P := Try.prog) Try.sortL 2 (fun _ => by kernel_rfl) (fun _ => by kernel_rfl) encP (fun _ => rfl) (fun x => one_cells _ rfl) orderP order_swo 52 #[] g 0 cap l.toArray w
      (enters_of Try.func52 (by kernel_rfl) rfl) (order_lays _ _ _ _) hH h2 (by simp; omega) order_tot
    change Calls Try.prog 51 _ _ _ at this
    simp only [List.size_toArray] at this
    refine Calls.mono this ?_
    rintro e w' ⟨rfl, n, os, rfl⟩
    refine ⟨rfl, ?_⟩
    exact own_put own (List.length_mergeSort _) n os

theorem holdsK_own {w : World} {h : Hp} {B : Nat} {T : TypeId} {g cap : Nat} {l : List (Int × Int)} (own : Ow w h B T 2 (.slice (some ⟨g, 0, none⟩) l.length cap) l.length (l.flatMap encP)) (h0 : 0 < l.length) : HoldsK encP 2 w g 0 l.toArray := by
  obtain ⟨g', hg, h1, h2, h3, h4, h5⟩ := own.cell h0
  obtain rfl : g = g' := by simpa using hg
  intro j hj
  have hj' : j < (l.flatMap encP).length := by rw [encP_len]; simpa using hj
  have e : (flatK encP 2 l.toArray)[j]! = (l.flatMap encP)[j] := by
    have := congrArg (fun z => z[j]?) (flatK_encP l)
    simp only [List.getElem?_eq_getElem hj'] at this
    rw [getElem!_def]
    rw [Array.getElem?_toList] at this
    rw [this]
  refine ⟨?_, h5 _⟩
  rw [Nat.zero_add, e]
  exact h4 j _ (List.getElem?_eq_getElem hj')

theorem rev_any (h : Hp) (w : World) (hi : Imm h w) (B : Nat) (v : Value) (l : List (Int × Int)) (hl : l.length ≤ 70368744177664) (own : Ow w h B 52 2 v l.length (l.flatMap encP)) :
    Calls Try.prog 70 #[v] w fun e w' => e = .returned (.tuple #[]) ∧ w.grownBy w' v.ownBlock ∧ Ow w' h B 52 2 v l.length (l.reverse.flatMap encP) := by
  obtain ⟨a, cap, rfl⟩ := own.shape
  rcases Nat.eq_zero_or_pos l.length with h0 | h0
  · have hnil : l = [] := List.length_eq_zero_iff.1 h0
    subst hnil
    have := AnyQ.slices_Reverse_empty (P := Try.prog) Try.revL a cap w
    refine Calls.mono this ?_
    rintro e w' ⟨rfl, rfl⟩
    exact ⟨rfl, World.grownBy.refl _ _, by simpa using own⟩
  · obtain ⟨g, rfl, -⟩ := own.cell h0
    have := AnyQ.slices_Reverse (P := Try.prog) Try.revL 2 (fun _ => by kernel_rfl) (fun _ => by kernel_rfl) encP (fun _ => rfl) (fun x => one_cells _ rfl) g 0 cap l.toArray w (holdsK_own own h0) (by simp; omega)
    change Calls Try.prog 70 _ _ _ at this
    simp only [List.size_toArray] at this
    refine Calls.mono this ?_
    rintro e w' ⟨rfl, n, rfl⟩
    refine ⟨rfl, ?_⟩
    have := own_put own (l' := l.reverse) (by simp) n #[]
    rw [grow_empty] at this
    simp only [List.reverse_toArray]
    exact this
end Go.Proofs.Ytfifbadepebpeaa

/- Sorted lists of pairs. -/
namespace Go.Proofs.Ytfifbadepebpeaa

def ltP (p q : Int × Int) : Prop := p.1 < q.1 ∨ p.1 = q.1 ∧ p.2 < q.2
instance (p q : Int × Int) : Decidable (ltP p q) := by unfold ltP; infer_instance
theorem ltP_asymm {p q : Int × Int} (h : ltP p q) : ¬ ltP q p := by unfold ltP at *; omega
theorem ltP_trans {p q r : Int × Int} (h : ltP p q) (k : ltP q r) : ltP p r := by unfold ltP at *; omega
theorem ltP_irrefl (p : Int × Int) : ¬ ltP p p := by unfold ltP; omega
theorem ltP_tri {p q : Int × Int} (h : p ≠ q) : ltP p q ∨ ltP q p := by
  unfold ltP
  have : p.1 ≠ q.1 ∨ p.2 ≠ q.2 := by
    rcases Decidable.em (p.1 = q.1) with h1 | h1
    · exact .inr fun h2 => h (Prod.ext h1 h2)
    · exact .inl h1
  omega

theorem perm_sorted_eq : ∀ {l m : List (Int × Int)}, l.Perm m → l.Pairwise ltP → m.Pairwise ltP → l = m
  | [], m, h, _, _ => by rw [List.nil_perm.1 h]
  | a :: l, [], h, _, _ => by have := h.length_eq; simp at this
  | a :: l, b :: m, h, hl, hm => by
    have e : a = b := by
      have h1 : a ∈ b :: m := h.mem_iff.1 (by simp)
      have h2 : b ∈ a :: l := h.mem_iff.2 (by simp)
      rcases List.mem_cons.1 h1 with h1 | h1
      · exact h1
      · rcases List.mem_cons.1 h2 with h2 | h2
        · exact h2.symm
        · exact absurd ((List.pairwise_cons.1 hl).1 b h2) (ltP_asymm ((List.pairwise_cons.1 hm).1 a h1))
    subst e
    rw [perm_sorted_eq (List.Perm.cons_inv h) (List.pairwise_cons.1 hl).2 (List.pairwise_cons.1 hm).2]

theorem sortP_sorted {l : List (Int × Int)} (hn : l.Nodup) : (sortP l).Pairwise ltP := by
  have hp : (sortP l).Perm l := List.mergeSort_perm l _
  have hnd : (sortP l).Nodup := hp.nodup_iff.2 hn
  have hs : (sortP l).Pairwise fun x y => (!decide (orderP y x < 0)) = true := List.pairwise_mergeSort (fun a b c h1 h2 => by
    simp only [Bool.not_eq_true', decide_eq_false_iff_not, orderP_lt] at *
    omega) (fun a b => by
    simp only [Bool.or_eq_true, Bool.not_eq_true', decide_eq_false_iff_not, orderP_lt]
    omega) l
  refine (hs.and hnd).imp ?_
  rintro a b ⟨h1, h2⟩
  simp only [Bool.not_eq_true', decide_eq_false_iff_not, orderP_lt] at h1
  rcases ltP_tri h2 with h3 | h3
  · exact h3
  · exact absurd h3 h1

theorem sortP_eq {l m : List (Int × Int)} (h : l.Perm m) (hm : m.Pairwise ltP) : sortP l = m := by
  have hn : m.Nodup := hm.imp fun {a b} hab e => by subst e; exact ltP_irrefl _ hab
  exact perm_sorted_eq ((List.mergeSort_perm l _).trans h) (sortP_sorted (h.nodup_iff.2 hn)) hm
end Go.Proofs.Ytfifbadepebpeaa
