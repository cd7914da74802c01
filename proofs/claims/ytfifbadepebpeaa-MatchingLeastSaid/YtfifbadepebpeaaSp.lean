/- Sorted lists of pairs. -/
import Derived.Test.YtfifbadepebpeaaSrt
namespace Go.Proofs.Ytfifbadepebpeaa

def ltP (p q : Int × Int) : Prop := p.1 < q.1 ∨ p.1 = q.1 ∧ p.2 < q.2
instance (p q : Int × Int) : Decidable (ltP p q) := by unfold ltP; infer_instance
theorem ltP_asymm {p q : Int × Int} (h : ltP p q) : ¬ ltP q p := by unfold ltP at *; omega
theorem ltP_trans {p q r : Int × Int} (h : ltP p q) (k : ltP q r) : ltP p r := by unfold ltP at *; omega
theorem ltP_irrefl (p : Int × Int) : ¬ ltP p p := by unfold ltP; omega
theorem ltP_tri {p q : Int × Int} (h : p ≠ q) : ltP p q ∨ ltP q p := by
  unfold ltP
  have : p.1 ≠ q.1 ∨ p.2 ≠ q.2 := by
    rcases Decidable.em (p.1 = q.1) with h1 | h1
    · exact .inr fun h2 => h (Prod.ext h1 h2)
    · exact .inl h1
  omega

theorem perm_sorted_eq : ∀ {l m : List (Int × Int)}, l.Perm m → l.Pairwise ltP → m.Pairwise ltP → l = m
  | [], m, h, _, _ => by rw [List.nil_perm.1 h]
  | a :: l, [], h, _, _ => by have := h.length_eq; simp at this
  | a :: l, b :: m, h, hl, hm => by
    have e : a = b := by
      have h1 : a ∈ b :: m := h.mem_iff.1 (by simp)
      have h2 : b ∈ a :: l := h.mem_iff.2 (by simp)
      rcases List.mem_cons.1 h1 with h1 | h1
      · exact h1
      · rcases List.mem_cons.1 h2 with h2 | h2
        · exact h2.symm
        · exact absurd ((List.pairwise_cons.1 hl).1 b h2) (ltP_asymm ((List.pairwise_cons.1 hm).1 a h1))
    subst e
    rw [perm_sorted_eq (List.Perm.cons_inv h) (List.pairwise_cons.1 hl).2 (List.pairwise_cons.1 hm).2]

theorem sortP_sorted {l : List (Int × Int)} (hn : l.Nodup) : (sortP l).Pairwise ltP := by
  have hp : (sortP l).Perm l := List.mergeSort_perm l _
  have hnd : (sortP l).Nodup := hp.nodup_iff.2 hn
  have hs : (sortP l).Pairwise fun x y => (!decide (orderP y x < 0)) = true := List.pairwise_mergeSort (fun a b c h1 h2 => by
    simp only [Bool.not_eq_true', decide_eq_false_iff_not, orderP_lt] at *
    omega) (fun a b => by
    simp only [Bool.or_eq_true, Bool.not_eq_true', decide_eq_false_iff_not, orderP_lt]
    omega) l
  refine (hs.and hnd).imp ?_
  rintro a b ⟨h1, h2⟩
  simp only [Bool.not_eq_true', decide_eq_false_iff_not, orderP_lt] at h1
  rcases ltP_tri h2 with h3 | h3
  · exact h3
  · exact absurd h3 h1

theorem sortP_eq {l m : List (Int × Int)} (h : l.Perm m) (hm : m.Pairwise ltP) : sortP l = m := by
  have hn : m.Nodup := hm.imp fun {a b} hab e => by subst e; exact ltP_irrefl _ hab
  exact perm_sorted_eq ((List.mergeSort_perm l _).trans h) (sortP_sorted (h.nodup_iff.2 hn)) hm
end Go.Proofs.Ytfifbadepebpeaa
