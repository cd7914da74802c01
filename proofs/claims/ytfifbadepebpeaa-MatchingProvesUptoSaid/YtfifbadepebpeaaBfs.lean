/- The pairs that are reached from the roots, level by level. -/
import Derived.Test.YtfifbadepebpeaaWf
namespace Go.Proofs.Ytfifbadepebpeaa

theorem nodup_lt (n : Nat) : ∀ (l : List Nat), l.Nodup → (∀ a ∈ l, a < n) → l.length ≤ n := by
  induction n with
  | zero => intro l _ h; cases l with | nil => simp | cons a l => have := h a (by simp); omega
  | succ n ih =>
    intro l hn h
    by_cases hm : n ∈ l
    · have h1 := ih (l.erase n) (hn.erase n) (fun a ha => by
        have := (hn.mem_erase_iff).1 ha
        have := h a this.2
        omega)
      rw [List.length_erase_of_mem hm] at h1
      omega
    · have := ih l hn (fun a ha => by
        have := h a ha
        have : a ≠ n := fun e => hm (e ▸ ha)
        omega)
      omega

theorem nodup_flatMap' {α β : Type} {f : α → List β} : ∀ {l : List α}, (∀ a ∈ l, (f a).Nodup) → l.Pairwise (fun a b => ∀ q, q ∈ f a → q ∈ f b → False) → (l.flatMap f).Nodup
  | [], _, _ => by simp
  | a :: l, h1, h2 => by
    rw [List.pairwise_cons] at h2
    rw [List.flatMap_cons, List.nodup_append]
    refine ⟨h1 a (by simp), nodup_flatMap' (fun b hb => h1 b (by simp [hb])) h2.2, ?_⟩
    intro q hq r hr e
    subst e
    obtain ⟨b, hb, hqb⟩ := List.mem_flatMap.1 hr
    exact h2.1 b hb q hq hqb

def nd (x : List NodeP) (i : Int) : NodeP := x.getD i.toNat default
theorem nd_of {x : List NodeP} {m : Nat} {md : NodeP} (h : x[m]? = some md) : nd x (m : Int) = md := by simp [nd, h]
theorem nd_get {x : List NodeP} {i : Int} (h0 : 0 ≤ i) (h1 : i < x.length) : x[i.toNat]? = some (nd x i) := by
  have : i.toNat < x.length := by omega
  simp [nd, List.getElem?_eq_getElem this]

def InR (x y : List NodeP) (p : Int × Int) : Prop := 0 ≤ p.1 ∧ p.1 < x.length ∧ 0 ≤ p.2 ∧ p.2 < y.length

/-- The pairs below a pair. -/
structure KF (x y : List NodeP) (k : Int × Int → List (Int × Int)) : Prop where
  inr : ∀ p, InR x y p → ∀ q ∈ k p, InR x y q ∧ p.1 < q.1 ∧ (nd x q.1).parent = p.1 ∧ (nd y q.2).parent = p.2
  nodup : ∀ p, InR x y p → (k p).Nodup

structure Good (x y : List NodeP) (k : Int × Int → List (Int × Int)) (l : List (Int × Int)) (i : Nat) : Prop where
  nodup : l.Nodup
  inr : ∀ p ∈ l, InR x y p
  eq : l = (0, 0) :: (l.take i).flatMap k
  le : i ≤ l.length

theorem Good.len {x y : List NodeP} {k : Int × Int → List (Int × Int)} {l : List (Int × Int)} {i : Nat} (g : Good x y k l i) : l.length ≤ x.length * y.length := by
  have h := nodup_lt (x.length * y.length) (l.map fun p => p.1.toNat * y.length + p.2.toNat) ?_ ?_
  · simpa using h
  · rw [List.Nodup, List.pairwise_map]
    refine List.Pairwise.imp_of_mem ?_ g.nodup
    intro a b ha hb hne e
    have h1 := g.inr a ha
    have h2 := g.inr b hb
    apply hne
    have e1 : a.1.toNat = b.1.toNat := by
      have := congrArg (fun z => z / y.length) e
      rw [Nat.mul_comm a.1.toNat, Nat.mul_comm b.1.toNat, Nat.mul_add_div (by unfold InR at *; omega), Nat.mul_add_div (by unfold InR at *; omega), Nat.div_eq_of_lt (by unfold InR at *; omega), Nat.div_eq_of_lt (by unfold InR at *; omega)] at this
      omega
    have e2 : a.2.toNat = b.2.toNat := by rw [e1] at e; omega
    unfold InR at *
    exact Prod.ext (by omega) (by omega)
  · intro n hn
    obtain ⟨p, hp, rfl⟩ := List.mem_map.1 hn
    have h1 := g.inr p hp
    unfold InR at h1
    calc p.1.toNat * y.length + p.2.toNat < p.1.toNat * y.length + y.length := by omega
      _ = (p.1.toNat + 1) * y.length := by rw [Nat.add_mul]; omega
      _ ≤ x.length * y.length := Nat.mul_le_mul_right _ (by omega)

theorem good_start {x y : List NodeP} {k : Int × Int → List (Int × Int)} (hx : 0 < x.length) (hy : 0 < y.length) : Good x y k [(0, 0)] 0 :=
  ⟨by simp, fun p hp => by simp only [List.mem_singleton] at hp; subst hp; exact ⟨by simp, by simpa using hx, by simp, by simpa using hy⟩, by simp, by simp⟩

theorem good_step {x y : List NodeP} {k : Int × Int → List (Int × Int)} (K : KF x y k) {l : List (Int × Int)} {i : Nat} (g : Good x y k l i) (hi : i < l.length) : Good x y k (l ++ k l[i]) (i + 1) := by
  have hir := g.inr l[i] (by simp)
  refine ⟨?_, ?_, ?_, by simp; omega⟩
  · rw [List.nodup_append]
    refine ⟨g.nodup, K.nodup _ hir, ?_⟩
    intro a ha b hb e
    subst e
    obtain ⟨h1, h2, h3, h4⟩ := K.inr _ hir a hb
    rw [g.eq] at ha
    rcases List.mem_cons.1 ha with rfl | ha
    · unfold InR at hir; simp only at h2; omega
    · obtain ⟨p, hp, hap⟩ := List.mem_flatMap.1 ha
      obtain ⟨j, hj, hpj⟩ := List.mem_iff_getElem.1 hp
      rw [List.getElem_take] at hpj
      rw [List.length_take] at hj
      have hjl : j < l.length := by omega
      obtain ⟨h5, h6, h7, h8⟩ := K.inr p (g.inr p (by rw [← hpj]; simp)) a hap
      have : l[j] = l[i] := by rw [hpj]; exact Prod.ext (by rw [← h7, h3]) (by rw [← h8, h4])
      have := (List.getElem_inj g.nodup).1 this
      omega
  · intro p hp
    rcases List.mem_append.1 hp with hp | hp
    · exact g.inr p hp
    · exact (K.inr _ hir p hp).1
  · rw [List.take_append_of_le_length (by omega), List.take_add_one, List.getElem?_eq_getElem hi]
    simp only [Option.toList_some, List.flatMap_append, List.flatMap_cons, List.flatMap_nil, List.append_nil]
    rw [← List.cons_append, ← g.eq]

def bfs (k : Int × Int → List (Int × Int)) (budget : Nat) : Nat → List (Int × Int) → Nat → Option (List (Int × Int))
  | 0, _, _ => none
  | f + 1, l, i => if h : i < l.length then (if (l ++ k l[i]).length ≤ budget then bfs k budget f (l ++ k l[i]) (i + 1) else none) else some l

theorem bfs_go {k : Int × Int → List (Int × Int)} {budget f : Nat} {l : List (Int × Int)} {i : Nat} (h : i < l.length) (hb : (l ++ k l[i]).length ≤ budget) (hf : 0 < f) : bfs k budget f l i = bfs k budget (f - 1) (l ++ k l[i]) (i + 1) := by
  obtain ⟨f, rfl⟩ : ∃ g, f = g + 1 := ⟨f - 1, by omega⟩
  rw [bfs, dif_pos h, if_pos hb]; rfl
theorem bfs_stop {k : Int × Int → List (Int × Int)} {budget f : Nat} {l : List (Int × Int)} {i : Nat} (h : i < l.length) (hb : budget < (l ++ k l[i]).length) : bfs k budget f l i = none := by
  cases f with
  | zero => rfl
  | succ f => rw [bfs, dif_pos h, if_neg (by omega)]
theorem bfs_end {k : Int × Int → List (Int × Int)} {budget f : Nat} {l : List (Int × Int)} {i : Nat} (h : l.length ≤ i) (hf : 0 < f) : bfs k budget f l i = some l := by
  obtain ⟨f, rfl⟩ : ∃ g, f = g + 1 := ⟨f - 1, by omega⟩
  rw [bfs, dif_neg (by omega)]

/-- What is found: closed, without repetition; and if nothing, there are too many. -/
theorem bfs_spec {x y : List NodeP} {k : Int × Int → List (Int × Int)} (K : KF x y k) (budget : Nat) : ∀ (f : Nat) (l : List (Int × Int)) (i : Nat), Good x y k l i → l.length ≤ budget → budget < f + i →
    (∃ r, bfs k budget f l i = some r ∧ Good x y k r r.length ∧ r.length ≤ budget) ∨ (bfs k budget f l i = none ∧ ∃ r j, Good x y k r j ∧ budget < r.length)
  | 0, l, i, g, hl, hf => by have := g.le; omega
  | f + 1, l, i, g, hl, hf => by
    by_cases h : i < l.length
    · by_cases hb : (l ++ k l[i]).length ≤ budget
      · rw [bfs_go h hb (by omega)]
        exact bfs_spec K budget f _ _ (good_step K g h) hb (by omega)
      · exact .inr ⟨bfs_stop h (by omega), _, _, good_step K g h, by omega⟩
    · have hi : i = l.length := by have := g.le; omega
      subst hi
      exact .inl ⟨l, bfs_end (Nat.le_refl _) (by omega), g, hl⟩

/-- The compared pairs below a pair. -/
def kpC (x y : List NodeP) (c : Int) (ds : List Int) : List (Int × Int) := (ds.filter fun d => decide ((nd x c).kind = (nd y d).kind)).map fun d => (c, d)
def kp (x y : List NodeP) (p : Int × Int) : List (Int × Int) := (nd x p.1).kids.flatMap fun c => kpC x y c (nd y p.2).kids

theorem kid_inr {x : List NodeP} (hx : WF x) {i c : Int} (h0 : 0 ≤ i) (h1 : i < x.length) (hc : c ∈ (nd x i).kids) : 0 ≤ c ∧ c < x.length ∧ i < c ∧ (nd x c).parent = i := by
  obtain ⟨m, md, h2, rfl, h4, h5⟩ := hx.kid i.toNat (nd x i) c (nd_get h0 h1) hc
  have hm : m < x.length := by
    rcases Nat.lt_or_ge m x.length with h | h
    · exact h
    · rw [List.getElem?_eq_none h] at h2; cases h2
  refine ⟨by omega, by omega, by omega, ?_⟩
  rw [nd_of h2, h5]; omega

theorem kids_len {x : List NodeP} (hx : WF x) {i : Int} (h0 : 0 ≤ i) (h1 : i < x.length) : (nd x i).kids.length ≤ x.length := by
  have h := nodup_lt x.length ((nd x i).kids.map Int.toNat) ?_ ?_
  · simpa using h
  · rw [List.Nodup, List.pairwise_map]
    refine List.Pairwise.imp_of_mem ?_ (hx.asc i.toNat _ (nd_get h0 h1))
    intro a b ha hb hab e
    have := kid_inr hx h0 h1 ha
    have := kid_inr hx h0 h1 hb
    omega
  · intro n hn
    obtain ⟨c, hc, rfl⟩ := List.mem_map.1 hn
    have := kid_inr hx h0 h1 hc
    omega

theorem kp_kf {x y : List NodeP} (hx : WF x) (hy : WF y) : KF x y (kp x y) := by
  refine ⟨?_, ?_⟩
  · intro p hp q hq
    obtain ⟨c, hc, hq⟩ := List.mem_flatMap.1 hq
    obtain ⟨d, hd, rfl⟩ := List.mem_map.1 hq
    have hd := (List.mem_filter.1 hd).1
    obtain ⟨a1, a2, a3, a4⟩ := kid_inr hx hp.1 hp.2.1 hc
    obtain ⟨b1, b2, b3, b4⟩ := kid_inr hy hp.2.2.1 hp.2.2.2 hd
    exact ⟨⟨a1, a2, b1, b2⟩, a3, a4, b4⟩
  · intro p hp
    have ax := hx.asc p.1.toNat _ (nd_get hp.1 hp.2.1)
    have ay := hy.asc p.2.toNat _ (nd_get hp.2.2.1 hp.2.2.2)
    unfold kp
    refine nodup_flatMap' (fun c _ => ?_) ?_
    · unfold kpC
      rw [List.Nodup, List.pairwise_map]
      refine List.Pairwise.imp ?_ (List.Pairwise.filter _ ay)
      intro a b hab e
      simp only [Prod.mk.injEq, true_and] at e
      omega
    · refine List.Pairwise.imp ?_ ax
      intro a b hab q hq1 hq2
      simp only [kpC, List.mem_map, List.mem_filter] at hq1 hq2
      obtain ⟨d, _, rfl⟩ := hq1
      obtain ⟨d', _, e⟩ := hq2
      simp only [Prod.mk.injEq] at e
      omega
end Go.Proofs.Ytfifbadepebpeaa
