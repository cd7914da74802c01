/- Certificates in plain words: the cost of an alignment, its potentials; and that no alignment is cheaper. -/
import Derived.Test.YtfifbadepebpeaaDp
namespace Go.Proofs.Ytfifbadepebpeaa

def cg (cost : List (List Int)) (i j : Nat) : Int := (cost.getD i []).getD j 0

/-- A pair may follow another one. -/
def scOk (drop add : List Int) (cost : List (List Int)) (last p : Int × Int) : Prop := last.1 < p.1 ∧ last.2 < p.2 ∧ p.1 < drop.length ∧ p.2 < add.length ∧ 0 ≤ cg cost p.1.toNat p.2.toNat
instance (drop add : List Int) (cost : List (List Int)) (last p : Int × Int) : Decidable (scOk drop add cost last p) := by unfold scOk; infer_instance
def scGo (drop add : List Int) (cost : List (List Int)) : Int × Int → List (Int × Int) → Int → Option Int
  | _, [], s => some s
  | last, p :: ps, s => if scOk drop add cost last p then scGo drop add cost p ps (s + (cg cost p.1.toNat p.2.toNat - drop.getD p.1.toNat 0 - add.getD p.2.toNat 0)) else none
def scostP (drop add : List Int) (cost : List (List Int)) (pairs : List (Int × Int)) : Option Int := if properB drop add cost = true then scGo drop add cost (-1, -1) pairs (drop.sum + add.sum) else none

/-- The potentials are those of a way of this length. -/
def edgeP (drop add : List Int) (cost : List (List Int)) (pot : List (List Int)) (i j : Nat) : Prop :=
  (i < drop.length → cg pot (i + 1) j ≤ cg pot i j + drop.getD i 0) ∧ (j < add.length → cg pot i (j + 1) ≤ cg pot i j + add.getD j 0) ∧
    (i < drop.length → j < add.length → 0 ≤ cg cost i j → cg pot (i + 1) (j + 1) ≤ cg pot i j + cg cost i j)
instance (drop add : List Int) (cost pot : List (List Int)) (i j : Nat) : Decidable (edgeP drop add cost pot i j) := by unfold edgeP; infer_instance
def rowOk (n : Nat) (r : List Int) : Prop := r.length = n ∧ withinB 0 1099511627776 r = true
instance (n : Nat) (r : List Int) : Decidable (rowOk n r) := by unfold rowOk; infer_instance
def SVer (drop add : List Int) (cost : List (List Int)) (x : AlignP) : Prop :=
  scostP drop add cost x.pairs = some x.cost ∧ x.pot.length = drop.length + 1 ∧ (∀ r ∈ x.pot, rowOk (add.length + 1) r) ∧ cg x.pot 0 0 = 0 ∧ cg x.pot drop.length add.length = x.cost ∧
    ∀ i, i < drop.length + 1 → ∀ j, j < add.length + 1 → edgeP drop add cost x.pot i j
instance (drop add : List Int) (cost : List (List Int)) (x : AlignP) : Decidable (SVer drop add cost x) := by unfold SVer; infer_instance

/-- What an entry of a certificate must be. -/
def EntV (x y : List NodeP) (dm : Int × Int → Int) (e : CompP) : Prop :=
  SVer (dropP x e.a) (dropP y e.b) (costP x y (e.a, e.b) dm) e.kids ∧ e.cost = differP (nd x e.a).text (nd y e.b).text + e.kids.cost
instance (x y : List NodeP) (dm : Int × Int → Int) (e : CompP) : Decidable (EntV x y dm e) := by unfold EntV; infer_instance
def provedP (x y : List NodeP) (m : MatchP) : Prop :=
  (cmpB x y m.proof.length).map sortP = some (m.proof.map fun e => (e.a, e.b)) ∧ (∀ e ∈ m.proof, EntV x y (dget m.proof) e) ∧ (m.proof.getD 0 default).cost = m.cost
instance (x y : List NodeP) (m : MatchP) : Decidable (provedP x y m) := by unfold provedP; infer_instance
def verifyP (x y : List NodeP) (m : MatchP) : Prop :=
  priceP x y m.pairs = some m.cost ∧ m.bound ≤ m.cost ∧ (m.proven = true → m.bound = m.cost ∧ if (nd x 0).kind = (nd y 0).kind then provedP x y m else m.proof = [] ∧ m.pairs = [])
instance (x y : List NodeP) (m : MatchP) : Decidable (verifyP x y m) := by unfold verifyP; infer_instance

section dual
variable {drop add : List Int} {cost pot : List (List Int)}

theorem drop_sum (l : List Int) (i : Nat) (h : i < l.length) : (l.drop i).sum = l.getD i 0 + (l.drop (i + 1)).sum := by
  rw [List.drop_eq_getElem_cons h, List.sum_cons, getD_of_lt l i 0 h]

theorem down (h : ∀ i, i < drop.length + 1 → ∀ j, j < add.length + 1 → edgeP drop add cost pot i j) : ∀ (k i j : Nat), i + k ≤ drop.length → j ≤ add.length → cg pot (i + k) j + (drop.drop (i + k)).sum ≤ cg pot i j + (drop.drop i).sum
  | 0, i, j, _, _ => by simp
  | k + 1, i, j, h1, h2 => by
    have a := (h i (by omega) j (by omega)).1 (by omega)
    have b := down h k (i + 1) j (by omega) h2
    rw [show i + 1 + k = i + (k + 1) by omega] at b
    have c := drop_sum drop i (by omega)
    omega
theorem right (h : ∀ i, i < drop.length + 1 → ∀ j, j < add.length + 1 → edgeP drop add cost pot i j) : ∀ (k i j : Nat), i ≤ drop.length → j + k ≤ add.length → cg pot i (j + k) + (add.drop (j + k)).sum ≤ cg pot i j + (add.drop j).sum
  | 0, i, j, _, _ => by simp
  | k + 1, i, j, h1, h2 => by
    have a := (h i (by omega) j (by omega)).2.1 (by omega)
    have b := right h k i (j + 1) h1 (by omega)
    rw [show j + 1 + k = j + (k + 1) by omega] at b
    have c := drop_sum add j (by omega)
    omega

def wt (drop add : List Int) (cost : List (List Int)) (q : Nat × Nat) : Int := cg cost q.1 q.2 - drop.getD q.1 0 - add.getD q.2 0

theorem dual_go (h : ∀ i, i < drop.length + 1 → ∀ j, j < add.length + 1 → edgeP drop add cost pot i j) : ∀ (ks : List (Nat × Nat)) (i j : Nat), i ≤ drop.length → j ≤ add.length → ks.Pairwise (fun p q => p.1 < q.1 ∧ p.2 < q.2) →
    (∀ q ∈ ks, i ≤ q.1 ∧ j ≤ q.2 ∧ q.1 < drop.length ∧ q.2 < add.length ∧ 0 ≤ cg cost q.1 q.2) → cg pot drop.length add.length ≤ cg pot i j + (drop.drop i).sum + (add.drop j).sum + (ks.map (wt drop add cost)).sum
  | [], i, j, h1, h2, _, _ => by
    have a := down h (drop.length - i) i j (by omega) h2
    have b := right h (add.length - j) drop.length j (by omega) (by omega)
    rw [show i + (drop.length - i) = drop.length by omega, List.drop_length] at a
    rw [show j + (add.length - j) = add.length by omega, List.drop_length] at b
    simp only [List.map_nil, List.sum_nil] at *
    omega
  | (p1, p2) :: ks, i, j, h1, h2, hp, hq => by
    rw [List.pairwise_cons] at hp
    obtain ⟨a1, a2, a3, a4, a5⟩ := hq (p1, p2) (by simp)
    simp only at a1 a2 a3 a4 a5
    have a := down h (p1 - i) i j (by omega) h2
    have b := right h (p2 - j) p1 j (by omega) (by omega)
    rw [show i + (p1 - i) = p1 by omega] at a
    rw [show j + (p2 - j) = p2 by omega] at b
    have c := (h p1 (by omega) p2 (by omega)).2.2 a3 a4 a5
    have d := dual_go h ks (p1 + 1) (p2 + 1) (by omega) (by omega) hp.2 (fun q hm => by
      obtain ⟨b1, b2, b3, b4, b5⟩ := hq q (by simp [hm])
      have := hp.1 q hm
      simp only at this
      exact ⟨by omega, by omega, b3, b4, b5⟩)
    have e := drop_sum drop p1 a3
    have f := drop_sum add p2 a4
    rw [List.map_cons, List.sum_cons]
    simp only [wt]
    omega

theorem dual {x : AlignP} (h : SVer drop add cost x) (ks : List (Nat × Nat)) (hp : ks.Pairwise (fun p q => p.1 < q.1 ∧ p.2 < q.2)) (hq : ∀ q ∈ ks, q.1 < drop.length ∧ q.2 < add.length ∧ 0 ≤ cg cost q.1 q.2) :
    x.cost ≤ drop.sum + add.sum + (ks.map (wt drop add cost)).sum := by
  obtain ⟨_, _, _, h0, h1, h2⟩ := h
  have := dual_go h2 ks 0 0 (by omega) (by omega) hp (fun q hm => by have := hq q hm; omega)
  rw [List.drop_zero, List.drop_zero] at this
  omega

theorem cg_within {n : Nat} {pot : List (List Int)} (h : ∀ r ∈ pot, rowOk n r) (i j : Nat) : 0 ≤ cg pot i j ∧ cg pot i j ≤ 1099511627776 := by
  unfold cg
  rcases Nat.lt_or_ge i pot.length with hi | hi
  · rw [getD_of_lt pot i [] hi]
    have hr := (h _ (List.getElem_mem hi)).2
    rw [withinB_iff] at hr
    rcases Nat.lt_or_ge j pot[i].length with hj | hj
    · rw [getD_of_lt _ j 0 hj]; exact hr _ (List.getElem_mem hj)
    · simp [List.getD, List.getElem?_eq_none hj]
  · simp [List.getD, List.getElem?_eq_none hi]

theorem SVer.nonneg {x : AlignP} (h : SVer drop add cost x) : 0 ≤ x.cost := by
  obtain ⟨_, _, h1, _, h2, _⟩ := h
  rw [← h2]; exact (cg_within h1 _ _).1
end dual

/-- Pairs that price accepts. -/
def Asc (l : List (Int × Int)) : Prop := l.Pairwise fun p q => p.1 < q.1 ∧ p.2 < q.2

theorem asc_snoc {l : List (Int × Int)} {p : Int × Int} (h : Asc l) (hl : l ≠ [] → (lastP l).1 < p.1 ∧ (lastP l).2 < p.2) : Asc (l ++ [p]) := by
  unfold Asc at *
  rw [List.pairwise_append]
  refine ⟨h, by simp, ?_⟩
  intro q hq r hr
  simp only [List.mem_singleton] at hr
  subst hr
  have hne : l ≠ [] := fun e => by subst e; simp at hq
  have hl := hl hne
  obtain ⟨l', z, rfl⟩ : ∃ l' z, l = l' ++ [z] := ⟨l.dropLast, l.getLast hne, (List.dropLast_concat_getLast hne).symm⟩
  unfold lastP at hl
  rw [List.getLastD_concat] at hl
  rcases List.mem_append.1 hq with hq | hq
  · rw [List.pairwise_append] at h
    have := h.2.2 q hq z (by simp)
    omega
  · simp only [List.mem_singleton] at hq
    subst hq; exact hl

theorem price_spec (x y : List NodeP) : ∀ (ps pre : List (Int × Int)) (c r : Int), priceGo x y pre ps c = some r → Asc pre →
    r = c + (ps.map fun p => differP (nd x p.1).text (nd y p.2).text - 2).sum ∧ Asc (pre ++ ps) ∧ ∀ a p b, ps = a ++ p :: b → okP x y (pre ++ a) p
  | [], pre, c, r, h, ha => by
    simp only [priceGo, Option.some.injEq] at h
    refine ⟨by simp [h], by simpa using ha, fun a p b e => by simp at e⟩
  | p :: ps, pre, c, r, h, ha => by
    rw [priceGo] at h
    split at h
    case isFalse => cases h
    rename_i ok
    obtain ⟨h1, h2, h3⟩ := price_spec x y ps (pre ++ [p]) _ r h (asc_snoc ha fun _ => ⟨ok.1, ok.2.1⟩)
    refine ⟨by rw [h1, List.map_cons, List.sum_cons]; omega, by simpa using h2, ?_⟩
    intro a q b e
    cases a with
    | nil =>
      simp only [List.nil_append, List.cons.injEq] at e
      rw [List.append_nil, ← e.1]; exact ok
    | cons a0 a =>
      simp only [List.cons_append, List.cons.injEq] at e
      have := h3 a q b e.2
      rw [← e.1]
      simpa using this

def parP (x y : List NodeP) (q : Int × Int) : Int × Int := ((nd x q.1).parent, (nd y q.2).parent)

theorem sum_ite_mem {M : List (Int × Int)} (hn : M.Nodup) {z : Int × Int} (hz : z ∈ M) (v : Int) : (M.map fun p => if z = p then v else 0).sum = v := by
  induction M with
  | nil => simp at hz
  | cons a M ih =>
    rw [List.nodup_cons] at hn
    rw [List.map_cons, List.sum_cons]
    by_cases e : z = a
    · subst e
      have : (M.map fun p => if z = p then v else 0) = M.map fun _ => 0 := by
        apply List.map_congr_left
        intro p hp
        rw [if_neg (fun e : z = p => hn.1 (by rw [e]; exact hp))]
      rw [if_pos rfl, this]
      have : ∀ (M : List (Int × Int)), (M.map fun _ => (0 : Int)).sum = 0 := fun M => by induction M with | nil => rfl | cons a M ih => rw [List.map_cons, List.sum_cons, ih]; rfl
      rw [this]; omega
    · rw [if_neg e, ih hn.2 (by rcases List.mem_cons.1 hz with h | h; exact absurd h e; exact h)]; omega

theorem sum_add (M : List (Int × Int)) (f g : Int × Int → Int) : (M.map fun p => f p + g p).sum = (M.map f).sum + (M.map g).sum := by
  induction M with
  | nil => rfl
  | cons a M ih => simp only [List.map_cons, List.sum_cons, ih]; omega
theorem sum_le (M : List (Int × Int)) (f g : Int × Int → Int) (h : ∀ p ∈ M, f p ≤ g p) : (M.map f).sum ≤ (M.map g).sum := by
  induction M with
  | nil => simp
  | cons a M ih => simp only [List.map_cons, List.sum_cons]; have := h a (by simp); have := ih (fun p hp => h p (by simp [hp])); omega

theorem sum_swap {M : List (Int × Int)} (hn : M.Nodup) (f : Int × Int → Int × Int) (g : Int × Int → Int) : ∀ (L : List (Int × Int)), (∀ q ∈ L, f q ∈ M) → (M.map fun p => ((L.filter fun q => decide (f q = p)).map g).sum).sum = (L.map g).sum
  | [], _ => by
    have : ∀ (M : List (Int × Int)), (M.map fun _ => (0 : Int)).sum = 0 := fun M => by induction M with | nil => rfl | cons a M ih => rw [List.map_cons, List.sum_cons, ih]; rfl
    simpa using this M
  | q :: L, h => by
    have ih := sum_swap hn f g L (fun r hr => h r (by simp [hr]))
    have e : (fun p => (((q :: L).filter fun q => decide (f q = p)).map g).sum) = fun p => (if f q = p then g q else 0) + ((L.filter fun q => decide (f q = p)).map g).sum := by
      funext p
      by_cases hp : f q = p
      · rw [List.filter_cons_of_pos (by simpa using hp), if_pos hp, List.map_cons, List.sum_cons]
      · rw [List.filter_cons_of_neg (by simpa using hp), if_neg hp]; omega
    rw [e, sum_add, ih, sum_ite_mem hn (h q (by simp)), List.map_cons, List.sum_cons]

theorem idx_lt {l : List Int} (h : l.Pairwise (· < ·)) {a b : Int} (ha : a ∈ l) (hb : b ∈ l) (hab : a < b) : l.idxOf a < l.idxOf b := by
  have h1 := List.idxOf_lt_length_of_mem ha
  have h2 := List.idxOf_lt_length_of_mem hb
  rcases Nat.lt_or_ge (l.idxOf a) (l.idxOf b) with h3 | h3
  · exact h3
  · exfalso
    have e1 : l[l.idxOf a] = a := List.getElem_idxOf h1
    have e2 : l[l.idxOf b] = b := List.getElem_idxOf h2
    rcases Nat.lt_or_eq_of_le h3 with h4 | h4
    · have := List.pairwise_iff_getElem.1 h (l.idxOf b) (l.idxOf a) h2 h1 h4
      omega
    · have : l[l.idxOf b] = l[l.idxOf a] := by simp only [h4]
      omega

theorem dget_mem {es : List CompP} {q : Int × Int} (h : q ∈ es.map fun e => (e.a, e.b)) : ∃ e ∈ es, (e.a, e.b) = q ∧ dget es q = e.cost := by
  unfold dget
  cases hf : es.find? (fun e => decide ((e.a, e.b) = q)) with
  | none =>
    exfalso
    obtain ⟨e, he, rfl⟩ := List.mem_map.1 h
    have := List.find?_eq_none.1 hf e he
    simp at this
  | some e => exact ⟨e, List.mem_of_find?_eq_some hf, by simpa using List.find?_some hf, rfl⟩

theorem kid_of_par {x : List NodeP} (hx : WF x) {i : Int} (h0 : 0 ≤ i) (h1 : i < x.length) (hp : 0 ≤ (nd x i).parent) : i ∈ (nd x (nd x i).parent).kids := by
  by_cases hz : i = 0
  · subst hz
    have := hx.root _ (nd_get (x := x) (i := 0) (by omega) h1)
    omega
  · obtain ⟨j, jd, g1, _, g3, g4⟩ := hx.par i.toNat _ (nd_get h0 h1) (by omega)
    rw [g3, nd_of g1]
    rw [Int.toNat_of_nonneg h0] at g4
    exact g4

/-- No matching is cheaper than a certificate says. -/
theorem least_of {x y : List NodeP} (hx : WF x) (hy : WF y) (es : List CompP) (l : List (Int × Int)) (hl : Good x y (kp x y) l l.length) (hk : ∀ q, q ∈ (es.map fun e => (e.a, e.b)) ↔ q ∈ l)
    (hv : ∀ e ∈ es, EntV x y (dget es) e) (M : List (Int × Int)) (c : Int) (hM : priceP x y M = some c) : dget es (0, 0) ≤ c := by
  have hroot : (0, 0) ∈ l := by rw [hl.eq]; simp
  have hclosed : ∀ p ∈ l, ∀ q ∈ kp x y p, q ∈ l := fun p hp q hq => by
    rw [hl.eq, List.take_length]
    exact List.mem_cons_of_mem _ (List.mem_flatMap.2 ⟨p, hp, hq⟩)
  have hent : ∀ p ∈ l, ∃ e ∈ es, (e.a, e.b) = p ∧ dget es p = e.cost := fun p hp => dget_mem ((hk p).2 hp)
  have hnn : ∀ p ∈ l, 0 ≤ dget es p := fun p hp => by
    obtain ⟨e, he, _, h2⟩ := hent p hp
    obtain ⟨h3, h4⟩ := hv e he
    have := h3.nonneg
    have := differP_bd (nd x e.a).text (nd y e.b).text
    omega
  have szx : ∀ p ∈ l, (nd x p.1).size = 1 + (dropP x p.1).sum := fun p hp => nd_size hx (hl.inr p hp).1 (hl.inr p hp).2.1
  have szy : ∀ p ∈ l, (nd y p.2).size = 1 + (dropP y p.2).sum := fun p hp => nd_size hy (hl.inr p hp).2.2.1 (hl.inr p hp).2.2.2
  have rx : (nd x 0).size = (x.length : Int) := hx.rsz
  have ry : (nd y 0).size = (y.length : Int) := hy.rsz
  obtain ⟨h1, h2, h3⟩ := price_spec x y M [] _ c hM (by simp [Asc])
  simp only [List.nil_append] at h2 h3
  -- one entry
  have key : ∀ p ∈ l, ∀ (C : List (Int × Int)), Asc C → (∀ q ∈ C, q ∈ l ∧ q.1 ∈ (nd x p.1).kids ∧ q.2 ∈ (nd y p.2).kids ∧ (nd x q.1).kind = (nd y q.2).kind) →
      dget es p - (nd x p.1).size - (nd y p.2).size ≤ (differP (nd x p.1).text (nd y p.2).text - 2) + (C.map fun q => dget es q - (nd x q.1).size - (nd y q.2).size).sum := by
    intro p hp C hC hq
    obtain ⟨e, he, e1, e2⟩ := hent p hp
    obtain ⟨e3, e4⟩ := hv e he
    have ea : e.a = p.1 := congrArg Prod.fst e1
    have eb : e.b = p.2 := congrArg Prod.snd e1
    rw [e1] at e3
    rw [ea, eb] at e3 e4
    have ax := hx.asc p.1.toNat _ (nd_get (hl.inr p hp).1 (hl.inr p hp).2.1)
    have ay := hy.asc p.2.toNat _ (nd_get (hl.inr p hp).2.2.1 (hl.inr p hp).2.2.2)
    have hw : ∀ q ∈ C, wt (dropP x p.1) (dropP y p.2) (costP x y p (dget es)) ((nd x p.1).kids.idxOf q.1, (nd y p.2).kids.idxOf q.2) = dget es q - (nd x q.1).size - (nd y q.2).size ∧
        (nd x p.1).kids.idxOf q.1 < (dropP x p.1).length ∧ (nd y p.2).kids.idxOf q.2 < (dropP y p.2).length ∧ 0 ≤ cg (costP x y p (dget es)) ((nd x p.1).kids.idxOf q.1) ((nd y p.2).kids.idxOf q.2) := by
      intro q hm
      obtain ⟨m1, m2, m3, m4⟩ := hq q hm
      have i1 := List.idxOf_lt_length_of_mem m2
      have i2 := List.idxOf_lt_length_of_mem m3
      have g1 : (nd x p.1).kids[(nd x p.1).kids.idxOf q.1] = q.1 := List.getElem_idxOf i1
      have g2 : (nd y p.2).kids[(nd y p.2).kids.idxOf q.2] = q.2 := List.getElem_idxOf i2
      have c1 : cg (costP x y p (dget es)) ((nd x p.1).kids.idxOf q.1) ((nd y p.2).kids.idxOf q.2) = dget es q := by
        unfold cg costP
        rw [getD_of_lt ((nd x p.1).kids.map _) _ _ (by simpa using i1), List.getElem_map, g1, getD_of_lt _ _ _ (by simpa using i2), List.getElem_map, g2, if_pos m4]
      have d1 : (dropP x p.1).getD ((nd x p.1).kids.idxOf q.1) 0 = (nd x q.1).size := by
        unfold dropP
        rw [getD_of_lt _ _ _ (by simpa using i1), List.getElem_map, g1]
      have d2 : (dropP y p.2).getD ((nd y p.2).kids.idxOf q.2) 0 = (nd y q.2).size := by
        unfold dropP
        rw [getD_of_lt _ _ _ (by simpa using i2), List.getElem_map, g2]
      refine ⟨by simp only [wt]; rw [c1, d1, d2], by simpa [dropP] using i1, by simpa [dropP] using i2, by rw [c1]; exact hnn q m1⟩
    have hd := dual e3 (C.map fun q => ((nd x p.1).kids.idxOf q.1, (nd y p.2).kids.idxOf q.2)) (by
      rw [List.pairwise_map]
      refine List.Pairwise.imp_of_mem ?_ hC
      intro a b ha hb hab
      obtain ⟨_, m2, m3, _⟩ := hq a ha
      obtain ⟨_, n2, n3, _⟩ := hq b hb
      exact ⟨idx_lt ax m2 n2 hab.1, idx_lt ay m3 n3 hab.2⟩) (by
      intro q hm
      obtain ⟨r, hr, rfl⟩ := List.mem_map.1 hm
      exact (hw r hr).2)
    rw [List.map_map] at hd
    have hs : (C.map (wt (dropP x p.1) (dropP y p.2) (costP x y p (dget es)) ∘ fun q => ((nd x p.1).kids.idxOf q.1, (nd y p.2).kids.idxOf q.2))) = C.map fun q => dget es q - (nd x q.1).size - (nd y q.2).size := by
      apply List.map_congr_left
      intro q hm
      exact (hw q hm).1
    rw [hs] at hd
    have := szx p hp
    have := szy p hp
    omega
  cases M with
  | nil =>
    have := key (0, 0) hroot [] (by simp [Asc]) (by simp)
    have := differP_bd (nd x 0).text (nd y 0).text
    simp only [List.map_nil, List.sum_nil] at *
    omega
  | cons r M =>
    have ok0 := h3 [] r M rfl
    have hr : r = (0, 0) := ok0.2.2.2.2.2.1.2 rfl
    subst hr
    have lst : ∀ a : List (Int × Int), (∀ q ∈ a, q ∈ l) → -1 ≤ (lastP a).1 ∧ -1 ≤ (lastP a).2 := by
      intro a ha
      rcases List.eq_nil_or_concat a with rfl | ⟨a', z, rfl⟩
      · simp [lastP]
      · have hz := hl.inr z (ha z (by simp))
        unfold lastP InR at *
        rw [List.concat_eq_append, List.getLastD_concat]
        omega
    have up : ∀ a q b, (0, 0) :: M = a ++ q :: b → (∀ r ∈ a, r ∈ l) → a ≠ [] → parP x y q ∈ a ∧ q.1 ∈ (nd x (parP x y q).1).kids ∧ q.2 ∈ (nd y (parP x y q).2).kids ∧ (nd x q.1).kind = (nd y q.2).kind := by
      intro a q b e ha hne
      have ok := h3 a q b e
      have hq0 : q ≠ (0, 0) := fun e => hne (ok.2.2.2.2.2.1.1 e)
      have hp : parP x y q ∈ a := by
        rcases ok.2.2.2.2.2.2 with h | h
        · exact absurd h hq0
        · exact h
      have hi := hl.inr _ (ha _ hp)
      have hb := lst a ha
      have o1 := ok.1
      have o2 := ok.2.1
      exact ⟨hp, kid_of_par hx (by omega) ok.2.2.1 hi.1, kid_of_par hy (by omega) ok.2.2.2.1 hi.2.2.1, ok.2.2.2.2.1⟩
    -- every pair is compared
    have hall : ∀ (b a : List (Int × Int)), (0, 0) :: M = a ++ b → a ≠ [] → (∀ q ∈ a, q ∈ l) → ∀ q ∈ (0, 0) :: M, q ∈ l := by
      intro b
      induction b with
      | nil => intro a e _ ha q hq; rw [e, List.append_nil] at hq; exact ha q hq
      | cons z b ih =>
        intro a e hne ha
        obtain ⟨u1, u2, u3, u4⟩ := up a z b e ha hne
        refine ih (a ++ [z]) (by rw [e]; simp) (by simp) ?_
        intro q hq
        rcases List.mem_append.1 hq with hq | hq
        · exact ha q hq
        · simp only [List.mem_singleton] at hq
          subst hq
          refine hclosed _ (ha _ u1) q ?_
          unfold kp
          refine List.mem_flatMap.2 ⟨q.1, u2, ?_⟩
          unfold kpC
          exact List.mem_map.2 ⟨q.2, List.mem_filter.2 ⟨u3, by simpa using u4⟩, rfl⟩
    have hml := hall M [(0, 0)] rfl (by simp) (by intro q hq; simp only [List.mem_singleton] at hq; subst hq; exact hroot)
    have hup : ∀ q ∈ M, parP x y q ∈ (0, 0) :: M ∧ q.1 ∈ (nd x (parP x y q).1).kids ∧ q.2 ∈ (nd y (parP x y q).2).kids ∧ (nd x q.1).kind = (nd y q.2).kind := by
      intro q hq
      obtain ⟨a, b, e⟩ := List.append_of_mem hq
      obtain ⟨u1, u2⟩ := up ((0, 0) :: a) q b (by rw [e]; rfl) (fun r hr => hml r (by
        rw [e]
        rcases List.mem_cons.1 hr with h | h
        · simp [h]
        · simp [h])) (by simp)
      refine ⟨?_, u2⟩
      rw [e]
      rcases List.mem_cons.1 u1 with h | h
      · rw [h]; simp
      · simp [h]
    have hnd : ((0, 0) :: M).Nodup := by
      refine List.Pairwise.imp ?_ h2
      intro a b hab e
      subst e; omega
    have hA : Asc M := (List.pairwise_cons.1 h2).2
    have main := sum_le ((0, 0) :: M) (fun p => dget es p - (nd x p.1).size - (nd y p.2).size) (fun p => (differP (nd x p.1).text (nd y p.2).text - 2) + ((M.filter fun q => decide (parP x y q = p)).map fun q => dget es q - (nd x q.1).size - (nd y q.2).size).sum) (by
      intro p hp
      refine key p (hml p hp) _ (List.Pairwise.filter _ hA) ?_
      intro q hq
      obtain ⟨q1, q2⟩ := List.mem_filter.1 hq
      have q2 : parP x y q = p := by simpa using q2
      obtain ⟨_, u2, u3, u4⟩ := hup q q1
      rw [q2] at u2 u3
      exact ⟨hml q (by simp [q1]), u2, u3, u4⟩)
    rw [sum_add, sum_swap hnd (parP x y) _ M (fun q hq => (hup q hq).1)] at main
    rw [List.map_cons, List.sum_cons] at main
    simp only at main
    omega
end Go.Proofs.Ytfifbadepebpeaa
