/- The certificate, from its end: the least cost of each compared pair. -/
import Derived.Test.YtfifbadepebpeaaWj
import Derived.Test.YtfifbadepebpeaaAli
namespace Go.Proofs.Ytfifbadepebpeaa

def dget (es : List CompP) (q : Int × Int) : Int := match es.find? (fun e => decide ((e.a, e.b) = q)) with | some e => e.cost | none => 0

def alignOf (x y : List NodeP) (p : Int × Int) (dm : Int × Int → Int) : AlignP := alignP (dropP x p.1) (dropP y p.2) (costP x y p dm)
def entryP (x y : List NodeP) (p : Int × Int) (dm : Int × Int → Int) : CompP := ⟨p.1, p.2, differP (nd x p.1).text (nd y p.2).text + (alignOf x y p dm).cost, alignOf x y p dm⟩
def buildP (x y : List NodeP) : List (Int × Int) → List CompP
  | [] => []
  | p :: ps => entryP x y p (dget (buildP x y ps)) :: buildP x y ps

theorem dget_cons (e : CompP) (es : List CompP) (q : Int × Int) : dget (e :: es) q = if q = (e.a, e.b) then e.cost else dget es q := by
  unfold dget
  by_cases h : (e.a, e.b) = q
  · rw [List.find?_cons_of_pos (by simpa using h), if_pos h.symm]
  · rw [List.find?_cons_of_neg (by simpa using h), if_neg (fun e => h e.symm)]

theorem sum_nonneg {l : List Int} (h : ∀ q ∈ l, 0 ≤ q) : 0 ≤ l.sum := by
  induction l with
  | nil => simp
  | cons a l ih => rw [List.sum_cons]; have := h a (by simp); have := ih (fun q hq => h q (by simp [hq])); omega
theorem mem_le_sum {l : List Int} (h : ∀ q ∈ l, 0 ≤ q) {a : Int} (ha : a ∈ l) : a ≤ l.sum := by
  induction l with
  | nil => simp at ha
  | cons b l ih =>
    rw [List.sum_cons]
    have h1 := h b (by simp)
    have h2 := sum_nonneg (fun q hq => h q (List.mem_cons_of_mem _ hq))
    rcases List.mem_cons.1 ha with rfl | ha
    · omega
    · have := ih (fun q hq => h q (by simp [hq])) ha; omega

theorem nd_size {x : List NodeP} (hx : WF x) {i : Int} (h0 : 0 ≤ i) (h1 : i < x.length) : (nd x i).size = 1 + ((nd x i).kids.map fun c => (nd x c).size).sum := hx.sz i.toNat _ (nd_get h0 h1)

theorem size_pos {x : List NodeP} (hx : WF x) : ∀ (n : Nat) (i : Int), 0 ≤ i → i < x.length → (x.length : Int) - i ≤ n → 1 ≤ (nd x i).size := by
  intro n
  induction n with
  | zero => intro i h0 h1 h2; omega
  | succ n ih =>
    intro i h0 h1 h2
    rw [nd_size hx h0 h1]
    have := sum_nonneg (l := (nd x i).kids.map fun c => (nd x c).size) (fun q hq => by
      obtain ⟨c, hc, rfl⟩ := List.mem_map.1 hq
      obtain ⟨a1, a2, a3, _⟩ := kid_inr hx h0 h1 hc
      have := ih c a1 a2 (by omega)
      omega)
    omega
theorem size_ge {x : List NodeP} (hx : WF x) {i : Int} (h0 : 0 ≤ i) (h1 : i < x.length) : 1 ≤ (nd x i).size := size_pos hx x.length i h0 h1 (by omega)

theorem size_le {x : List NodeP} (hx : WF x) : ∀ (n : Nat) (i : Int), 0 ≤ i → i < x.length → i ≤ n → (nd x i).size ≤ x.length := by
  intro n
  induction n using Nat.strongRecOn with
  | _ n ih =>
    intro i h0 h1 h2
    by_cases hz : i = 0
    · subst hz; have := hx.rsz; simpa [nd] using Int.le_of_eq this
    · obtain ⟨j, jd, g1, g2, _, g4⟩ := hx.par i.toNat _ (nd_get h0 h1) (by omega)
      have hjl := lt_of_some g1
      have hij : i ∈ (nd x (j : Int)).kids := by rw [nd_of g1]; rw [Int.toNat_of_nonneg h0] at g4; exact g4
      have hj := ih j (by omega) (j : Int) (by omega) (by omega) (by omega)
      have hs := nd_size hx (i := (j : Int)) (by omega) (by omega)
      have hm := mem_le_sum (l := (nd x (j : Int)).kids.map fun c => (nd x c).size) (fun q hq => by
        obtain ⟨c, hc, rfl⟩ := List.mem_map.1 hq
        obtain ⟨a1, a2, _, _⟩ := kid_inr hx (by omega) (by omega) hc
        have := size_ge hx a1 a2
        omega) (List.mem_map.2 ⟨i, hij, rfl⟩)
      omega

theorem pt_le {drop add : List Int} {cost : List (List Int)} (_p : Prop17 drop add cost) : ∀ (i j : Nat), pt drop add cost i j ≤ (drop.take i).sum + (add.take j).sum := by
  have tk : ∀ (l : List Int) (k : Nat), (l.take (k + 1)).sum = (l.take k).sum + l.getD k 0 := by
    intro l k
    rw [List.take_add_one, List.sum_append]
    cases h : l[k]? with
    | none => simp [List.getD_eq_getElem?_getD, h]
    | some v => simp [List.getD_eq_getElem?_getD, h]
  intro i
  induction i with
  | zero =>
    intro j
    induction j with
    | zero => simp [pt, ptRow0]
    | succ j ih =>
      rw [tk]
      have : pt drop add cost 0 (j + 1) = pt drop add cost 0 j + add.getD j 0 := rfl
      omega
  | succ i ih =>
    intro j
    cases j with
    | zero => rw [pt_col, tk]; have := ih 0; omega
    | succ j =>
      rw [pt_succ, tk drop]
      have := ih (j + 1)
      split
      · omega
      · omega

structure EntOk (x y : List NodeP) (e : CompP) : Prop where
  inr : InR x y (e.a, e.b)
  lo : 0 ≤ e.cost
  hi : e.cost ≤ (nd x e.a).size + (nd y e.b).size

theorem dget_ok {x y : List NodeP} (hx : WF x) (hy : WF y) (sx : x.length ≤ 262144) (sy : y.length ≤ 262144) {es : List CompP} (h : ∀ e ∈ es, EntOk x y e) (q : Int × Int) : 0 ≤ dget es q ∧ dget es q ≤ 524288 := by
  unfold dget
  split
  · rename_i e he
    have ok := h e (List.mem_of_find?_eq_some he)
    have h1 := size_le hx x.length e.a ok.inr.1 ok.inr.2.1 (by have := ok.inr.2.1; simp only at this; omega)
    have h2 := size_le hy y.length e.b ok.inr.2.2.1 ok.inr.2.2.2 (by have := ok.inr.2.2.2; simp only at this; omega)
    have := ok.lo
    have := ok.hi
    omega
  · omega

def narrowB (l : List NodeP) : Bool := decide (l.length ≤ 262144) && l.all fun n => decide (n.kids.length ≤ 400)
theorem narrow_nd {l : List NodeP} (h : narrowB l = true) (i : Int) : (nd l i).kids.length ≤ 400 := by
  unfold narrowB at h
  simp only [Bool.and_eq_true, decide_eq_true_eq, List.all_eq_true] at h
  unfold nd
  rw [List.getD_eq_getElem?_getD]
  cases hg : l[i.toNat]? with
  | none => simp [default]
  | some v => exact h.2 v (List.mem_of_getElem? hg)

theorem tab_proper {x y : List NodeP} (hx : WF x) (hy : WF y) (nx : narrowB x = true) (ny : narrowB y = true) {p : Int × Int} (hp : InR x y p) (dm : Int × Int → Int) (hd : ∀ q, 0 ≤ dm q ∧ dm q ≤ 524288) :
    Prop17 (dropP x p.1) (dropP y p.2) (costP x y p dm) := by
  have sx : x.length ≤ 262144 := by unfold narrowB at nx; simp only [Bool.and_eq_true, decide_eq_true_eq] at nx; exact nx.1
  have sy : y.length ≤ 262144 := by unfold narrowB at ny; simp only [Bool.and_eq_true, decide_eq_true_eq] at ny; exact ny.1
  refine ⟨by simpa [dropP] using narrow_nd nx p.1, by simpa [dropP] using narrow_nd ny p.2, by simp [costP, dropP], fun i h => by simp [costP, dropP], ?_, ?_, ?_⟩
  · intro q hq
    obtain ⟨c, hc, rfl⟩ := List.mem_map.1 hq
    obtain ⟨a1, a2, _, _⟩ := kid_inr hx hp.1 hp.2.1 hc
    have := size_ge hx a1 a2
    have := size_le hx x.length c a1 a2 (by omega)
    omega
  · intro q hq
    obtain ⟨c, hc, rfl⟩ := List.mem_map.1 hq
    obtain ⟨a1, a2, _, _⟩ := kid_inr hy hp.2.2.1 hp.2.2.2 hc
    have := size_ge hy a1 a2
    have := size_le hy y.length c a1 a2 (by omega)
    omega
  · intro i h q hq
    simp only [costP, List.getElem_map, List.mem_map] at hq
    obtain ⟨k, _, rfl⟩ := hq
    split
    · have := hd (((nd x p.1).kids[i]'(by simpa [costP] using h)), k); omega
    · omega

theorem entry_ok {x y : List NodeP} (hx : WF x) (hy : WF y) {p : Int × Int} (hp : InR x y p) (dm : Int × Int → Int) (h : Prop17 (dropP x p.1) (dropP y p.2) (costP x y p dm)) : EntOk x y (entryP x y p dm) := by
  have h1 := pt_bd h (dropP x p.1).length (dropP y p.2).length
  have h2 := pt_le h (dropP x p.1).length (dropP y p.2).length
  rw [List.take_length, List.take_length] at h2
  have h3 := differP_bd (nd x p.1).text (nd y p.2).text
  have h4 := nd_size hx hp.1 hp.2.1
  have h5 := nd_size hy hp.2.2.1 hp.2.2.2
  refine ⟨hp, ?_, ?_⟩
  · simp only [entryP, alignOf, alignP]; omega
  · simp only [entryP, alignOf, alignP]
    unfold dropP at h2
    unfold dropP
    omega

theorem build_ok {x y : List NodeP} (hx : WF x) (hy : WF y) (nx : narrowB x = true) (ny : narrowB y = true) : ∀ (l : List (Int × Int)), (∀ p ∈ l, InR x y p) → ∀ e ∈ buildP x y l, EntOk x y e
  | [], _, e, he => by simp [buildP] at he
  | p :: ps, h, e, he => by
    have sx : x.length ≤ 262144 := by unfold narrowB at nx; simp only [Bool.and_eq_true, decide_eq_true_eq] at nx; exact nx.1
    have sy : y.length ≤ 262144 := by unfold narrowB at ny; simp only [Bool.and_eq_true, decide_eq_true_eq] at ny; exact ny.1
    have ih := build_ok hx hy nx ny ps (fun q hq => h q (by simp [hq]))
    rw [buildP] at he
    rcases List.mem_cons.1 he with rfl | he
    · exact entry_ok hx hy (h p (by simp)) _ (tab_proper hx hy nx ny (h p (by simp)) _ (dget_ok hx hy sx sy ih))
    · exact ih e he
end Go.Proofs.Ytfifbadepebpeaa

/- Certificates in plain words: the cost of an alignment, its potentials; and that no alignment is cheaper. -/
namespace Go.Proofs.Ytfifbadepebpeaa

def cg (cost : List (List Int)) (i j : Nat) : Int := (cost.getD i []).getD j 0

def scOk (drop add : List Int) (cost : List (List Int)) (last p : Int × Int) : Prop := last.1 < p.1 ∧ last.2 < p.2 ∧ p.1 < drop.length ∧ p.2 < add.length ∧ 0 ≤ cg cost p.1.toNat p.2.toNat
instance (drop add : List Int) (cost : List (List Int)) (last p : Int × Int) : Decidable (scOk drop add cost last p) := by unfold scOk; infer_instance
def scGo (drop add : List Int) (cost : List (List Int)) : Int × Int → List (Int × Int) → Int → Option Int
  | _, [], s => some s
  | last, p :: ps, s => if scOk drop add cost last p then scGo drop add cost p ps (s + (cg cost p.1.toNat p.2.toNat - drop.getD p.1.toNat 0 - add.getD p.2.toNat 0)) else none
def scostP (drop add : List Int) (cost : List (List Int)) (pairs : List (Int × Int)) : Option Int := if properB drop add cost = true then scGo drop add cost (-1, -1) pairs (drop.sum + add.sum) else none

def edgeP (drop add : List Int) (cost : List (List Int)) (pot : List (List Int)) (i j : Nat) : Prop :=
  (i < drop.length → cg pot (i + 1) j ≤ cg pot i j + drop.getD i 0) ∧ (j < add.length → cg pot i (j + 1) ≤ cg pot i j + add.getD j 0) ∧
    (i < drop.length → j < add.length → 0 ≤ cg cost i j → cg pot (i + 1) (j + 1) ≤ cg pot i j + cg cost i j)
instance (drop add : List Int) (cost pot : List (List Int)) (i j : Nat) : Decidable (edgeP drop add cost pot i j) := by unfold edgeP; infer_instance
def rowOk (n : Nat) (r : List Int) : Prop := r.length = n ∧ withinB 0 1099511627776 r = true
instance (n : Nat) (r : List Int) : Decidable (rowOk n r) := by unfold rowOk; infer_instance
def SVer (drop add : List Int) (cost : List (List Int)) (x : AlignP) : Prop :=
  scostP drop add cost x.pairs = some x.cost ∧ x.pot.length = drop.length + 1 ∧ (∀ r ∈ x.pot, rowOk (add.length + 1) r) ∧ cg x.pot 0 0 = 0 ∧ cg x.pot drop.length add.length = x.cost ∧
    ∀ i, i < drop.length + 1 → ∀ j, j < add.length + 1 → edgeP drop add cost x.pot i j
instance (drop add : List Int) (cost : List (List Int)) (x : AlignP) : Decidable (SVer drop add cost x) := by unfold SVer; infer_instance

def EntV (x y : List NodeP) (dm : Int × Int → Int) (e : CompP) : Prop :=
  SVer (dropP x e.a) (dropP y e.b) (costP x y (e.a, e.b) dm) e.kids ∧ e.cost = differP (nd x e.a).text (nd y e.b).text + e.kids.cost
instance (x y : List NodeP) (dm : Int × Int → Int) (e : CompP) : Decidable (EntV x y dm e) := by unfold EntV; infer_instance
def provedP (x y : List NodeP) (m : MatchP) : Prop :=
  (cmpB x y m.proof.length).map sortP = some (m.proof.map fun e => (e.a, e.b)) ∧ (∀ e ∈ m.proof, EntV x y (dget m.proof) e) ∧ (m.proof.getD 0 default).cost = m.cost
instance (x y : List NodeP) (m : MatchP) : Decidable (provedP x y m) := by unfold provedP; infer_instance
def verifyP (x y : List NodeP) (m : MatchP) : Prop :=
  priceP x y m.pairs = some m.cost ∧ m.bound ≤ m.cost ∧ (m.proven = true → m.bound = m.cost ∧ if (nd x 0).kind = (nd y 0).kind then provedP x y m else m.proof = [] ∧ m.pairs = [])
instance (x y : List NodeP) (m : MatchP) : Decidable (verifyP x y m) := by unfold verifyP; infer_instance

section dual
variable {drop add : List Int} {cost pot : List (List Int)}

theorem drop_sum (l : List Int) (i : Nat) (h : i < l.length) : (l.drop i).sum = l.getD i 0 + (l.drop (i + 1)).sum := by
  rw [List.drop_eq_getElem_cons h, List.sum_cons, getD_of_lt l i 0 h]

theorem down (h : ∀ i, i < drop.length + 1 → ∀ j, j < add.length + 1 → edgeP drop add cost pot i j) : ∀ (k i j : Nat), i + k ≤ drop.length → j ≤ add.length → cg pot (i + k) j + (drop.drop (i + k)).sum ≤ cg pot i j + (drop.drop i).sum
  | 0, i, j, _, _ => by simp
  | k + 1, i, j, h1, h2 => by
    have a := (h i (by omega) j (by omega)).1 (by omega)
    have b := down h k (i + 1) j (by omega) h2
    rw [show i + 1 + k = i + (k + 1) by omega] at b
    have c := drop_sum drop i (by omega)
    omega
theorem right (h : ∀ i, i < drop.length + 1 → ∀ j, j < add.length + 1 → edgeP drop add cost pot i j) : ∀ (k i j : Nat), i ≤ drop.length → j + k ≤ add.length → cg pot i (j + k) + (add.drop (j + k)).sum ≤ cg pot i j + (add.drop j).sum
  | 0, i, j, _, _ => by simp
  | k + 1, i, j, h1, h2 => by
    have a := (h i (by omega) j (by omega)).2.1 (by omega)
    have b := right h k i (j + 1) h1 (by omega)
    rw [show j + 1 + k = j + (k + 1) by omega] at b
    have c := drop_sum add j (by omega)
    omega

def wt (drop add : List Int) (cost : List (List Int)) (q : Nat × Nat) : Int := cg cost q.1 q.2 - drop.getD q.1 0 - add.getD q.2 0

theorem dual_go (h : ∀ i, i < drop.length + 1 → ∀ j, j < add.length + 1 → edgeP drop add cost pot i j) : ∀ (ks : List (Nat × Nat)) (i j : Nat), i ≤ drop.length → j ≤ add.length → ks.Pairwise (fun p q => p.1 < q.1 ∧ p.2 < q.2) →
    (∀ q ∈ ks, i ≤ q.1 ∧ j ≤ q.2 ∧ q.1 < drop.length ∧ q.2 < add.length ∧ 0 ≤ cg cost q.1 q.2) → cg pot drop.length add.length ≤ cg pot i j + (drop.drop i).sum + (add.drop j).sum + (ks.map (wt drop add cost)).sum
  | [], i, j, h1, h2, _, _ => by
    have a := down h (drop.length - i) i j (by omega) h2
    have b := right h (add.length - j) drop.length j (by omega) (by omega)
    rw [show i + (drop.length - i) = drop.length by omega, List.drop_length] at a
    rw [show j + (add.length - j) = add.length by omega, List.drop_length] at b
    simp only [List.map_nil, List.sum_nil] at *
    omega
  | (p1, p2) :: ks, i, j, h1, h2, hp, hq => by
    rw [List.pairwise_cons] at hp
    obtain ⟨a1, a2, a3, a4, a5⟩ := hq (p1, p2) (by simp)
    simp only at a1 a2 a3 a4 a5
    have a := down h (p1 - i) i j (by omega) h2
    have b := right h (p2 - j) p1 j (by omega) (by omega)
    rw [show i + (p1 - i) = p1 by omega] at a
    rw [show j + (p2 - j) = p2 by omega] at b
    have c := (h p1 (by omega) p2 (by omega)).2.2 a3 a4 a5
    have d := dual_go h ks (p1 + 1) (p2 + 1) (by omega) (by omega) hp.2 (fun q hm => by
      obtain ⟨b1, b2, b3, b4, b5⟩ := hq q (by simp [hm])
      have := hp.1 q hm
      simp only at this
      exact ⟨by omega, by omega, b3, b4, b5⟩)
    have e := drop_sum drop p1 a3
    have f := drop_sum add p2 a4
    rw [List.map_cons, List.sum_cons]
    simp only [wt]
    omega

theorem dual {x : AlignP} (h : SVer drop add cost x) (ks : List (Nat × Nat)) (hp : ks.Pairwise (fun p q => p.1 < q.1 ∧ p.2 < q.2)) (hq : ∀ q ∈ ks, q.1 < drop.length ∧ q.2 < add.length ∧ 0 ≤ cg cost q.1 q.2) :
    x.cost ≤ drop.sum + add.sum + (ks.map (wt drop add cost)).sum := by
  obtain ⟨_, _, _, h0, h1, h2⟩ := h
  have := dual_go h2 ks 0 0 (by omega) (by omega) hp (fun q hm => by have := hq q hm; omega)
  rw [List.drop_zero, List.drop_zero] at this
  omega

theorem cg_within {n : Nat} {pot : List (List Int)} (h : ∀ r ∈ pot, rowOk n r) (i j : Nat) : 0 ≤ cg pot i j ∧ cg pot i j ≤ 1099511627776 := by
  unfold cg
  rcases Nat.lt_or_ge i pot.length with hi | hi
  · rw [getD_of_lt pot i [] hi]
    have hr := (h _ (List.getElem_mem hi)).2
    rw [withinB_iff] at hr
    rcases Nat.lt_or_ge j pot[i].length with hj | hj
    · rw [getD_of_lt _ j 0 hj]; exact hr _ (List.getElem_mem hj)
    · simp [List.getD, List.getElem?_eq_none hj]
  · simp [List.getD, List.getElem?_eq_none hi]

end dual

def Asc (l : List (Int × Int)) : Prop := l.Pairwise fun p q => p.1 < q.1 ∧ p.2 < q.2

theorem asc_snoc {l : List (Int × Int)} {p : Int × Int} (h : Asc l) (hl : l ≠ [] → (lastP l).1 < p.1 ∧ (lastP l).2 < p.2) : Asc (l ++ [p]) := by
  unfold Asc at *
  rw [List.pairwise_append]
  refine ⟨h, by simp, ?_⟩
  intro q hq r hr
  simp only [List.mem_singleton] at hr
  subst hr
  have hne : l ≠ [] := fun e => by subst e; simp at hq
  have hl := hl hne
  obtain ⟨l', z, rfl⟩ : ∃ l' z, l = l' ++ [z] := ⟨l.dropLast, l.getLast hne, (List.dropLast_concat_getLast hne).symm⟩
  unfold lastP at hl
  rw [List.getLastD_concat] at hl
  rcases List.mem_append.1 hq with hq | hq
  · rw [List.pairwise_append] at h
    have := h.2.2 q hq z (by simp)
    omega
  · simp only [List.mem_singleton] at hq
    subst hq; exact hl

theorem price_spec (x y : List NodeP) : ∀ (ps pre : List (Int × Int)) (c r : Int), priceGo x y pre ps c = some r → Asc pre →
    r = c + (ps.map fun p => differP (nd x p.1).text (nd y p.2).text - 2).sum ∧ Asc (pre ++ ps) ∧ ∀ a p b, ps = a ++ p :: b → okP x y (pre ++ a) p
  | [], pre, c, r, h, ha => by
    simp only [priceGo, Option.some.injEq] at h
    refine ⟨by simp [h], by simpa using ha, fun a p b e => by simp at e⟩
  | p :: ps, pre, c, r, h, ha => by
    rw [priceGo] at h
    split at h
    case isFalse => cases h
    rename_i ok
    obtain ⟨h1, h2, h3⟩ := price_spec x y ps (pre ++ [p]) _ r h (asc_snoc ha fun _ => ⟨ok.1, ok.2.1⟩)
    refine ⟨by rw [h1, List.map_cons, List.sum_cons]; omega, by simpa using h2, ?_⟩
    intro a q b e
    cases a with
    | nil =>
      simp only [List.nil_append, List.cons.injEq] at e
      rw [List.append_nil, ← e.1]; exact ok
    | cons a0 a =>
      simp only [List.cons_append, List.cons.injEq] at e
      have := h3 a q b e.2
      rw [← e.1]
      simpa using this

def parP (x y : List NodeP) (q : Int × Int) : Int × Int := ((nd x q.1).parent, (nd y q.2).parent)

theorem kid_of_par {x : List NodeP} (hx : WF x) {i : Int} (h0 : 0 ≤ i) (h1 : i < x.length) (hp : 0 ≤ (nd x i).parent) : i ∈ (nd x (nd x i).parent).kids := by
  by_cases hz : i = 0
  · subst hz
    have := hx.root _ (nd_get (x := x) (i := 0) (by omega) h1)
    omega
  · obtain ⟨j, jd, g1, _, g3, g4⟩ := hx.par i.toNat _ (nd_get h0 h1) (by omega)
    rw [g3, nd_of g1]
    rw [Int.toNat_of_nonneg h0] at g4
    exact g4

end Go.Proofs.Ytfifbadepebpeaa

/- The pairs of the matching of least cost, out of its certificate. -/
namespace Go.Proofs.Ytfifbadepebpeaa

def pent (es : List CompP) (q : Int × Int) : CompP := (es.find? (fun e => decide ((e.a, e.b) = q))).getD default
theorem dget_pent (es : List CompP) (q : Int × Int) : dget es q = (pent es q).cost := by
  unfold dget pent
  cases es.find? (fun e => decide ((e.a, e.b) = q)) <;> rfl
theorem pent_cons (e : CompP) (es : List CompP) (q : Int × Int) : pent (e :: es) q = if q = (e.a, e.b) then e else pent es q := by
  unfold pent
  by_cases h : (e.a, e.b) = q
  · rw [List.find?_cons_of_pos (by simpa using h), if_pos h.symm]; rfl
  · rw [List.find?_cons_of_neg (by simpa using h), if_neg (fun e => h e.symm)]

theorem build_keys (x y : List NodeP) : ∀ (l : List (Int × Int)), (buildP x y l).map (fun e => (e.a, e.b)) = l
  | [] => rfl
  | p :: ps => by rw [buildP, List.map_cons, build_keys x y ps]; rfl
theorem build_length (x y : List NodeP) (l : List (Int × Int)) : (buildP x y l).length = l.length := by
  have := congrArg List.length (build_keys x y l)
  simpa using this
theorem build_at (x y : List NodeP) : ∀ (l : List (Int × Int)) (k : Nat) (hk : k < l.length), (buildP x y l)[k]'(by rw [build_length]; exact hk) = entryP x y l[k] (dget (buildP x y (l.drop (k + 1))))
  | p :: ps, 0, _ => by simp [buildP]
  | p :: ps, k + 1, hk => by simp only [buildP, List.getElem_cons_succ, List.drop_succ_cons]; exact build_at x y ps k (by simpa using hk)
theorem build_drop (x y : List NodeP) (l : List (Int × Int)) (k : Nat) (hk : k < l.length) : buildP x y (l.drop k) = entryP x y l[k] (dget (buildP x y (l.drop (k + 1)))) :: buildP x y (l.drop (k + 1)) := by
  rw [List.drop_eq_getElem_cons hk, buildP]
theorem build_mem (x y : List NodeP) : ∀ (l : List (Int × Int)) (e : CompP), e ∈ buildP x y l → ∃ p ps, p ∈ l ∧ (∀ q ∈ ps, q ∈ l) ∧ e = entryP x y p (dget (buildP x y ps))
  | [], e, h => by simp [buildP] at h
  | p :: ps, e, h => by
    rw [buildP] at h
    rcases List.mem_cons.1 h with rfl | h
    · exact ⟨p, ps, by simp, fun q hq => by simp [hq], rfl⟩
    · obtain ⟨p', ps', h1, h2, h3⟩ := build_mem x y ps e h
      exact ⟨p', ps', by simp [h1], fun q hq => by simp [h2 q hq], h3⟩

theorem pent_at {x y : List NodeP} : ∀ {l : List (Int × Int)}, l.Nodup → ∀ (k : Nat) (hk : k < l.length), (buildP x y l)[k]'(by rw [build_length]; exact hk) = pent (buildP x y l) l[k]
  | p :: ps, h, 0, _ => by
    simp only [buildP, List.getElem_cons_zero]
    rw [pent_cons]
    exact (if_pos rfl).symm
  | p :: ps, h, k + 1, hk => by
    rw [List.nodup_cons] at h
    simp only [buildP, List.getElem_cons_succ]
    rw [pent_cons, if_neg (fun e => h.1 (by
      have : ps[k]'(by simpa using hk) = p := e
      rw [← this]; simp))]
    exact pent_at h.2 k (by simpa using hk)

theorem pent_cases (x y : List NodeP) (l : List (Int × Int)) (p : Int × Int) : pent (buildP x y l) p = default ∨ ∃ ps, (∀ q ∈ ps, q ∈ l) ∧ pent (buildP x y l) p = entryP x y p (dget (buildP x y ps)) := by
  cases hf : (buildP x y l).find? (fun e => decide ((e.a, e.b) = p)) with
  | none => left; unfold pent; rw [hf]; rfl
  | some e =>
    right
    obtain ⟨p', ps, _, h2, h3⟩ := build_mem x y l e (List.mem_of_find?_eq_some hf)
    have hk : (e.a, e.b) = p := by simpa using List.find?_some hf
    have : p' = p := by rw [← hk, h3]; rfl
    subst this
    exact ⟨ps, h2, by unfold pent; rw [hf, h3]; rfl⟩

theorem backP_desc (drop add : List Int) (cost : List (List Int)) : ∀ (f i j : Nat), (backP drop add cost f i j).Pairwise (fun p q => q.1 < p.1 ∧ q.2 < p.2)
  | 0, _, _ => by simp [backP]
  | f + 1, i, j => by
    rw [backP]
    split
    · split
      · rw [List.pairwise_cons]
        refine ⟨fun q hq => ?_, backP_desc drop add cost f (i - 1) (j - 1)⟩
        have := backP_mem drop add cost f (i - 1) (j - 1) q hq
        simp only
        omega
      · split
        · exact backP_desc drop add cost f (i - 1) j
        · exact backP_desc drop add cost f i (j - 1)
    · simp
theorem backP_cost (drop add : List Int) (cost : List (List Int)) : ∀ (f i j : Nat) (p : Int × Int), p ∈ backP drop add cost f i j → 0 ≤ cg cost p.1.toNat p.2.toNat
  | 0, _, _, p, h => by simp [backP] at h
  | f + 1, i, j, p, h => by
    rw [backP] at h
    split at h
    · split at h
      · rename_i h1
        rcases List.mem_cons.1 h with rfl | h
        · simp only [Int.toNat_natCast]; exact h1.2.2.1
        · exact backP_cost drop add cost f (i - 1) (j - 1) p h
      · split at h
        · exact backP_cost drop add cost f (i - 1) j p h
        · exact backP_cost drop add cost f i (j - 1) p h
    · simp at h

theorem align_asc (drop add : List Int) (cost : List (List Int)) : Asc (alignP drop add cost).pairs := by
  unfold Asc alignP
  rw [List.pairwise_reverse]
  exact backP_desc _ _ _ _ _ _
theorem align_mem {drop add : List Int} {cost : List (List Int)} {k : Int × Int} (h : k ∈ (alignP drop add cost).pairs) : 0 ≤ k.1 ∧ k.1 < drop.length ∧ 0 ≤ k.2 ∧ k.2 < add.length ∧ 0 ≤ cg cost k.1.toNat k.2.toNat := by
  simp only [alignP, List.mem_reverse] at h
  have h1 := backP_mem _ _ _ _ _ _ k h
  have h2 := backP_cost _ _ _ _ _ _ k h
  exact ⟨h1.1, h1.2.1, h1.2.2.1, h1.2.2.2, h2⟩

def kidsAt (x y : List NodeP) (p k : Int × Int) : Int × Int := ((nd x p.1).kids.getD k.1.toNat 0, (nd y p.2).kids.getD k.2.toNat 0)
def kpL (x y : List NodeP) (es : List CompP) (p : Int × Int) : List (Int × Int) := (pent es p).kids.pairs.map (kidsAt x y p)

theorem cg_costP {x y : List NodeP} {p : Int × Int} {dm : Int × Int → Int} {i j : Nat} (hi : i < (nd x p.1).kids.length) (hj : j < (nd y p.2).kids.length) :
    cg (costP x y p dm) i j = if (nd x (nd x p.1).kids[i]).kind = (nd y (nd y p.2).kids[j]).kind then dm ((nd x p.1).kids[i], (nd y p.2).kids[j]) else -1 := by
  unfold cg costP
  rw [getD_of_lt ((nd x p.1).kids.map _) _ _ (by simpa using hi), List.getElem_map, getD_of_lt _ _ _ (by simpa using hj), List.getElem_map]

theorem align_kids {x y : List NodeP} {p : Int × Int} {dm : Int × Int → Int} {k : Int × Int} (h : k ∈ (alignOf x y p dm).pairs) :
    0 ≤ k.1 ∧ k.1 < (nd x p.1).kids.length ∧ 0 ≤ k.2 ∧ k.2 < (nd y p.2).kids.length ∧ (kidsAt x y p k).1 ∈ (nd x p.1).kids ∧ (kidsAt x y p k).2 ∈ (nd y p.2).kids ∧ (nd x (kidsAt x y p k).1).kind = (nd y (kidsAt x y p k).2).kind := by
  obtain ⟨h1, h2, h3, h4, h5⟩ := align_mem h
  simp only [dropP, List.length_map] at h2 h4
  have i1 : k.1.toNat < (nd x p.1).kids.length := by omega
  have i2 : k.2.toNat < (nd y p.2).kids.length := by omega
  rw [cg_costP i1 i2] at h5
  unfold kidsAt
  rw [getD_of_lt _ _ _ i1, getD_of_lt _ _ _ i2]
  refine ⟨h1, h2, h3, h4, List.getElem_mem i1, List.getElem_mem i2, ?_⟩
  split at h5
  · assumption
  · omega

theorem kidsAt_lt {l : List Int} (h : l.Pairwise (· < ·)) {i j : Int} (h0 : 0 ≤ i) (hij : i < j) (hj : j < l.length) : l.getD i.toNat 0 < l.getD j.toNat 0 := by
  rw [getD_of_lt l _ _ (by omega), getD_of_lt l _ _ (by omega)]
  exact List.pairwise_iff_getElem.1 h _ _ (by omega) (by omega) (by omega)

theorem kpL_asc {x y : List NodeP} (hx : WF x) (hy : WF y) (l : List (Int × Int)) {p : Int × Int} (hp : InR x y p) : Asc (kpL x y (buildP x y l) p) := by
  unfold kpL
  rcases pent_cases x y l p with h | ⟨ps, _, h⟩
  · rw [h]; simp [Asc, default]
  · rw [h]
    unfold Asc
    rw [List.pairwise_map]
    refine List.Pairwise.imp_of_mem ?_ (align_asc _ _ _ : Asc (alignOf x y p _).pairs)
    intro a b ha hb hab
    obtain ⟨a1, a2, a3, a4, _⟩ := align_kids ha
    obtain ⟨b1, b2, b3, b4, _⟩ := align_kids hb
    exact ⟨kidsAt_lt (hx.asc p.1.toNat _ (nd_get hp.1 hp.2.1)) a1 hab.1 b2, kidsAt_lt (hy.asc p.2.toNat _ (nd_get hp.2.2.1 hp.2.2.2)) a3 hab.2 b4⟩

theorem kpL_kp {x y : List NodeP} (l : List (Int × Int)) {p q : Int × Int} (hq : q ∈ kpL x y (buildP x y l) p) : q ∈ kp x y p := by
  unfold kpL at hq
  rcases pent_cases x y l p with h | ⟨ps, _, h⟩
  · rw [h] at hq; simp [default] at hq
  · rw [h] at hq
    obtain ⟨k, hk, rfl⟩ := List.mem_map.1 hq
    obtain ⟨_, _, _, _, h5, h6, h7⟩ := align_kids hk
    unfold kp
    refine List.mem_flatMap.2 ⟨_, h5, ?_⟩
    unfold kpC
    exact List.mem_map.2 ⟨_, List.mem_filter.2 ⟨h6, by simpa using h7⟩, rfl⟩

theorem kpL_kf {x y : List NodeP} (hx : WF x) (hy : WF y) (l : List (Int × Int)) : KF x y (kpL x y (buildP x y l)) := by
  refine ⟨fun p hp q hq => (kp_kf hx hy).inr p hp q (kpL_kp l hq), fun p hp => ?_⟩
  refine List.Pairwise.imp ?_ (kpL_asc hx hy l hp)
  intro a b hab e
  subst e; omega

theorem default_pairs : (default : CompP).kids.pairs = [] := rfl

def leastP (x y : List NodeP) (l : List (Int × Int)) : List (Int × Int) := (bfs (kpL x y (buildP x y l)) (x.length * y.length) (x.length * y.length + 1) [(0, 0)] 0).getD []
def leastM (x y : List NodeP) (l : List (Int × Int)) : MatchP :=
  { pairs := sortP (leastP x y l), cost := ((buildP x y l).getD 0 default).cost, proven := true, bound := ((buildP x y l).getD 0 default).cost, proof := buildP x y l }

end Go.Proofs.Ytfifbadepebpeaa
