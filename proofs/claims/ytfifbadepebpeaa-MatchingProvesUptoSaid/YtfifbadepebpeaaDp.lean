/- The certificate, from its end: the least cost of each compared pair. -/
import Derived.Test.YtfifbadepebpeaaWj
import Derived.Test.YtfifbadepebpeaaAli
namespace Go.Proofs.Ytfifbadepebpeaa

def dget (es : List CompP) (q : Int × Int) : Int := match es.find? (fun e => decide ((e.a, e.b) = q)) with | some e => e.cost | none => 0

def alignOf (x y : List NodeP) (p : Int × Int) (dm : Int × Int → Int) : AlignP := alignP (dropP x p.1) (dropP y p.2) (costP x y p dm)
def entryP (x y : List NodeP) (p : Int × Int) (dm : Int × Int → Int) : CompP := ⟨p.1, p.2, differP (nd x p.1).text (nd y p.2).text + (alignOf x y p dm).cost, alignOf x y p dm⟩
def buildP (x y : List NodeP) : List (Int × Int) → List CompP
  | [] => []
  | p :: ps => entryP x y p (dget (buildP x y ps)) :: buildP x y ps

theorem dget_cons (e : CompP) (es : List CompP) (q : Int × Int) : dget (e :: es) q = if q = (e.a, e.b) then e.cost else dget es q := by
  unfold dget
  by_cases h : (e.a, e.b) = q
  · rw [List.find?_cons_of_pos (by simpa using h), if_pos h.symm]
  · rw [List.find?_cons_of_neg (by simpa using h), if_neg (fun e => h e.symm)]

theorem sum_nonneg {l : List Int} (h : ∀ q ∈ l, 0 ≤ q) : 0 ≤ l.sum := by
  induction l with
  | nil => simp
  | cons a l ih => rw [List.sum_cons]; have := h a (by simp); have := ih (fun q hq => h q (by simp [hq])); omega
theorem mem_le_sum {l : List Int} (h : ∀ q ∈ l, 0 ≤ q) {a : Int} (ha : a ∈ l) : a ≤ l.sum := by
  induction l with
  | nil => simp at ha
  | cons b l ih =>
    rw [List.sum_cons]
    have h1 := h b (by simp)
    have h2 := sum_nonneg (fun q hq => h q (List.mem_cons_of_mem _ hq))
    rcases List.mem_cons.1 ha with rfl | ha
    · omega
    · have := ih (fun q hq => h q (by simp [hq])) ha; omega

theorem nd_size {x : List NodeP} (hx : WF x) {i : Int} (h0 : 0 ≤ i) (h1 : i < x.length) : (nd x i).size = 1 + ((nd x i).kids.map fun c => (nd x c).size).sum := hx.sz i.toNat _ (nd_get h0 h1)

theorem size_pos {x : List NodeP} (hx : WF x) : ∀ (n : Nat) (i : Int), 0 ≤ i → i < x.length → (x.length : Int) - i ≤ n → 1 ≤ (nd x i).size := by
  intro n
  induction n with
  | zero => intro i h0 h1 h2; omega
  | succ n ih =>
    intro i h0 h1 h2
    rw [nd_size hx h0 h1]
    have := sum_nonneg (l := (nd x i).kids.map fun c => (nd x c).size) (fun q hq => by
      obtain ⟨c, hc, rfl⟩ := List.mem_map.1 hq
      obtain ⟨a1, a2, a3, _⟩ := kid_inr hx h0 h1 hc
      have := ih c a1 a2 (by omega)
      omega)
    omega
theorem size_ge {x : List NodeP} (hx : WF x) {i : Int} (h0 : 0 ≤ i) (h1 : i < x.length) : 1 ≤ (nd x i).size := size_pos hx x.length i h0 h1 (by omega)

theorem size_le {x : List NodeP} (hx : WF x) : ∀ (n : Nat) (i : Int), 0 ≤ i → i < x.length → i ≤ n → (nd x i).size ≤ x.length := by
  intro n
  induction n using Nat.strongRecOn with
  | _ n ih =>
    intro i h0 h1 h2
    by_cases hz : i = 0
    · subst hz; have := hx.rsz; simpa [nd] using Int.le_of_eq this
    · obtain ⟨j, jd, g1, g2, _, g4⟩ := hx.par i.toNat _ (nd_get h0 h1) (by omega)
      have hjl := lt_of_some g1
      have hij : i ∈ (nd x (j : Int)).kids := by rw [nd_of g1]; rw [Int.toNat_of_nonneg h0] at g4; exact g4
      have hj := ih j (by omega) (j : Int) (by omega) (by omega) (by omega)
      have hs := nd_size hx (i := (j : Int)) (by omega) (by omega)
      have hm := mem_le_sum (l := (nd x (j : Int)).kids.map fun c => (nd x c).size) (fun q hq => by
        obtain ⟨c, hc, rfl⟩ := List.mem_map.1 hq
        obtain ⟨a1, a2, _, _⟩ := kid_inr hx (by omega) (by omega) hc
        have := size_ge hx a1 a2
        omega) (List.mem_map.2 ⟨i, hij, rfl⟩)
      omega

theorem pt_le {drop add : List Int} {cost : List (List Int)} (_p : Prop17 drop add cost) : ∀ (i j : Nat), pt drop add cost i j ≤ (drop.take i).sum + (add.take j).sum := by
  have tk : ∀ (l : List Int) (k : Nat), (l.take (k + 1)).sum = (l.take k).sum + l.getD k 0 := by
    intro l k
    rw [List.take_add_one, List.sum_append]
    cases h : l[k]? with
    | none => simp [List.getD_eq_getElem?_getD, h]
    | some v => simp [List.getD_eq_getElem?_getD, h]
  intro i
  induction i with
  | zero =>
    intro j
    induction j with
    | zero => simp [pt, ptRow0]
    | succ j ih =>
      rw [tk]
      have : pt drop add cost 0 (j + 1) = pt drop add cost 0 j + add.getD j 0 := rfl
      omega
  | succ i ih =>
    intro j
    cases j with
    | zero => rw [pt_col, tk]; have := ih 0; omega
    | succ j =>
      rw [pt_succ, tk drop]
      have := ih (j + 1)
      split
      · omega
      · omega

/-- What a certificate's entries are good for. -/
structure EntOk (x y : List NodeP) (e : CompP) : Prop where
  inr : InR x y (e.a, e.b)
  lo : 0 ≤ e.cost
  hi : e.cost ≤ (nd x e.a).size + (nd y e.b).size

theorem dget_ok {x y : List NodeP} (hx : WF x) (hy : WF y) (sx : x.length ≤ 262144) (sy : y.length ≤ 262144) {es : List CompP} (h : ∀ e ∈ es, EntOk x y e) (q : Int × Int) : 0 ≤ dget es q ∧ dget es q ≤ 524288 := by
  unfold dget
  split
  · rename_i e he
    have ok := h e (List.mem_of_find?_eq_some he)
    have h1 := size_le hx x.length e.a ok.inr.1 ok.inr.2.1 (by have := ok.inr.2.1; simp only at this; omega)
    have h2 := size_le hy y.length e.b ok.inr.2.2.1 ok.inr.2.2.2 (by have := ok.inr.2.2.2; simp only at this; omega)
    have := ok.lo
    have := ok.hi
    omega
  · omega

def narrowB (l : List NodeP) : Bool := decide (l.length ≤ 262144) && l.all fun n => decide (n.kids.length ≤ 400)
theorem narrow_nd {l : List NodeP} (h : narrowB l = true) (i : Int) : (nd l i).kids.length ≤ 400 := by
  unfold narrowB at h
  simp only [Bool.and_eq_true, decide_eq_true_eq, List.all_eq_true] at h
  unfold nd
  rw [List.getD_eq_getElem?_getD]
  cases hg : l[i.toNat]? with
  | none => simp [default]
  | some v => exact h.2 v (List.mem_of_getElem? hg)

theorem tab_proper {x y : List NodeP} (hx : WF x) (hy : WF y) (nx : narrowB x = true) (ny : narrowB y = true) {p : Int × Int} (hp : InR x y p) (dm : Int × Int → Int) (hd : ∀ q, 0 ≤ dm q ∧ dm q ≤ 524288) :
    Prop17 (dropP x p.1) (dropP y p.2) (costP x y p dm) := by
  have sx : x.length ≤ 262144 := by unfold narrowB at nx; simp only [Bool.and_eq_true, decide_eq_true_eq] at nx; exact nx.1
  have sy : y.length ≤ 262144 := by unfold narrowB at ny; simp only [Bool.and_eq_true, decide_eq_true_eq] at ny; exact ny.1
  refine ⟨by simpa [dropP] using narrow_nd nx p.1, by simpa [dropP] using narrow_nd ny p.2, by simp [costP, dropP], fun i h => by simp [costP, dropP], ?_, ?_, ?_⟩
  · intro q hq
    obtain ⟨c, hc, rfl⟩ := List.mem_map.1 hq
    obtain ⟨a1, a2, _, _⟩ := kid_inr hx hp.1 hp.2.1 hc
    have := size_ge hx a1 a2
    have := size_le hx x.length c a1 a2 (by omega)
    omega
  · intro q hq
    obtain ⟨c, hc, rfl⟩ := List.mem_map.1 hq
    obtain ⟨a1, a2, _, _⟩ := kid_inr hy hp.2.2.1 hp.2.2.2 hc
    have := size_ge hy a1 a2
    have := size_le hy y.length c a1 a2 (by omega)
    omega
  · intro i h q hq
    simp only [costP, List.getElem_map, List.mem_map] at hq
    obtain ⟨k, _, rfl⟩ := hq
    split
    · have := hd (((nd x p.1).kids[i]'(by simpa [costP] using h)), k); omega
    · omega

theorem entry_ok {x y : List NodeP} (hx : WF x) (hy : WF y) {p : Int × Int} (hp : InR x y p) (dm : Int × Int → Int) (h : Prop17 (dropP x p.1) (dropP y p.2) (costP x y p dm)) : EntOk x y (entryP x y p dm) := by
  have h1 := pt_bd h (dropP x p.1).length (dropP y p.2).length
  have h2 := pt_le h (dropP x p.1).length (dropP y p.2).length
  rw [List.take_length, List.take_length] at h2
  have h3 := differP_bd (nd x p.1).text (nd y p.2).text
  have h4 := nd_size hx hp.1 hp.2.1
  have h5 := nd_size hy hp.2.2.1 hp.2.2.2
  refine ⟨hp, ?_, ?_⟩
  · simp only [entryP, alignOf, alignP]; omega
  · simp only [entryP, alignOf, alignP]
    unfold dropP at h2
    unfold dropP
    omega

theorem build_ok {x y : List NodeP} (hx : WF x) (hy : WF y) (nx : narrowB x = true) (ny : narrowB y = true) : ∀ (l : List (Int × Int)), (∀ p ∈ l, InR x y p) → ∀ e ∈ buildP x y l, EntOk x y e
  | [], _, e, he => by simp [buildP] at he
  | p :: ps, h, e, he => by
    have sx : x.length ≤ 262144 := by unfold narrowB at nx; simp only [Bool.and_eq_true, decide_eq_true_eq] at nx; exact nx.1
    have sy : y.length ≤ 262144 := by unfold narrowB at ny; simp only [Bool.and_eq_true, decide_eq_true_eq] at ny; exact ny.1
    have ih := build_ok hx hy nx ny ps (fun q hq => h q (by simp [hq]))
    rw [buildP] at he
    rcases List.mem_cons.1 he with rfl | he
    · exact entry_ok hx hy (h p (by simp)) _ (tab_proper hx hy nx ny (h p (by simp)) _ (dget_ok hx hy sx sy ih))
    · exact ih e he
end Go.Proofs.Ytfifbadepebpeaa
