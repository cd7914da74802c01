/- The pairs of the matching of least cost, out of its certificate. -/
import Derived.Test.YtfifbadepebpeaaSv
namespace Go.Proofs.Ytfifbadepebpeaa

def pent (es : List CompP) (q : Int × Int) : CompP := (es.find? (fun e => decide ((e.a, e.b) = q))).getD default
theorem dget_pent (es : List CompP) (q : Int × Int) : dget es q = (pent es q).cost := by
  unfold dget pent
  cases es.find? (fun e => decide ((e.a, e.b) = q)) <;> rfl
theorem pent_cons (e : CompP) (es : List CompP) (q : Int × Int) : pent (e :: es) q = if q = (e.a, e.b) then e else pent es q := by
  unfold pent
  by_cases h : (e.a, e.b) = q
  · rw [List.find?_cons_of_pos (by simpa using h), if_pos h.symm]; rfl
  · rw [List.find?_cons_of_neg (by simpa using h), if_neg (fun e => h e.symm)]

theorem build_keys (x y : List NodeP) : ∀ (l : List (Int × Int)), (buildP x y l).map (fun e => (e.a, e.b)) = l
  | [] => rfl
  | p :: ps => by rw [buildP, List.map_cons, build_keys x y ps]; rfl
theorem build_length (x y : List NodeP) (l : List (Int × Int)) : (buildP x y l).length = l.length := by
  have := congrArg List.length (build_keys x y l)
  simpa using this
theorem build_at (x y : List NodeP) : ∀ (l : List (Int × Int)) (k : Nat) (hk : k < l.length), (buildP x y l)[k]'(by rw [build_length]; exact hk) = entryP x y l[k] (dget (buildP x y (l.drop (k + 1))))
  | p :: ps, 0, _ => by simp [buildP]
  | p :: ps, k + 1, hk => by simp only [buildP, List.getElem_cons_succ, List.drop_succ_cons]; exact build_at x y ps k (by simpa using hk)
theorem build_drop (x y : List NodeP) (l : List (Int × Int)) (k : Nat) (hk : k < l.length) : buildP x y (l.drop k) = entryP x y l[k] (dget (buildP x y (l.drop (k + 1)))) :: buildP x y (l.drop (k + 1)) := by
  rw [List.drop_eq_getElem_cons hk, buildP]
theorem build_mem (x y : List NodeP) : ∀ (l : List (Int × Int)) (e : CompP), e ∈ buildP x y l → ∃ p ps, p ∈ l ∧ (∀ q ∈ ps, q ∈ l) ∧ e = entryP x y p (dget (buildP x y ps))
  | [], e, h => by simp [buildP] at h
  | p :: ps, e, h => by
    rw [buildP] at h
    rcases List.mem_cons.1 h with rfl | h
    · exact ⟨p, ps, by simp, fun q hq => by simp [hq], rfl⟩
    · obtain ⟨p', ps', h1, h2, h3⟩ := build_mem x y ps e h
      exact ⟨p', ps', by simp [h1], fun q hq => by simp [h2 q hq], h3⟩

theorem pent_at {x y : List NodeP} : ∀ {l : List (Int × Int)}, l.Nodup → ∀ (k : Nat) (hk : k < l.length), (buildP x y l)[k]'(by rw [build_length]; exact hk) = pent (buildP x y l) l[k]
  | p :: ps, h, 0, _ => by
    simp only [buildP, List.getElem_cons_zero]
    rw [pent_cons]
    exact (if_pos rfl).symm
  | p :: ps, h, k + 1, hk => by
    rw [List.nodup_cons] at h
    simp only [buildP, List.getElem_cons_succ]
    rw [pent_cons, if_neg (fun e => h.1 (by
      have : ps[k]'(by simpa using hk) = p := e
      rw [← this]; simp))]
    exact pent_at h.2 k (by simpa using hk)

theorem pent_cases (x y : List NodeP) (l : List (Int × Int)) (p : Int × Int) : pent (buildP x y l) p = default ∨ ∃ ps, (∀ q ∈ ps, q ∈ l) ∧ pent (buildP x y l) p = entryP x y p (dget (buildP x y ps)) := by
  cases hf : (buildP x y l).find? (fun e => decide ((e.a, e.b) = p)) with
  | none => left; unfold pent; rw [hf]; rfl
  | some e =>
    right
    obtain ⟨p', ps, _, h2, h3⟩ := build_mem x y l e (List.mem_of_find?_eq_some hf)
    have hk : (e.a, e.b) = p := by simpa using List.find?_some hf
    have : p' = p := by rw [← hk, h3]; rfl
    subst this
    exact ⟨ps, h2, by unfold pent; rw [hf, h3]; rfl⟩

theorem backP_desc (drop add : List Int) (cost : List (List Int)) : ∀ (f i j : Nat), (backP drop add cost f i j).Pairwise (fun p q => q.1 < p.1 ∧ q.2 < p.2)
  | 0, _, _ => by simp [backP]
  | f + 1, i, j => by
    rw [backP]
    split
    · split
      · rw [List.pairwise_cons]
        refine ⟨fun q hq => ?_, backP_desc drop add cost f (i - 1) (j - 1)⟩
        have := backP_mem drop add cost f (i - 1) (j - 1) q hq
        simp only
        omega
      · split
        · exact backP_desc drop add cost f (i - 1) j
        · exact backP_desc drop add cost f i (j - 1)
    · simp
theorem backP_cost (drop add : List Int) (cost : List (List Int)) : ∀ (f i j : Nat) (p : Int × Int), p ∈ backP drop add cost f i j → 0 ≤ cg cost p.1.toNat p.2.toNat
  | 0, _, _, p, h => by simp [backP] at h
  | f + 1, i, j, p, h => by
    rw [backP] at h
    split at h
    · split at h
      · rename_i h1
        rcases List.mem_cons.1 h with rfl | h
        · simp only [Int.toNat_natCast]; exact h1.2.2.1
        · exact backP_cost drop add cost f (i - 1) (j - 1) p h
      · split at h
        · exact backP_cost drop add cost f (i - 1) j p h
        · exact backP_cost drop add cost f i (j - 1) p h
    · simp at h

theorem align_asc (drop add : List Int) (cost : List (List Int)) : Asc (alignP drop add cost).pairs := by
  unfold Asc alignP
  rw [List.pairwise_reverse]
  exact backP_desc _ _ _ _ _ _
theorem align_mem {drop add : List Int} {cost : List (List Int)} {k : Int × Int} (h : k ∈ (alignP drop add cost).pairs) : 0 ≤ k.1 ∧ k.1 < drop.length ∧ 0 ≤ k.2 ∧ k.2 < add.length ∧ 0 ≤ cg cost k.1.toNat k.2.toNat := by
  simp only [alignP, List.mem_reverse] at h
  have h1 := backP_mem _ _ _ _ _ _ k h
  have h2 := backP_cost _ _ _ _ _ _ k h
  exact ⟨h1.1, h1.2.1, h1.2.2.1, h1.2.2.2, h2⟩

/-- The kids that an index pair names. -/
def kidsAt (x y : List NodeP) (p k : Int × Int) : Int × Int := ((nd x p.1).kids.getD k.1.toNat 0, (nd y p.2).kids.getD k.2.toNat 0)
def kpL (x y : List NodeP) (es : List CompP) (p : Int × Int) : List (Int × Int) := (pent es p).kids.pairs.map (kidsAt x y p)

theorem cg_costP {x y : List NodeP} {p : Int × Int} {dm : Int × Int → Int} {i j : Nat} (hi : i < (nd x p.1).kids.length) (hj : j < (nd y p.2).kids.length) :
    cg (costP x y p dm) i j = if (nd x (nd x p.1).kids[i]).kind = (nd y (nd y p.2).kids[j]).kind then dm ((nd x p.1).kids[i], (nd y p.2).kids[j]) else -1 := by
  unfold cg costP
  rw [getD_of_lt ((nd x p.1).kids.map _) _ _ (by simpa using hi), List.getElem_map, getD_of_lt _ _ _ (by simpa using hj), List.getElem_map]

theorem align_kids {x y : List NodeP} {p : Int × Int} {dm : Int × Int → Int} {k : Int × Int} (h : k ∈ (alignOf x y p dm).pairs) :
    0 ≤ k.1 ∧ k.1 < (nd x p.1).kids.length ∧ 0 ≤ k.2 ∧ k.2 < (nd y p.2).kids.length ∧ (kidsAt x y p k).1 ∈ (nd x p.1).kids ∧ (kidsAt x y p k).2 ∈ (nd y p.2).kids ∧ (nd x (kidsAt x y p k).1).kind = (nd y (kidsAt x y p k).2).kind := by
  obtain ⟨h1, h2, h3, h4, h5⟩ := align_mem h
  simp only [dropP, List.length_map] at h2 h4
  have i1 : k.1.toNat < (nd x p.1).kids.length := by omega
  have i2 : k.2.toNat < (nd y p.2).kids.length := by omega
  rw [cg_costP i1 i2] at h5
  unfold kidsAt
  rw [getD_of_lt _ _ _ i1, getD_of_lt _ _ _ i2]
  refine ⟨h1, h2, h3, h4, List.getElem_mem i1, List.getElem_mem i2, ?_⟩
  split at h5
  · assumption
  · omega

theorem kidsAt_lt {l : List Int} (h : l.Pairwise (· < ·)) {i j : Int} (h0 : 0 ≤ i) (hij : i < j) (hj : j < l.length) : l.getD i.toNat 0 < l.getD j.toNat 0 := by
  rw [getD_of_lt l _ _ (by omega), getD_of_lt l _ _ (by omega)]
  exact List.pairwise_iff_getElem.1 h _ _ (by omega) (by omega) (by omega)

theorem kpL_asc {x y : List NodeP} (hx : WF x) (hy : WF y) (l : List (Int × Int)) {p : Int × Int} (hp : InR x y p) : Asc (kpL x y (buildP x y l) p) := by
  unfold kpL
  rcases pent_cases x y l p with h | ⟨ps, _, h⟩
  · rw [h]; simp [Asc, default]
  · rw [h]
    unfold Asc
    rw [List.pairwise_map]
    refine List.Pairwise.imp_of_mem ?_ (align_asc _ _ _ : Asc (alignOf x y p _).pairs)
    intro a b ha hb hab
    obtain ⟨a1, a2, a3, a4, _⟩ := align_kids ha
    obtain ⟨b1, b2, b3, b4, _⟩ := align_kids hb
    exact ⟨kidsAt_lt (hx.asc p.1.toNat _ (nd_get hp.1 hp.2.1)) a1 hab.1 b2, kidsAt_lt (hy.asc p.2.toNat _ (nd_get hp.2.2.1 hp.2.2.2)) a3 hab.2 b4⟩

theorem kpL_kp {x y : List NodeP} (l : List (Int × Int)) {p q : Int × Int} (hq : q ∈ kpL x y (buildP x y l) p) : q ∈ kp x y p := by
  unfold kpL at hq
  rcases pent_cases x y l p with h | ⟨ps, _, h⟩
  · rw [h] at hq; simp [default] at hq
  · rw [h] at hq
    obtain ⟨k, hk, rfl⟩ := List.mem_map.1 hq
    obtain ⟨_, _, _, _, h5, h6, h7⟩ := align_kids hk
    unfold kp
    refine List.mem_flatMap.2 ⟨_, h5, ?_⟩
    unfold kpC
    exact List.mem_map.2 ⟨_, List.mem_filter.2 ⟨h6, by simpa using h7⟩, rfl⟩

theorem kpL_kf {x y : List NodeP} (hx : WF x) (hy : WF y) (l : List (Int × Int)) : KF x y (kpL x y (buildP x y l)) := by
  refine ⟨fun p hp q hq => (kp_kf hx hy).inr p hp q (kpL_kp l hq), fun p hp => ?_⟩
  refine List.Pairwise.imp ?_ (kpL_asc hx hy l hp)
  intro a b hab e
  subst e; omega

theorem default_pairs : (default : CompP).kids.pairs = [] := rfl

/-- What least makes of the compared pairs. -/
def leastP (x y : List NodeP) (l : List (Int × Int)) : List (Int × Int) := (bfs (kpL x y (buildP x y l)) (x.length * y.length) (x.length * y.length + 1) [(0, 0)] 0).getD []
def leastM (x y : List NodeP) (l : List (Int × Int)) : MatchP :=
  { pairs := sortP (leastP x y l), cost := ((buildP x y l).getD 0 default).cost, proven := true, bound := ((buildP x y l).getD 0 default).cost, proof := buildP x y l }

end Go.Proofs.Ytfifbadepebpeaa
