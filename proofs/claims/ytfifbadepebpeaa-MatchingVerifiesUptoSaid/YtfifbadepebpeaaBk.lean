/- The compared pairs in ascending order, node by node. -/
import Derived.Test.YtfifbadepebpeaaBc
import Derived.Test.YtfifbadepebpeaaBl
namespace Go.Proofs.Ytfifbadepebpeaa

def wr (x y : List NodeP) : Nat → Nat → List Int
  | 0, _ => []
  | f + 1, i => if i = 0 then [0] else (wr x y f (nd x (i : Int)).parent.toNat).flatMap fun b => (nd y b).kids.filter fun d => decide ((nd x (i : Int)).kind = (nd y d).kind)

theorem wr_fuel {x y : List NodeP} (hx : WF x) : ∀ (f g i : Nat), i < x.length → i < f → i < g → wr x y f i = wr x y g i
  | 0, g, i, _, h, _ => by omega
  | f + 1, 0, i, _, _, h => by omega
  | f + 1, g + 1, i, hi, h1, h2 => by
    rw [wr, wr]
    by_cases e : i = 0
    · rw [if_pos e, if_pos e]
    · rw [if_neg e, if_neg e]
      obtain ⟨j, jd, _, j2, j3, _⟩ := hx.par i _ (List.getElem?_eq_getElem hi) (by omega)
      have : nd x (i : Int) = x[i] := nd_of (List.getElem?_eq_getElem hi)
      rw [this, j3, Int.toNat_natCast, wr_fuel hx f g j (by omega) (by omega) (by omega)]

def wR (x y : List NodeP) (i : Nat) : List Int := wr x y (i + 1) i
theorem wR_zero (x y : List NodeP) : wR x y 0 = [0] := by simp [wR, wr]
theorem wR_kid {x y : List NodeP} (hx : WF x) {i j : Nat} (hi : i < x.length) (h0 : 0 < i) (hj : (nd x (i : Int)).parent = (j : Int)) (hji : j < i) :
    wR x y i = (wR x y j).flatMap fun b => (nd y b).kids.filter fun d => decide ((nd x (i : Int)).kind = (nd y d).kind) := by
  unfold wR
  rw [wr, if_neg (by omega), hj, Int.toNat_natCast, wr_fuel hx i (j + 1) j (by omega) hji (by omega)]

def allC (x y : List NodeP) : List (Int × Int) := (List.range x.length).flatMap fun i => (wR x y i).map fun b => ((i : Int), b)

theorem wR_ok {x y : List NodeP} (px : PO x) (py : PO y) : ∀ (n i : Nat), i ≤ n → i < x.length → (∀ b ∈ wR x y i, 0 ≤ b ∧ b < y.length) ∧ (wR x y i).Pairwise fun b c => b + (nd y b).size ≤ c := by
  intro n
  induction n with
  | zero =>
    intro i hi hx
    obtain rfl : i = 0 := by omega
    rw [wR_zero]
    refine ⟨fun b hb => ?_, by simp⟩
    simp only [List.mem_singleton] at hb
    subst hb
    have := py.wf.pos
    omega
  | succ n ih =>
    intro i hi hx
    rcases Nat.eq_zero_or_pos i with rfl | h0
    · exact ih 0 (by omega) hx
    · obtain ⟨j, jd, _, j2, j3, _⟩ := px.wf.par i _ (List.getElem?_eq_getElem hx) h0
      have hp : (nd x (i : Int)).parent = (j : Int) := by rw [nd_of (List.getElem?_eq_getElem hx), j3]
      obtain ⟨g1, g2⟩ := ih j (by omega) (by omega)
      rw [wR_kid px.wf hx h0 hp j2]
      refine ⟨fun d hd => ?_, ?_⟩
      · obtain ⟨b, hb, hd⟩ := List.mem_flatMap.1 hd
        obtain ⟨a1, a2, _⟩ := kid_inr py.wf (g1 b hb).1 (g1 b hb).2 (List.mem_filter.1 hd).1
        exact ⟨a1, a2⟩
      · rw [List.pairwise_flatMap]
        refine ⟨fun b hb => ?_, ?_⟩
        · refine List.Pairwise.filter _ ?_
          exact (py.sp b (g1 b hb).1 (g1 b hb).2).sep (fun d hd => by obtain ⟨a1, a2, _⟩ := kid_inr py.wf (g1 b hb).1 (g1 b hb).2 hd; exact size_ge py.wf a1 a2)
        · refine List.Pairwise.imp_of_mem ?_ g2
          intro b c hb hc hbc d hd e he
          have h1 := py.kid (g1 b hb).1 (g1 b hb).2 (List.mem_filter.1 hd).1
          have h2 := py.kid (g1 c hc).1 (g1 c hc).2 (List.mem_filter.1 he).1
          omega

theorem mem_allC {x y : List NodeP} {q : Int × Int} : q ∈ allC x y ↔ ∃ i, i < x.length ∧ q.1 = (i : Int) ∧ q.2 ∈ wR x y i := by
  unfold allC
  simp only [List.mem_flatMap, List.mem_range, List.mem_map]
  constructor
  · rintro ⟨i, hi, b, hb, rfl⟩; exact ⟨i, hi, rfl, hb⟩
  · rintro ⟨i, hi, h1, h2⟩; exact ⟨i, hi, q.2, h2, Prod.ext h1.symm rfl⟩

theorem allC_sorted {x y : List NodeP} (px : PO x) (py : PO y) : (allC x y).Pairwise ltP := by
  unfold allC
  rw [List.pairwise_flatMap]
  refine ⟨fun i hi => ?_, ?_⟩
  · obtain ⟨g1, g2⟩ := wR_ok px py i i (Nat.le_refl _) (List.mem_range.1 hi)
    rw [List.pairwise_map]
    refine List.Pairwise.imp_of_mem ?_ g2
    intro b c hb hc hbc
    have := size_ge py.wf (g1 b hb).1 (g1 b hb).2
    exact .inr ⟨rfl, by simp only; omega⟩
  · refine List.Pairwise.imp ?_ List.pairwise_lt_range
    intro i j hij p hp q hq
    obtain ⟨_, _, rfl⟩ := List.mem_map.1 hp
    obtain ⟨_, _, rfl⟩ := List.mem_map.1 hq
    exact .inl (by simp only; omega)

theorem allC_eq {x y : List NodeP} (px : PO x) (py : PO y) {r : List (Int × Int)} (g : Good x y (kp x y) r r.length) : sortP r = allC x y := by
  have hs := allC_sorted px py
  have hn : (allC x y).Nodup := hs.imp fun {a b} hab e => by subst e; exact ltP_irrefl _ hab
  have hc := good_closed g
  refine sortP_eq ((List.perm_ext_iff_of_nodup g.nodup hn).2 fun q => ⟨fun hq => ?_, fun hq => ?_⟩) hs
  · have key : ∀ (n : Nat) (q : Int × Int), q ∈ r → q.1 ≤ n → q ∈ allC x y := by
      intro n
      induction n using Nat.strongRecOn with
      | _ n ih =>
        intro q hq hqn
        rw [g.eq, List.take_length] at hq
        rcases List.mem_cons.1 hq with rfl | hq
        · exact mem_allC.2 ⟨0, px.wf.pos, rfl, by rw [wR_zero]; simp⟩
        · obtain ⟨p, hp, hqp⟩ := List.mem_flatMap.1 hq
          have hi := g.inr p hp
          obtain ⟨q1, q2, q3, q4⟩ := (kp_kf px.wf py.wf).inr p hi q hqp
          have hpm := ih p.1.toNat (by have := hi.1; omega) p hp (by have := hi.1; omega)
          obtain ⟨j, hj, e1, e2⟩ := mem_allC.1 hpm
          refine mem_allC.2 ⟨q.1.toNat, by have := q1.2.1; have := q1.1; omega, by have := q1.1; omega, ?_⟩
          have hqn : ((q.1.toNat : Nat) : Int) = q.1 := by have := q1.1; omega
          rw [wR_kid px.wf (j := j) (by have := q1.2.1; have := q1.1; omega) (by have := hi.1; omega) (by rw [hqn, q3, e1]) (by omega)]
          refine List.mem_flatMap.2 ⟨p.2, e2, List.mem_filter.2 ⟨?_, ?_⟩⟩
          · unfold kp kpC at hqp
            obtain ⟨c, _, hc⟩ := List.mem_flatMap.1 hqp
            obtain ⟨d, hd, rfl⟩ := List.mem_map.1 hc
            exact (List.mem_filter.1 hd).1
          · rw [hqn]
            simpa using kp_kind hqp
    exact key q.1.toNat q hq (by omega)
  · have key : ∀ (n : Nat) (q : Int × Int), q ∈ allC x y → q.1 ≤ n → q ∈ r := by
      intro n
      induction n using Nat.strongRecOn with
      | _ n ih =>
        intro q hq hqn
        obtain ⟨i, hi, e1, e2⟩ := mem_allC.1 hq
        rcases Nat.eq_zero_or_pos i with rfl | h0
        · rw [wR_zero] at e2
          simp only [List.mem_singleton] at e2
          have : q = (0, 0) := Prod.ext (by rw [e1]; rfl) e2
          rw [this]; exact hc.1
        · obtain ⟨j, jd, _, j2, j3, j4⟩ := px.wf.par i _ (List.getElem?_eq_getElem hi) h0
          have hp : (nd x (i : Int)).parent = (j : Int) := by rw [nd_of (List.getElem?_eq_getElem hi), j3]
          rw [wR_kid px.wf hi h0 hp j2] at e2
          obtain ⟨b, hb, hd⟩ := List.mem_flatMap.1 e2
          obtain ⟨hd1, hd2⟩ := List.mem_filter.1 hd
          have hpr : ((j : Int), b) ∈ r := ih j (by omega) _ (mem_allC.2 ⟨j, by omega, rfl, hb⟩) (by simp)
          refine hc.2 _ hpr q ?_
          have hik : (i : Int) ∈ (nd x (j : Int)).kids := by
            have := kid_of_par px.wf (i := (i : Int)) (by omega) (by omega) (by rw [hp]; omega)
            rw [hp] at this; exact this
          unfold kp kpC
          refine List.mem_flatMap.2 ⟨(i : Int), hik, List.mem_map.2 ⟨q.2, List.mem_filter.2 ⟨hd1, hd2⟩, Prod.ext e1.symm rfl⟩⟩
    exact key q.1.toNat q hq (by omega)

theorem cmpB_all {x y : List NodeP} (px : PO x) (py : PO y) (budget : Int) : (((allC x y).length : Int) ≤ budget → ∃ l, cmpB x y budget = some l ∧ sortP l = allC x y) ∧ (budget < ((allC x y).length : Int) → cmpB x y budget = none) := by
  obtain ⟨r, h1, h2⟩ := bfs_all (kp_kf px.wf py.wf) px.wf py.wf
  have e := allC_eq px py h2
  have hl : (allC x y).length = r.length := by rw [← e, sortP_length]
  have hpos : 0 < r.length := by rw [h2.eq]; simp
  refine ⟨fun hb => ⟨r, ?_, e⟩, fun hb => ?_⟩
  · unfold cmpB
    rw [if_neg (by omega)]
    exact bfs_budget _ _ _ _ _ _ h1 (by omega) (by simp) _ (by omega)
  · cases hc : cmpB x y budget with
    | none => rfl
    | some l =>
      exfalso
      have g := cmpB_good px.wf py.wf hc
      have := allC_eq px py g.1
      have hl2 : (allC x y).length = l.length := by rw [← this, sortP_length]
      omega
end Go.Proofs.Ytfifbadepebpeaa

/- The rows of the reference's compared, at every place of its four loops. -/
namespace Go.Proofs.Ytfifbadepebpeaa

theorem asc_ints : ∀ {l : List Int} {lo hi : Int}, l.Pairwise (· < ·) → (∀ b ∈ l, lo ≤ b ∧ b < hi) → lo ≤ hi → (l.length : Int) ≤ hi - lo
  | [], lo, hi, _, _, h => by simp; omega
  | a :: l, lo, hi, hp, hb, h => by
    rw [List.pairwise_cons] at hp
    have h1 := hb a (by simp)
    have := asc_ints (l := l) (lo := a + 1) (hi := hi) hp.2 (fun b hm => ⟨by have := hp.1 b hm; omega, (hb b (by simp [hm])).2⟩) (by omega)
    rw [List.length_cons]
    omega

def gK (x y : List NodeP) (p : Nat) (bs : List Int) : List Int := bs.flatMap fun b => (nd y b).kids.filter fun d => decide ((nd x (p : Int)).kind = (nd y d).kind)
def gD (x y : List NodeP) (p : Nat) (ds : List Int) : List Int := ds.filter fun d => decide ((nd x (p : Int)).kind = (nd y d).kind)

theorem wR_gK {x y : List NodeP} (hx : WF x) {p X : Nat} (hp : p < x.length) (h0 : 0 < p) (hX : (nd x (p : Int)).parent = (X : Int)) : wR x y p = gK x y p (wR x y X) := by
  obtain ⟨j, jd, _, j2, j3, _⟩ := hx.par p _ (List.getElem?_eq_getElem hp) h0
  have e : (nd x (p : Int)).parent = (j : Int) := by rw [nd_of (List.getElem?_eq_getElem hp), j3]
  have : X = j := by omega
  subst this
  exact wR_kid hx hp h0 hX j2

def rowsF (x y : List NodeP) (X : Nat) (A : Nat → List Int) : List (List Int) :=
  (List.range x.length).map fun (p : Nat) => if p = 0 ∨ (nd x (p : Int)).parent < (X : Int) then wR x y p else if (nd x (p : Int)).parent = (X : Int) then A p else []
theorem rowsF_len (x y : List NodeP) (X : Nat) (A : Nat → List Int) : (rowsF x y X A).length = x.length := by simp [rowsF]
theorem rowsF_at {x y : List NodeP} {X : Nat} {A : Nat → List Int} {p : Nat} (hp : p < (rowsF x y X A).length) : (rowsF x y X A)[p] = if p = 0 ∨ (nd x (p : Int)).parent < (X : Int) then wR x y p else if (nd x (p : Int)).parent = (X : Int) then A p else [] := by
  simp [rowsF]
theorem rowsF_congr {x y : List NodeP} {X : Nat} {A A' : Nat → List Int} (h : ∀ p, 0 < p → p < x.length → (nd x (p : Int)).parent = (X : Int) → A p = A' p) : rowsF x y X A = rowsF x y X A' := by
  unfold rowsF
  apply List.map_congr_left
  intro p hp
  have hp := List.mem_range.1 hp
  by_cases h1 : p = 0 ∨ (nd x (p : Int)).parent < (X : Int)
  · rw [if_pos h1, if_pos h1]
  · rw [if_neg h1, if_neg h1]
    by_cases h2 : (nd x (p : Int)).parent = (X : Int)
    · rw [if_pos h2, if_pos h2]; exact h p (by omega) hp h2
    · rw [if_neg h2, if_neg h2]

def f1 (x y : List NodeP) (X : Nat) : List (List Int) := rowsF x y X fun _ => []
def f2 (x y : List NodeP) (X i : Nat) : List (List Int) := rowsF x y X fun p => gK x y p ((wR x y X).take i)
def f3 (x y : List NodeP) (X i k : Nat) : List (List Int) := rowsF x y X fun p => gK x y p ((wR x y X).take (if (p : Int) ∈ (nd x (X : Int)).kids.take k then i + 1 else i))
def f4 (x y : List NodeP) (X i k j : Nat) (b : Int) : List (List Int) := rowsF x y X fun p => gK x y p ((wR x y X).take (if (p : Int) ∈ (nd x (X : Int)).kids.take k then i + 1 else i)) ++ (if (nd x (X : Int)).kids[k]? = some (p : Int) then gD x y p ((nd y b).kids.take j) else [])

theorem f2_zero (x y : List NodeP) (X : Nat) : f2 x y X 0 = f1 x y X := rowsF_congr fun p _ _ _ => by simp [gK]
theorem f2_full {x y : List NodeP} (hx : WF x) {X : Nat} : f2 x y X (wR x y X).length = f1 x y (X + 1) := by
  unfold f2 f1 rowsF
  apply List.map_congr_left
  intro p hp
  have hp := List.mem_range.1 hp
  by_cases h1 : p = 0 ∨ (nd x (p : Int)).parent < (X : Int)
  · rw [if_pos h1, if_pos (by omega)]
  · rw [if_neg h1]
    by_cases h2 : (nd x (p : Int)).parent = (X : Int)
    · rw [if_pos h2, if_pos (by omega), List.take_length, wR_gK hx hp (by omega) h2]
    · rw [if_neg h2, if_neg (by omega : ¬ (p = 0 ∨ (nd x (p : Int)).parent < ((X + 1 : Nat) : Int))), ite_self]
theorem f3_zero (x y : List NodeP) (X i : Nat) : f3 x y X i 0 = f2 x y X i := rowsF_congr fun p _ _ _ => by simp
theorem par_kid {x : List NodeP} (hx : WF x) {p X : Nat} (hp : p < x.length) (h : (nd x (p : Int)).parent = (X : Int)) : (p : Int) ∈ (nd x (X : Int)).kids := by
  have := kid_of_par hx (i := (p : Int)) (by omega) (by omega) (by rw [h]; omega)
  rw [h] at this; exact this
theorem f3_full {x y : List NodeP} (hx : WF x) {X i : Nat} : f3 x y X i (nd x (X : Int)).kids.length = f2 x y X (i + 1) := rowsF_congr fun p _ hp h => by
  rw [List.take_length, if_pos (par_kid hx hp h)]
theorem f4_zero (x y : List NodeP) (X i k : Nat) (b : Int) : f4 x y X i k 0 b = f3 x y X i k := rowsF_congr fun p _ _ _ => by simp [gD]
theorem nd_asc {x : List NodeP} (hx : WF x) {X : Nat} (hX : X < x.length) : (nd x (X : Int)).kids.Pairwise (· < ·) := by
  have := hx.asc X _ (List.getElem?_eq_getElem hX)
  rwa [nd_of (List.getElem?_eq_getElem hX)]
theorem mem_take_succ {l : List Int} {k : Nat} (hk : k < l.length) {p : Int} : p ∈ l.take (k + 1) ↔ p ∈ l.take k ∨ p = l[k] := by
  rw [List.take_add_one, List.getElem?_eq_getElem hk, Option.toList_some, List.mem_append, List.mem_singleton]
theorem not_take {l : List Int} (h : l.Pairwise (· < ·)) {k : Nat} (hk : k < l.length) : l[k] ∉ l.take k := by
  intro hm
  obtain ⟨j, hj, e⟩ := List.mem_iff_getElem.1 hm
  rw [List.getElem_take] at e
  rw [List.length_take] at hj
  have := List.pairwise_iff_getElem.1 h j k (by omega) hk (by omega)
  omega
theorem gK_succ {x y : List NodeP} {p i : Nat} {bs : List Int} (hi : i < bs.length) : gK x y p (bs.take (i + 1)) = gK x y p (bs.take i) ++ gD x y p (nd y bs[i]).kids := by
  unfold gK gD
  rw [List.take_add_one, List.getElem?_eq_getElem hi, List.flatMap_append]
  simp
theorem f4_full {x y : List NodeP} (hx : WF x) {X i k : Nat} (hX : X < x.length) (hi : i < (wR x y X).length) (hk : k < (nd x (X : Int)).kids.length) : f4 x y X i k (nd y (wR x y X)[i]).kids.length (wR x y X)[i] = f3 x y X i (k + 1) := rowsF_congr fun p _ hp h => by
  rw [List.take_length, List.getElem?_eq_getElem hk]
  have hn := not_take (nd_asc hx hX) hk
  by_cases e : (nd x (X : Int)).kids[k] = (p : Int)
  · rw [e] at hn
    rw [if_neg hn, if_pos (by rw [e]), if_pos ((mem_take_succ hk).2 (.inr e.symm)), gK_succ hi]
  · rw [if_neg (fun e' => e (Option.some.inj e')), List.append_nil]
    by_cases e2 : (p : Int) ∈ (nd x (X : Int)).kids.take k
    · rw [if_pos e2, if_pos ((mem_take_succ hk).2 (.inl e2))]
    · rw [if_neg e2, if_neg (fun h => by
        rcases (mem_take_succ hk).1 h with h | h
        · exact e2 h
        · exact e h.symm)]
theorem gD_succ {x y : List NodeP} {p j : Nat} {ds : List Int} (hj : j < ds.length) : gD x y p (ds.take (j + 1)) = gD x y p (ds.take j) ++ (if (nd x (p : Int)).kind = (nd y ds[j]).kind then [ds[j]] else []) := by
  unfold gD
  rw [List.take_add_one, List.getElem?_eq_getElem hj, List.filter_append]
  by_cases e : (nd x (p : Int)).kind = (nd y ds[j]).kind
  · rw [if_pos e]; simp [e]
  · rw [if_neg e]; simp [e]

theorem f4_at {x y : List NodeP} {X i k j : Nat} {b : Int} {p : Nat} (hp : p < (f4 x y X i k j b).length) : (f4 x y X i k j b)[p] = if p = 0 ∨ (nd x (p : Int)).parent < (X : Int) then wR x y p else if (nd x (p : Int)).parent = (X : Int) then gK x y p ((wR x y X).take (if (p : Int) ∈ (nd x (X : Int)).kids.take k then i + 1 else i)) ++ (if (nd x (X : Int)).kids[k]? = some (p : Int) then gD x y p ((nd y b).kids.take j) else []) else [] := rowsF_at hp
theorem f4_row {x y : List NodeP} (hx : WF x) {X i k j P : Nat} {b : Int} (hX : X < x.length) (hk : k < (nd x (X : Int)).kids.length) (hP : (nd x (X : Int)).kids[k] = (P : Int)) (hPl : P < (f4 x y X i k j b).length) :
    (f4 x y X i k j b)[P] = gK x y P ((wR x y X).take i) ++ gD x y P ((nd y b).kids.take j) ∧ P < x.length ∧ 0 < P ∧ (nd x (P : Int)).parent = (X : Int) := by
  have hm : (P : Int) ∈ (nd x (X : Int)).kids := by rw [← hP]; exact List.getElem_mem hk
  obtain ⟨m, md, h1, h2, h3, h4⟩ := hx.kid X _ (P : Int) (List.getElem?_eq_getElem hX) (by rwa [nd_of (List.getElem?_eq_getElem hX)] at hm)
  have : m = P := by omega
  subst this
  have hpar : (nd x (m : Int)).parent = (X : Int) := by rw [nd_of h1, h4]
  have hn := not_take (nd_asc hx hX) hk
  rw [hP] at hn
  refine ⟨?_, lt_of_some h1, by omega, hpar⟩
  rw [f4_at, if_neg (by omega), if_pos hpar, if_neg hn, if_pos (by rw [List.getElem?_eq_getElem hk, hP])]
theorem f4_succ {x y : List NodeP} (hx : WF x) {X i k j P : Nat} {b : Int} (hX : X < x.length) (hk : k < (nd x (X : Int)).kids.length) (hP : (nd x (X : Int)).kids[k] = (P : Int)) (hj : j < (nd y b).kids.length) :
    f4 x y X i k (j + 1) b = (f4 x y X i k j b).set P ((f4 x y X i k j b).getD P [] ++ (if (nd x (P : Int)).kind = (nd y (nd y b).kids[j]).kind then [(nd y b).kids[j]] else [])) := by
  have hl4 : ∀ j, (f4 x y X i k j b).length = x.length := fun j => rowsF_len _ _ _ _
  have hm : (P : Int) ∈ (nd x (X : Int)).kids := by rw [← hP]; exact List.getElem_mem hk
  have hPx : P < x.length := by
    obtain ⟨m, md, h1, h2, _⟩ := hx.kid X _ (P : Int) (List.getElem?_eq_getElem hX) (by rwa [nd_of (List.getElem?_eq_getElem hX)] at hm)
    have := lt_of_some h1
    omega
  apply List.ext_getElem
  · simp [hl4]
  · intro q h1 h2
    rw [List.getElem_set]
    by_cases e : P = q
    · subst e
      rw [if_pos rfl, List.getD_eq_getElem?_getD, List.getElem?_eq_getElem (by rw [hl4]; exact hPx), Option.getD_some, (f4_row hx hX hk hP h1).1, (f4_row hx hX hk hP (by rw [hl4]; exact hPx)).1, gD_succ hj, List.append_assoc]
    · rw [if_neg e]
      rw [f4_at, f4_at]
      have hne : ¬ (nd x (X : Int)).kids[k]? = some (q : Int) := by
        rw [List.getElem?_eq_getElem hk, hP]
        intro e2
        have := Option.some.inj e2
        omega
      rw [if_neg hne, if_neg hne]
theorem f4_len (x y : List NodeP) (X i k j : Nat) (b : Int) : (f4 x y X i k j b).length = x.length := rowsF_len _ _ _ _
theorem f1_len (x y : List NodeP) (X : Nat) : (f1 x y X).length = x.length := rowsF_len _ _ _ _
theorem f2_len (x y : List NodeP) (X i : Nat) : (f2 x y X i).length = x.length := rowsF_len _ _ _ _
theorem f2_row {x y : List NodeP} (hx : WF x) {X i : Nat} (hX : X < (f2 x y X i).length) : (f2 x y X i)[X] = wR x y X := by
  have e0 : (f2 x y X i)[X] = if X = 0 ∨ (nd x (X : Int)).parent < (X : Int) then wR x y X else if (nd x (X : Int)).parent = (X : Int) then gK x y X ((wR x y X).take i) else [] := rowsF_at hX
  rw [f2_len] at hX
  rw [e0, if_pos]
  rcases Nat.eq_zero_or_pos X with e | e
  · exact .inl e
  · obtain ⟨j, jd, _, j2, j3, _⟩ := hx.par X _ (List.getElem?_eq_getElem hX) e
    refine .inr ?_
    rw [nd_of (List.getElem?_eq_getElem hX), j3]
    omega
theorem wR_len {x y : List NodeP} (px : PO x) (py : PO y) {i : Nat} (hi : i < x.length) : (wR x y i).length ≤ y.length := by
  obtain ⟨g1, g2⟩ := wR_ok px py i i (Nat.le_refl _) hi
  have := asc_ints (l := wR x y i) (lo := 0) (hi := y.length) (List.Pairwise.imp_of_mem (fun {b c} hb hc hbc => by have := size_ge py.wf (g1 b hb).1 (g1 b hb).2; omega) g2) g1 (by omega)
  omega
theorem f4_row_len {x y : List NodeP} (px : PO x) (py : PO y) {X i P j : Nat} (hi : i < (wR x y X).length) (hP : P < x.length) (h0 : 0 < P) (hpar : (nd x (P : Int)).parent = (X : Int)) :
    (gK x y P ((wR x y X).take i) ++ gD x y P ((nd y (wR x y X)[i]).kids.take j)).length ≤ y.length := by
  have h1 := wR_len px py (y := y) hP
  rw [wR_gK px.wf hP h0 hpar] at h1
  have h2 : gK x y P (wR x y X) = gK x y P ((wR x y X).take (i + 1)) ++ gK x y P ((wR x y X).drop (i + 1)) := by
    unfold gK
    rw [← List.flatMap_append, List.take_append_drop]
  rw [h2, gK_succ hi, List.length_append, List.length_append] at h1
  have h3 : (gD x y P ((nd y (wR x y X)[i]).kids.take j)).length ≤ (gD x y P (nd y (wR x y X)[i]).kids).length := by
    unfold gD
    exact ((List.take_sublist _ _).filter _).length_le
  rw [List.length_append]
  omega

def oP (x y : List NodeP) (X i : Nat) : List (Int × Int) := ((List.range X).flatMap fun i => (wR x y i).map fun b => ((i : Int), b)) ++ ((wR x y X).take i).map fun b => ((X : Int), b)
theorem oP_succ {x y : List NodeP} {X i : Nat} (hi : i < (wR x y X).length) : oP x y X (i + 1) = oP x y X i ++ [((X : Int), (wR x y X)[i])] := by
  unfold oP
  rw [List.take_add_one, List.getElem?_eq_getElem hi, List.map_append, List.append_assoc]
  simp
theorem oP_next (x y : List NodeP) (X : Nat) : oP x y X (wR x y X).length = oP x y (X + 1) 0 := by
  unfold oP
  rw [List.range_succ, List.flatMap_append]
  simp
theorem oP_zero (x y : List NodeP) : oP x y 0 0 = [] := by simp [oP]
theorem oP_all (x y : List NodeP) : oP x y x.length 0 = allC x y := by simp [oP, allC]
theorem oP_pre {x y : List NodeP} {X i : Nat} (hX : X < x.length) : oP x y X i <+: allC x y := by
  have h1 : oP x y X i <+: oP x y (X + 1) 0 := by
    rw [← oP_next]
    unfold oP
    rw [List.take_length]
    exact (List.prefix_append_right_inj _).2 ((List.take_prefix _ _).map _)
  refine h1.trans ?_
  unfold oP allC
  simp only [List.take_zero, List.map_nil, List.append_nil]
  have : List.range x.length = List.range (X + 1) ++ (List.range (x.length - (X + 1))).map (X + 1 + ·) := by
    rw [← List.range_add]; congr 1; omega
  rw [this, List.flatMap_append]
  exact List.prefix_append _ _
theorem allC_len {x y : List NodeP} (px : PO x) (py : PO y) : (allC x y).length ≤ x.length * y.length := by
  have key : ∀ n, n ≤ x.length → ((List.range n).flatMap fun i => (wR x y i).map fun b => ((i : Int), b)).length ≤ n * y.length := by
    intro n
    induction n with
    | zero => intro _; simp
    | succ n ih =>
      intro hn
      have h1 := ih (by omega)
      have h2 := wR_len px py (y := y) (i := n) (by omega)
      rw [List.range_succ, List.flatMap_append, List.length_append, Nat.add_mul]
      simp only [List.flatMap_cons, List.flatMap_nil, List.append_nil, List.length_map]
      omega
  exact key x.length (Nat.le_refl _)
theorem oP_take {x y : List NodeP} {X i m : Nat} (hX : X < x.length) (h : (oP x y X i).length = m) : (allC x y).take m = oP x y X i := by
  obtain ⟨r, hr⟩ := oP_pre (i := i) (y := y) hX
  rw [← hr, ← h]
  simp
theorem allC_in {x y : List NodeP} (px : PO x) (py : PO y) : ∀ q ∈ allC x y, InR x y q := by
  intro q hq
  obtain ⟨i, hi, h1, h2⟩ := mem_allC.1 hq
  obtain ⟨g1, _⟩ := wR_ok px py i i (Nat.le_refl _) hi
  have := g1 _ h2
  exact ⟨by omega, by omega, this.1, this.2⟩
end Go.Proofs.Ytfifbadepebpeaa

/- The state of the reference's compared: the rows, the pairs. -/
namespace Go.Proofs.Ytfifbadepebpeaa
open Go.RowKit

structure CpI (w0 : World) (h : Hp) (n : Nat) (rows : List (List Int)) (out : List (Int × Int)) (wr : World) (gk ck : Nat) (vo : Value) (vals : List Value) : Prop where
  st : St w0.heap.size h w0 h wr
  ok : Ow wr h w0.heap.size 35 1 (.slice (some ⟨gk, 0, none⟩) n ck) n vals
  oo : PrOw wr h w0.heap.size vo out
  fam : Fam wr h w0.heap.size vals rows
  apart : (vo :: .slice (some ⟨gk, 0, none⟩) n ck :: vals).Pairwise Apart

section
variable {w0 : World} {h : Hp} {n : Nat} {rows : List (List Int)} {out : List (Int × Int)} {wr : World} {gk ck : Nat} {vo : Value} {vals : List Value}

theorem CpI.below (L : CpI w0 h n rows out wr gk ck vo vals) {W : World} (hb : Below wr.heap.size wr W) : CpI w0 h n rows out W gk ck vo vals :=
  ⟨L.st.same hb, Ow.same L.ok hb, Ow.same L.oo hb, L.fam.keep (fun u hu g hg => by
    obtain ⟨k, hk, rfl⟩ := List.mem_iff_getElem.1 hu
    exact hb.block g (Ow.lt (L.fam.own k hk (by rw [← L.fam.len]; exact hk)) g hg).2), L.apart⟩
theorem CpI.alloc (L : CpI w0 h n rows out wr gk ck vo vals) (o : Obj) : CpI w0 h n rows out (wr.alloc o) gk ck vo vals := L.below ((Below.refl _ _).alloc (Nat.le_refl _) o)
theorem CpI.lts (L : CpI w0 h n rows out wr gk ck vo vals) : ∀ u ∈ (vo :: .slice (some ⟨gk, 0, none⟩) n ck :: vals), ∀ g, u.ownBlock = some g → g < wr.heap.size := by
  intro u hu g hg
  simp only [List.mem_cons] at hu
  rcases hu with rfl | rfl | hu
  · exact (Ow.lt L.oo g hg).2
  · exact (Ow.lt L.ok g hg).2
  · obtain ⟨k, hk, rfl⟩ := List.mem_iff_getElem.1 hu
    exact (Ow.lt (L.fam.own k hk (by rw [← L.fam.len]; exact hk)) g hg).2

theorem CpI.pair (L : CpI w0 h n rows out wr gk ck vo vals) {p : Int × Int} {w3 : World} {v' : Value} (st : St w0.heap.size h w0 h w3) (own : Ow w3 h w0.heap.size 52 2 v' (out.length + 1) (out.flatMap encP ++ encP p)) (gr : wr.grownBy w3 vo.ownBlock)
    (bk : v'.ownBlock = vo.ownBlock ∨ v'.ownBlock = some wr.heap.size) : CpI w0 h n rows (out ++ [p]) w3 gk ck v' vals := by
  have ap := L.apart
  have lt := L.lts
  have hset : (v' :: .slice (some ⟨gk, 0, none⟩) n ck :: vals).Pairwise Apart := apart_set (k := 0) (v := v') ap lt (by simp) (bk.imp id fun e => ⟨_, e, Nat.le_refl _⟩)
  have two : ∀ j (hj : j < (vo :: .slice (some ⟨gk, 0, none⟩) n ck :: vals).length), j ≠ 0 → ∀ g, (vo :: .slice (some ⟨gk, 0, none⟩) n ck :: vals)[j].ownBlock = some g → g < wr.heap.size ∧ vo.ownBlock ≠ some g := fun j hj h1 g hgg =>
    ⟨lt _ (List.getElem_mem hj) g hgg, fun e => apart_ne ap hj (by simp : 0 < _) h1 g hgg e⟩
  refine ⟨st, L.ok.grown gr (fun g hg => (two 1 (by simp) (by omega) g hg).2), ?_, L.fam.keep (fun u hu g hg => ?_), hset⟩
  · unfold PrOw
    rw [List.length_append, List.flatMap_append]
    simpa using own
  · obtain ⟨k, hk, rfl⟩ := List.mem_iff_getElem.1 hu
    have := two (k + 2) (by simpa using hk) (by omega) g (by simpa using hg)
    exact gr.block g this.1 (fun e => this.2 e.symm)

theorem CpI.set (L : CpI w0 h n rows out wr gk ck vo vals) {p : Nat} (hp : p < n) {w3 : World} {v' : Value} {r : List Int} (hpv : p < vals.length) (st : St w0.heap.size h w0 h w3) (hg : wr.grownBy w3 vals[p].ownBlock)
    (ho : InOw w3 h w0.heap.size v' r) (hk : v'.ownBlock = vals[p].ownBlock ∨ v'.ownBlock = some wr.heap.size) :
    CpI w0 h n (rows.set p r) out (w3.setCell ⟨gk, p, none⟩ v') gk ck vo (vals.set p v') := by
  have ap := L.apart
  have lt := L.lts
  have hset : (vo :: .slice (some ⟨gk, 0, none⟩) n ck :: vals.set p v').Pairwise Apart := apart_set (k := p + 2) (v := v') ap lt (by simpa using hpv) (hk.imp id fun e => ⟨_, e, Nat.le_refl _⟩)
  have two : ∀ j (hj : j < (vo :: .slice (some ⟨gk, 0, none⟩) n ck :: vals).length), j ≠ p + 2 → j ≠ 1 → ∀ g, (vo :: .slice (some ⟨gk, 0, none⟩) n ck :: vals)[j].ownBlock = some g → g < wr.heap.size ∧ vals[p].ownBlock ≠ some g ∧ g ≠ gk := fun j hj h1 h2' g hgg => by
    refine ⟨lt _ (List.getElem_mem hj) g hgg, fun e => ?_, fun e => ?_⟩
    · exact apart_ne ap hj (by simpa using hpv : p + 2 < _) h1 g hgg e
    · subst e; exact apart_ne ap hj (by simp : 1 < _) h2' g hgg rfl
  have nk : vals[p].ownBlock ≠ some gk := fun e => apart_ne ap (by simpa using hpv : p + 2 < _) (by simp : 1 < _) (by omega) gk e rfl
  have nv : v'.ownBlock ≠ some gk := fun e => apart_ne hset (by simpa using hpv : p + 2 < _) (by simp : 1 < _) (by omega) gk (by simpa using e) rfl
  have hokn : h gk = none := L.ok.free gk rfl
  have hgk := L.ok.lt gk rfl
  have ok3 : Ow w3 h w0.heap.size 35 1 (.slice (some ⟨gk, 0, none⟩) n ck) n vals := L.ok.grown hg (fun g hgg e => by simp only [Value.ownBlock, Option.some.injEq] at hgg; subst hgg; exact nk e)
  refine ⟨st.setCell (p := ⟨gk, p, none⟩) hgk.1 hokn _, ok3.set p v' (by omega), ?_, ?_, hset⟩
  · exact L.oo.keep (keep_at hg (two 0 (by simp) (by omega) (by omega))) (fun _ _ => rfl)
  · exact L.fam.set hpv (Ow.setCell ho (p := ⟨gk, p, none⟩) nv _) (fun j hj hjp g hgg => keep_at hg (two (j + 2) (by simpa using hj) (by omega) (by omega)) g (by simpa using hgg))

theorem CpI.vlen (L : CpI w0 h n rows out wr gk ck vo vals) : vals.length = n := by have := L.ok.len; omega
theorem CpI.at_ (L : CpI w0 h n rows out wr gk ck vo vals) {X : Nat} (hX : X < n) (hv : X < vals.length) (hr : X < rows.length) : gk < wr.heap.size ∧ wr.cell? ⟨gk, X, none⟩ = some vals[X] ∧ ∃ a c, vals[X] = .slice a rows[X].length c ∧
    (0 < rows[X].length → ∃ b, a = some ⟨b, 0, none⟩ ∧ b < wr.heap.size ∧ ∀ i (hi : i < rows[X].length), wr.cell? ⟨b, i, none⟩ = some (.int .i64 rows[X][i])) := by
  obtain ⟨g, e, h1, h2, h3, h4, h5⟩ := L.ok.cell (by omega)
  simp only [Option.some.injEq, Addr.mk.injEq, and_true] at e
  subst e
  have o := L.fam.own X hv hr
  obtain ⟨a, c, e⟩ := Ow.shape o
  refine ⟨h2, h4 X _ (List.getElem?_eq_getElem hv), a, c, e, fun hp => ?_⟩
  unfold InOw at o
  rw [e] at o
  obtain ⟨b, rfl, g1, g2, g3, g4, _⟩ := Ow.cell o hp
  exact ⟨b, rfl, g2, fun i hi => g4 i _ (encI_at _ i hi)⟩
theorem CpI.okg (L : CpI w0 h n rows out wr gk ck vo vals) {p : Nat} (hp : p < n) (hpv : p < vals.length) {w3 : World} (hg : wr.grownBy w3 vals[p].ownBlock) : w3.cell? ⟨gk, p, none⟩ = some vals[p] ∧ w3.frozen? ⟨gk, p, none⟩ = false ∧ gk < w3.heap.size := by
  have nk : vals[p].ownBlock ≠ some gk := fun e => apart_ne L.apart (by simpa using hpv : p + 2 < _) (by simp : 1 < _) (by omega) gk e rfl
  have ok3 : Ow w3 h w0.heap.size 35 1 (.slice (some ⟨gk, 0, none⟩) n ck) n vals := L.ok.grown hg (fun g hgg e => by simp only [Value.ownBlock, Option.some.injEq] at hgg; subst hgg; exact nk e)
  obtain ⟨g, e, h1, h2, h3, h4, h5⟩ := ok3.cell (by omega)
  simp only [Option.some.injEq, Addr.mk.injEq, and_true] at e
  subst e
  exact ⟨h4 p _ (List.getElem?_eq_getElem hpv), h5 p, h2⟩
end

theorem NumO.rowN {h : Hp} {x : List NodeP} {bn on bp op bs os bk ok : Nat} (O : NumO h x bn on bp op bs os bk ok) {i : Nat} (hi : i < x.length) : ∃ ar cr, Ints h (.slice ar (nd x (i : Int)).kids.length cr) (nd x (i : Int)).kids ∧ ∀ w, Imm h w → w.cell? ⟨bk, ok + i, none⟩ = some (.slice ar (nd x (i : Int)).kids.length cr) := by
  rw [nd_of (List.getElem?_eq_getElem hi)]; exact O.row i hi
theorem NumO.kindN {h : Hp} {x : List NodeP} {bn on bp op bs os bk ok : Nat} (O : NumO h x bn on bp op bs os bk ok) {i : Nat} (hi : i < x.length) {w : World} (hw : Imm h w) : bn < w.heap.size ∧ bk < w.heap.size ∧ w.cell? ⟨bn, on + i * 4, none⟩ = some (.int .i64 (nd x (i : Int)).kind) := by
  rw [nd_of (List.getElem?_eq_getElem hi)]
  exact ⟨(O.at_ w hw).1.1, (O.at_ w hw).1.2.2.2, ((O.at_ w hw).2 i hi).1⟩

theorem cEnd {h : Hp} {w w2 wr : World} {n gk ck m : Nat} {v : Value} {rows : List (List Int)} {out : List (Int × Int)} {vals : List Value} {x y : List NodeP} (S2 : St w.heap.size h w h w2) (L : CpI w2 h n rows out wr gk ck v vals) (hz : w.heap.size ≤ w2.heap.size) (he : out = (allC x y).take m) (px : PO x) (py : PO y) (sx : x.length ≤ 262144) (sy : y.length ≤ 262144) :
    ∃ v', Ending.returned v = .returned v' ∧ ∃ h', St w.heap.size h w h' wr ∧ Prs h' v' ((allC x y).take m) := by
  have SS := S2.call L.st
  have hxy : x.length * y.length ≤ 262144 * 262144 := Nat.mul_le_mul sx sy
  have hl := allC_len px py
  have hlt : ((allC x y).take m).length ≤ (allC x y).length := by rw [List.length_take]; omega
  refine ⟨v, rfl, _, SS.fr, ?_, fun q hq => ?_⟩
  · have := (Ow.base L.oo (B' := w.heap.size) hz).sl (by rw [he]; omega)
    rw [he] at this
    exact this
  · have := allC_in px py q ((List.take_sublist _ _).subset hq)
    unfold InR at this
    unfold I64
    omega

theorem f1_start {x y : List NodeP} (hx : WF x) : f1 x y 0 = (List.replicate x.length []).set 0 [0] := by
  apply List.ext_getElem
  · simp [f1_len]
  · intro p h1 h2
    rw [f1_len] at h1
    rw [List.getElem_set, List.getElem_replicate]
    rw [show (f1 x y 0)[p] = if p = 0 ∨ (nd x (p : Int)).parent < ((0 : Nat) : Int) then wR x y p else if (nd x (p : Int)).parent = ((0 : Nat) : Int) then [] else [] from rowsF_at (by rw [rowsF_len]; exact h1)]
    by_cases e : 0 = p
    · subst e; rw [if_pos (.inl rfl), if_pos rfl, wR_zero]
    · obtain ⟨j, jd, _, j2, j3, _⟩ := hx.par p _ (List.getElem?_eq_getElem h1) (by omega)
      rw [if_neg e, if_neg, ite_self]
      · rw [nd_of (List.getElem?_eq_getElem h1), j3]; omega
theorem set_alloc (w : World) {p : Addr} (hp : p.block < w.heap.size) (v : Value) (o : Obj) : (w.alloc o).setCell p v = (w.setCell p v).alloc o := by
  cases w
  simp only [World.alloc, World.setCell, World.mk.injEq, and_true]
  simp only at hp
  apply Array.ext_getElem?
  intro i
  simp only [Array.getElem?_modify, Array.getElem?_push, Array.size_modify]
  by_cases e : p.block = i
  · subst e
    simp [Nat.ne_of_lt hp]
  · simp [e]
theorem CpI.start {w0 w4 : World} {h : Hp} {x : List NodeP} (y : List NodeP) (hx : WF x) (st : St w0.heap.size h w0 h w4) {g : Nat} (own : Ow w4 h w0.heap.size 35 1 (.slice (some ⟨g, 0, none⟩) x.length x.length) x.length (List.replicate x.length (.slice none 0 0))) :
    CpI w0 h x.length (f1 x y 0) [] ((w4.setCell ⟨g, 0, none⟩ (.slice (some ⟨w4.heap.size, 0, none⟩) 1 1)).alloc (.cells #[.int .i64 0] 3)) g x.length (.slice none 0 0) ((List.replicate x.length (.slice none 0 0)).set 0 (.slice (some ⟨w4.heap.size, 0, none⟩) 1 1)) := by
  have nn : ∀ g, (Value.slice none 0 0).ownBlock ≠ some g := fun g e => by simp [Value.ownBlock] at e
  have L0 : CpI w0 h x.length (List.replicate x.length []) [] w4 g x.length (.slice none 0 0) (List.replicate x.length (.slice none 0 0)) := by
    refine ⟨st, own, Ow.nil _ _ _ _ _, ⟨by simp, fun k h1 h2 => ?_⟩, ?_⟩
    · rw [List.getElem_replicate, List.getElem_replicate]; exact Ow.nil _ _ _ _ _
    · rw [List.pairwise_cons, List.pairwise_cons]
      refine ⟨fun u _ g hg => absurd hg (nn g), fun u hu g hg e => ?_, ?_⟩
      · simp only [List.mem_replicate] at hu; rw [hu.2] at e; exact nn g e
      · rw [List.pairwise_replicate]; exact .inr (fun g hg => absurd hg (nn g))
  rw [f1_start hx, ← set_alloc w4 (p := ⟨g, 0, none⟩) (own.lt g rfl).2]
  have hl : 0 < (List.replicate x.length (Value.slice none 0 0)).length := by simpa using hx.pos
  refine L0.set (p := 0) (w3 := w4.alloc (.cells #[.int .i64 0] 3)) hx.pos hl (st.alloc _) (grown_alloc (World.grownBy.refl _ _) _) ?_ (.inr rfl)
  exact own_lit (w := w4) st.imm st.size [.int .i64 0] 1 1 3 (by simp [maxLen]) rfl
end Go.Proofs.Ytfifbadepebpeaa
