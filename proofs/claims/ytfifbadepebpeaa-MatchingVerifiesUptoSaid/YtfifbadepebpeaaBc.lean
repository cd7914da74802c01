/- Preorder: the numbers below a node, and pairs in preorder. -/
import Derived.Test.YtfifbadepebpeaaWm
import Derived.Test.YtfifbadepebpeaaBh
import Derived.Test.YtfifbadepebpeaaAy
import Derived.Test.YtfifbadepebpeaaBd
namespace Go.Proofs.Ytfifbadepebpeaa

def Spans (x : List NodeP) : Int → Int → List Int → Prop
  | s, e, [] => s = e
  | s, e, c :: cs => c = s ∧ Spans x (s + (nd x c).size) e cs

theorem nd_eq {X : List NodeP} {n : Nat} {v : NodeP} (h : X[n]? = some v) : nd X (n : Int) = v := nd_of h

mutual
theorem spans_at : ∀ (t : Tree) (p : Int) (n : Nat) (X : List NodeP), (∀ m, m < t.size → X[n + m]? = (flatAt t p n)[m]?) → ∀ m, m < t.size →
    Spans X (((n + m : Nat) : Int) + 1) (((n + m : Nat) : Int) + (nd X ((n + m : Nat) : Int)).size) (nd X ((n + m : Nat) : Int)).kids
  | .node k s l ks, p, n, X, h, m, hm => by
    have hk := spans_kids ks n (n + 1) X (fun m hm => by
      have := h (m + 1) (by rw [Tree.size]; omega)
      rw [flatAt, List.getElem?_cons_succ] at this
      rw [← this]
      congr 1
      omega)
    cases m with
    | zero =>
      have h0 := h 0 hm
      rw [flatAt, List.getElem?_cons_zero] at h0
      rw [nd_eq h0]
      simp only [Nat.add_zero]
      have e : ((n : Int) + ((sizes ks : Int) + 1)) = ((n + 1 : Nat) : Int) + (sizes ks : Int) := by omega
      rw [e]
      exact hk.1
    | succ m =>
      have := hk.2 m (by rw [Tree.size] at hm; omega)
      rw [show n + 1 + m = n + (m + 1) by omega] at this
      exact this
theorem spans_kids : ∀ (ts : List Tree) (p n : Nat) (X : List NodeP), (∀ m, m < sizes ts → X[n + m]? = (flatKids ts p n)[m]?) →
    Spans X (n : Int) ((n : Int) + (sizes ts : Int)) (kidNums ts n) ∧ ∀ m, m < sizes ts → Spans X (((n + m : Nat) : Int) + 1) (((n + m : Nat) : Int) + (nd X ((n + m : Nat) : Int)).size) (nd X ((n + m : Nat) : Int)).kids
  | [], p, n, X, h => by
    refine ⟨by simp [kidNums, Spans, sizes], fun m hm => by simp [sizes] at hm⟩
  | t :: ts, p, n, X, h => by
    have hp : 0 < t.size := by have := t.size_eq; omega
    have h1 : ∀ m, m < t.size → X[n + m]? = (flatAt t p n)[m]? := fun m hm => by
      rw [h m (by rw [sizes_cons]; omega), flatKids_cons, List.getElem?_append_left (by rw [flatAt_length]; exact hm)]
    have h2 : ∀ m, m < sizes ts → X[n + t.size + m]? = (flatKids ts p (n + t.size))[m]? := fun m hm => by
      have := h (t.size + m) (by rw [sizes_cons]; omega)
      rw [flatKids_cons, List.getElem?_append_right (by rw [flatAt_length]; omega), flatAt_length, Nat.add_sub_cancel_left] at this
      rw [← this, Nat.add_assoc]
    have k1 := spans_at t p n X h1
    have k2 := spans_kids ts p (n + t.size) X h2
    refine ⟨?_, ?_⟩
    · rw [kidNums, Spans]
      refine ⟨rfl, ?_⟩
      have h0 := h1 0 hp
      rw [flatAt_eq, List.getElem?_cons_zero, Nat.add_zero] at h0
      rw [nd_eq h0, sizes_cons]
      have e : (n : Int) + (t.size : Int) = ((n + t.size : Nat) : Int) := by omega
      have e2 : (n : Int) + ((t.size + sizes ts : Nat) : Int) = ((n + t.size : Nat) : Int) + (sizes ts : Int) := by omega
      rw [e2]
      simp only
      rw [e]
      exact k2.1
    · intro m hm
      rcases Nat.lt_or_ge m t.size with hl | hl
      · exact k1 m hl
      · have := k2.2 (m - t.size) (by rw [sizes_cons] at hm; omega)
        rw [show n + t.size + (m - t.size) = n + m by omega] at this
        exact this
end

structure PO (x : List NodeP) : Prop where
  wf : WF x
  sp : ∀ i : Int, 0 ≤ i → i < x.length → Spans x (i + 1) (i + (nd x i).size) (nd x i).kids

theorem flatP_po (t : Tree) : PO (flatP t) := by
  refine ⟨flatP_wf t, fun i h0 h1 => ?_⟩
  have := spans_at t (-1) 0 (flatP t) (fun m _ => by rw [Nat.zero_add]; rfl) i.toNat (by rw [flatP_length] at h1; omega)
  rw [show ((0 + i.toNat : Nat) : Int) = i by omega] at this
  exact this

theorem Spans.bd {x : List NodeP} : ∀ {cs : List Int} {s e : Int}, Spans x s e cs → (∀ c ∈ cs, 1 ≤ (nd x c).size) → s ≤ e ∧ ∀ c ∈ cs, s ≤ c ∧ c + (nd x c).size ≤ e
  | [], s, e, h, _ => by simp only [Spans] at h; subst h; exact ⟨by omega, fun c hc => by simp at hc⟩
  | c :: cs, s, e, h, hs => by
    obtain ⟨rfl, h⟩ := h
    have h1 := hs c (by simp)
    obtain ⟨a, b⟩ := Spans.bd h (fun d hd => hs d (by simp [hd]))
    refine ⟨by omega, fun d hd => ?_⟩
    rcases List.mem_cons.1 hd with rfl | hd
    · omega
    · have := b d hd; omega
theorem Spans.sep {x : List NodeP} : ∀ {cs : List Int} {s e : Int}, Spans x s e cs → (∀ c ∈ cs, 1 ≤ (nd x c).size) → cs.Pairwise fun c d => c + (nd x c).size ≤ d
  | [], s, e, _, _ => by simp
  | c :: cs, s, e, h, hs => by
    obtain ⟨rfl, h⟩ := h
    rw [List.pairwise_cons]
    exact ⟨fun d hd => ((Spans.bd h (fun d hd => hs d (by simp [hd]))).2 d hd).1, Spans.sep h (fun d hd => hs d (by simp [hd]))⟩

theorem PO.kid {x : List NodeP} (p : PO x) {i c : Int} (h0 : 0 ≤ i) (h1 : i < x.length) (hc : c ∈ (nd x i).kids) : i + 1 ≤ c ∧ c + (nd x c).size ≤ i + (nd x i).size :=
  ((p.sp i h0 h1).bd (fun d hd => by obtain ⟨a1, a2, _⟩ := kid_inr p.wf h0 h1 hd; exact size_ge p.wf a1 a2)).2 c hc
theorem pair_of {R : Int → Int → Prop} : ∀ {l : List Int}, l.Pairwise (· < ·) → l.Pairwise R → ∀ {a b : Int}, a ∈ l → b ∈ l → a < b → R a b
  | u :: l, h1, h2, a, b, ha, hb, hab => by
    rw [List.pairwise_cons] at h1 h2
    rcases List.mem_cons.1 ha with e | ha'
    · rcases List.mem_cons.1 hb with e' | hb'
      · omega
      · rw [e]; exact h2.1 b hb'
    · rcases List.mem_cons.1 hb with e' | hb'
      · have := h1.1 a ha'; omega
      · exact pair_of h1.2 h2.2 ha' hb' hab
theorem PO.sep {x : List NodeP} (p : PO x) {i c d : Int} (h0 : 0 ≤ i) (h1 : i < x.length) (hc : c ∈ (nd x i).kids) (hd : d ∈ (nd x i).kids) (hcd : c < d) : c + (nd x c).size ≤ d :=
  pair_of (p.wf.asc i.toNat _ (nd_get h0 h1)) ((p.sp i h0 h1).sep (fun d hd => by obtain ⟨a1, a2, _⟩ := kid_inr p.wf h0 h1 hd; exact size_ge p.wf a1 a2)) hc hd hcd

def foll (k : Int × Int → List (Int × Int)) : Nat → Int × Int → List (Int × Int)
  | 0, _ => []
  | f + 1, p => p :: (k p).flatMap (foll k f)

structure KA (x y : List NodeP) (k : Int × Int → List (Int × Int)) : Prop where
  kf : KF x y k
  asc : ∀ p, InR x y p → Asc (k p)

section
variable {x y : List NodeP} {k : Int × Int → List (Int × Int)}

theorem KA.kids (K : KA x y k) (px : PO x) (py : PO y) {p q : Int × Int} (hp : InR x y p) (hq : q ∈ k p) : InR x y q ∧ q.1 ∈ (nd x p.1).kids ∧ q.2 ∈ (nd y p.2).kids := by
  obtain ⟨h1, _, h3, h4⟩ := K.kf.inr p hp q hq
  have g1 := kid_of_par px.wf h1.1 h1.2.1 (by rw [h3]; exact hp.1)
  have g2 := kid_of_par py.wf h1.2.2.1 h1.2.2.2 (by rw [h4]; exact hp.2.2.1)
  rw [h3] at g1
  rw [h4] at g2
  exact ⟨h1, g1, g2⟩

theorem foll_in (K : KA x y k) (px : PO x) (py : PO y) : ∀ (f : Nat) (p : Int × Int), InR x y p → ∀ r ∈ foll k f p, InR x y r ∧ p.1 ≤ r.1 ∧ r.1 < p.1 + (nd x p.1).size ∧ p.2 ≤ r.2 ∧ r.2 < p.2 + (nd y p.2).size
  | 0, p, _, r, hr => by simp [foll] at hr
  | f + 1, p, hp, r, hr => by
    rw [foll] at hr
    rcases List.mem_cons.1 hr with rfl | hr
    · have := size_ge px.wf hp.1 hp.2.1
      have := size_ge py.wf hp.2.2.1 hp.2.2.2
      exact ⟨hp, by omega, by omega, by omega, by omega⟩
    · obtain ⟨q, hq, hr⟩ := List.mem_flatMap.1 hr
      obtain ⟨q1, q2, q3⟩ := K.kids px py hp hq
      obtain ⟨r0, r1, r2, r3, r4⟩ := foll_in K px py f q q1 r hr
      have a := px.kid hp.1 hp.2.1 q2
      have b := py.kid hp.2.2.1 hp.2.2.2 q3
      exact ⟨r0, by omega, by omega, by omega, by omega⟩

theorem foll_asc (K : KA x y k) (px : PO x) (py : PO y) : ∀ (f : Nat) (p : Int × Int), InR x y p → Asc (foll k f p)
  | 0, p, _ => by simp [foll, Asc]
  | f + 1, p, hp => by
    rw [foll]
    unfold Asc
    rw [List.pairwise_cons]
    refine ⟨fun r hr => ?_, ?_⟩
    · obtain ⟨q, hq, hr⟩ := List.mem_flatMap.1 hr
      obtain ⟨q1, q2, q3⟩ := K.kids px py hp hq
      obtain ⟨r0, r1, r2, r3, r4⟩ := foll_in K px py f q q1 r hr
      have a := px.kid hp.1 hp.2.1 q2
      have b := py.kid hp.2.2.1 hp.2.2.2 q3
      omega
    · rw [List.pairwise_flatMap]
      refine ⟨fun q hq => foll_asc K px py f q (K.kids px py hp hq).1, ?_⟩
      refine List.Pairwise.imp_of_mem ?_ (K.asc p hp)
      intro q r hq hr hqr u hu v hv
      obtain ⟨q1, q2, q3⟩ := K.kids px py hp hq
      obtain ⟨r1, r2, r3⟩ := K.kids px py hp hr
      obtain ⟨_, u1, u2, u3, u4⟩ := foll_in K px py f q q1 u hu
      obtain ⟨_, v1, v2, v3, v4⟩ := foll_in K px py f r r1 v hv
      have a := px.sep hp.1 hp.2.1 q2 r2 hqr.1
      have b := py.sep hp.2.2.1 hp.2.2.2 q3 r3 hqr.2
      omega

theorem foll_self (_K : KF x y k) {f : Nat} {p : Int × Int} (hp : InR x y p) (h : (x.length : Int) - p.1 ≤ f) : p ∈ foll k f p := by
  obtain ⟨f, rfl⟩ : ∃ g, f = g + 1 := ⟨f - 1, by have := hp.2.1; omega⟩
  rw [foll]; simp

theorem foll_closed (K : KF x y k) : ∀ (f : Nat) (p : Int × Int), InR x y p → (x.length : Int) - p.1 ≤ f → ∀ r ∈ foll k f p, ∀ q ∈ k r, q ∈ foll k f p
  | 0, p, hp, h, r, hr, q, hq => by simp [foll] at hr
  | f + 1, p, hp, h, r, hr, q, hq => by
    rw [foll] at hr ⊢
    refine List.mem_cons_of_mem _ (List.mem_flatMap.2 ?_)
    rcases List.mem_cons.1 hr with rfl | hr
    · obtain ⟨q1, q2, _⟩ := K.inr r hp q hq
      exact ⟨q, hq, foll_self K q1 (by omega)⟩
    · obtain ⟨s, hs, hr⟩ := List.mem_flatMap.1 hr
      obtain ⟨s1, s2, _⟩ := K.inr p hp s hs
      exact ⟨s, hs, foll_closed K f s s1 (by omega) r hr q hq⟩

theorem foll_sub {l : List (Int × Int)} (hc : ∀ p ∈ l, ∀ q ∈ k p, q ∈ l) : ∀ (f : Nat) (p : Int × Int), p ∈ l → ∀ r ∈ foll k f p, r ∈ l
  | 0, p, _, r, hr => by simp [foll] at hr
  | f + 1, p, hp, r, hr => by
    rw [foll] at hr
    rcases List.mem_cons.1 hr with rfl | hr
    · exact hp
    · obtain ⟨q, hq, hr⟩ := List.mem_flatMap.1 hr
      exact foll_sub hc f q (hc p hp q hq) r hr

theorem inr0 (px : PO x) (py : PO y) : InR x y (0, 0) := ⟨by simp, by have := px.wf.pos; simp only; omega, by simp, by have := py.wf.pos; simp only; omega⟩

theorem asc_lt {l : List (Int × Int)} (h : Asc l) : l.Pairwise ltP := h.imp fun hab => .inl hab.1
theorem asc_nodup {l : List (Int × Int)} (h : Asc l) : l.Nodup := h.imp fun {a b} hab e => by subst e; omega

theorem good_mem (K : KF x y k) (px : PO x) (py : PO y) {l : List (Int × Int)} (g : Good x y k l l.length) : ∀ (n : Nat) (r : Int × Int), r ∈ l → r.1 ≤ n → r ∈ foll k x.length (0, 0) := by
  intro n
  induction n using Nat.strongRecOn with
  | _ n ih =>
    intro r hr hn
    rw [g.eq, List.take_length] at hr
    rcases List.mem_cons.1 hr with rfl | hr
    · exact foll_self K (inr0 px py) (by simp)
    · obtain ⟨p, hp, hq⟩ := List.mem_flatMap.1 hr
      have hi := g.inr p hp
      obtain ⟨q1, q2, _⟩ := K.inr p hi r hq
      have h0 := hi.1
      exact foll_closed K _ _ (inr0 px py) (by simp) p (ih (p.1.toNat) (by omega) p hp (by omega)) r hq

theorem sort_foll (K : KA x y k) (px : PO x) (py : PO y) {l : List (Int × Int)} (g : Good x y k l l.length) : sortP l = foll k x.length (0, 0) := by
  have ha := foll_asc K px py x.length (0, 0) (inr0 px py)
  refine sortP_eq ((List.perm_ext_iff_of_nodup g.nodup (asc_nodup ha)).2 fun r => ⟨fun hr => ?_, fun hr => ?_⟩) (asc_lt ha)
  · exact good_mem K.kf px py g r.1.toNat r hr (by omega)
  · obtain ⟨c1, c2⟩ := good_closed g
    exact foll_sub c2 _ _ c1 r hr

def wsum (x y : List NodeP) (l : List (Int × Int)) : Int := (l.map fun p => differP (nd x p.1).text (nd y p.2).text - 2).sum

theorem last_lt {pre : List (Int × Int)} {p : Int × Int} {ps : List (Int × Int)} (h : Asc (pre ++ p :: ps)) (h0 : 0 ≤ p.1 ∧ 0 ≤ p.2) : (lastP pre).1 < p.1 ∧ (lastP pre).2 < p.2 := by
  rcases List.eq_nil_or_concat pre with rfl | ⟨a, z, rfl⟩
  · simp [lastP]; omega
  · unfold lastP
    rw [List.concat_eq_append, List.getLastD_concat]
    rw [List.concat_eq_append] at h
    exact (List.pairwise_append.1 h).2.2 z (by simp) p (by simp)

theorem price_go (px : PO x) (py : PO y) : ∀ (ps pre : List (Int × Int)) (c : Int), Asc (pre ++ ps) → (∀ q ∈ pre ++ ps, InR x y q ∧ (nd x q.1).kind = (nd y q.2).kind) → (pre ++ ps).head? = some (0, 0) →
    (∀ q ∈ ps, q ≠ (0, 0) → parP x y q ∈ pre ++ ps) → priceGo x y pre ps c = some (c + wsum x y ps)
  | [], pre, c, _, _, _, _ => by simp [priceGo, wsum]
  | p :: ps, pre, c, ha, hi, hh, hp => by
    have hpi := hi p (by simp)
    have hl := last_lt ha ⟨hpi.1.1, hpi.1.2.2.1⟩
    have h0 : p = (0, 0) ↔ pre = [] := by
      constructor
      · intro e
        cases pre with
        | nil => rfl
        | cons z pre =>
          exfalso
          simp only [List.cons_append, List.head?_cons, Option.some.injEq] at hh
          have := (List.pairwise_cons.1 ha).1 p (by simp)
          rw [hh, e] at this
          simp at this
      · intro e
        subst e
        simpa using hh
    have hok : okP x y pre p := by
      refine ⟨hl.1, hl.2, hpi.1.2.1, hpi.1.2.2.2, hpi.2, h0, ?_⟩
      by_cases e : p = (0, 0)
      · exact .inl e
      · right
        have hm := hp p (by simp) e
        have hne : pre ≠ [] := fun h => e (h0.2 h)
        rcases List.mem_append.1 hm with hm | hm
        · exact hm
        · exfalso
          have hpos : 0 < p.1 := by
            cases pre with
            | nil => exact absurd rfl hne
            | cons z pre =>
              simp only [List.cons_append, List.head?_cons, Option.some.injEq] at hh
              have := (List.pairwise_cons.1 ha).1 p (by simp)
              rw [hh] at this
              exact this.1
          obtain ⟨j, jd, _, j2, j3, _⟩ := px.wf.par p.1.toNat _ (nd_get hpi.1.1 hpi.1.2.1) (by omega)
          have hlt : (parP x y p).1 < p.1 := by unfold parP; simp only; rw [j3]; omega
          have hge : p.1 ≤ (parP x y p).1 := by
            rcases List.mem_cons.1 hm with h | h
            · rw [h]; omega
            · have := (List.pairwise_cons.1 (List.pairwise_append.1 ha).2.1).1 _ h
              omega
          omega
    rw [priceGo, if_pos hok, price_go px py ps (pre ++ [p]) _ (by simpa using ha) (by simpa using hi) (by simpa using hh) (fun q hq hne => by
      have := hp q (by simp [hq]) hne
      simpa using this)]
    simp only [wsum, List.map_cons, List.sum_cons, Option.some.injEq]
    omega

theorem price_of (px : PO x) (py : PO y) {l : List (Int × Int)} (ha : Asc l) (hi : ∀ q ∈ l, InR x y q ∧ (nd x q.1).kind = (nd y q.2).kind) (hh : l.head? = some (0, 0)) (hp : ∀ q ∈ l, q ≠ (0, 0) → parP x y q ∈ l) :
    priceP x y l = some (x.length + y.length + wsum x y l) := by
  unfold priceP
  exact price_go px py l [] _ (by simpa using ha) (by simpa using hi) (by simpa using hh) (by simpa using hp)

theorem foll_par (K : KF x y k) : ∀ (f : Nat) (p : Int × Int), InR x y p → ∀ q ∈ foll k f p, q ≠ p → parP x y q ∈ foll k f p
  | 0, p, _, q, hq, _ => by simp [foll] at hq
  | f + 1, p, hp, q, hq, hne => by
    rw [foll] at hq ⊢
    rcases List.mem_cons.1 hq with h | hq
    · exact absurd h hne
    · obtain ⟨s, hs, hq⟩ := List.mem_flatMap.1 hq
      obtain ⟨s1, _, s3, s4⟩ := K.inr p hp s hs
      by_cases e : q = s
      · subst e
        have : parP x y q = p := Prod.ext s3 s4
        rw [this]; simp
      · exact List.mem_cons_of_mem _ (List.mem_flatMap.2 ⟨s, hs, foll_par K f s s1 q hq e⟩)

theorem foll_all {Q : Int × Int → Prop} (K : KF x y k) (hk : ∀ p, InR x y p → ∀ q ∈ k p, Q q) : ∀ (f : Nat) (p : Int × Int), InR x y p → Q p → ∀ q ∈ foll k f p, Q q
  | 0, p, _, _, q, hq => by simp [foll] at hq
  | f + 1, p, hp, h, q, hq => by
    rw [foll] at hq
    rcases List.mem_cons.1 hq with rfl | hq
    · exact h
    · obtain ⟨s, hs, hq⟩ := List.mem_flatMap.1 hq
      exact foll_all K hk f s (K.inr p hp s hs).1 (hk p hp s hs) q hq

theorem foll_price (K : KA x y k) (px : PO x) (py : PO y) (hk : ∀ p, InR x y p → ∀ q ∈ k p, (nd x q.1).kind = (nd y q.2).kind) (h0 : (nd x 0).kind = (nd y 0).kind) :
    priceP x y (foll k x.length (0, 0)) = some (x.length + y.length + wsum x y (foll k x.length (0, 0))) := by
  have i0 := inr0 px py
  refine price_of px py (foll_asc K px py _ _ i0) (fun q hq => ⟨(foll_in K px py _ _ i0 q hq).1, foll_all (Q := fun q => (nd x q.1).kind = (nd y q.2).kind) K.kf hk _ _ i0 h0 q hq⟩) ?_ (foll_par K.kf _ _ i0)
  have := px.wf.pos
  obtain ⟨n, hn⟩ : ∃ n, x.length = n + 1 := ⟨x.length - 1, by omega⟩
  rw [hn, foll]; rfl

theorem wsum_cons (p : Int × Int) (l : List (Int × Int)) : wsum x y (p :: l) = differP (nd x p.1).text (nd y p.2).text - 2 + wsum x y l := by simp [wsum]
theorem wsum_append (l m : List (Int × Int)) : wsum x y (l ++ m) = wsum x y l + wsum x y m := by simp [wsum]
theorem wsum_flatMap (g : Int × Int → List (Int × Int)) : ∀ (l : List (Int × Int)), wsum x y (l.flatMap g) = (l.map fun q => wsum x y (g q)).sum
  | [] => rfl
  | q :: l => by rw [List.flatMap_cons, wsum_append, wsum_flatMap g l, List.map_cons, List.sum_cons]
theorem wsum_ge (x y : List NodeP) : ∀ (l : List (Int × Int)), -2 * (l.length : Int) ≤ wsum x y l ∧ wsum x y l ≤ -(l.length : Int)
  | [] => by simp [wsum]
  | p :: l => by
    have := wsum_ge x y l
    have := differP_bd (nd x p.1).text (nd y p.2).text
    rw [wsum_cons, List.length_cons]
    omega
end
end Go.Proofs.Ytfifbadepebpeaa

/- light; what a certificate proves; the walk of MatchingProves. -/
namespace Go.Proofs.Ytfifbadepebpeaa
open Go.RowKit

end Go.Proofs.Ytfifbadepebpeaa

/- What Match returns is verified: alignments, the certificate of least cost, the positional matching. -/
namespace Go.Proofs.Ytfifbadepebpeaa

section
variable {drop add : List Int} {cost : List (List Int)}

theorem take_sumD (l : List Int) (k : Nat) : (l.take (k + 1)).sum = (l.take k).sum + l.getD k 0 := by
  rw [List.take_add_one, List.sum_append]
  cases h : l[k]? with
  | none => simp [List.getD_eq_getElem?_getD, h]
  | some v => simp [List.getD_eq_getElem?_getD, h]

theorem scGo_snoc : ∀ (ps : List (Int × Int)) (last : Int × Int) (s r : Int), scGo drop add cost last ps s = some r → ∀ p, scOk drop add cost (ps.getLastD last) p →
    scGo drop add cost last (ps ++ [p]) s = some (r + (cg cost p.1.toNat p.2.toNat - drop.getD p.1.toNat 0 - add.getD p.2.toNat 0))
  | [], last, s, r, h, p, hok => by
    simp only [scGo, Option.some.injEq] at h
    subst h
    have hok' : scOk drop add cost last p := hok
    rw [List.nil_append, scGo, if_pos hok', scGo]
  | q :: ps, last, s, r, h, p, hok => by
    rw [scGo] at h
    split at h
    · rename_i hq
      rw [List.cons_append, scGo, if_pos hq]
      exact scGo_snoc ps q _ r h p (by rw [List.getLastD_cons] at hok; exact hok)
    · cases h

theorem lastD_mem {α : Type} : ∀ (l : List α) (d : α), l.getLastD d = d ∨ l.getLastD d ∈ l
  | [], d => .inl rfl
  | a :: l, d => by
    rw [List.getLastD_cons]
    rcases lastD_mem l a with h | h
    · rw [h]; exact .inr (by simp)
    · exact .inr (List.mem_cons_of_mem _ h)

theorem back_sc : ∀ (f i j : Nat), i + j ≤ f → i ≤ drop.length → j ≤ add.length → ∀ s : Int, scGo drop add cost (-1, -1) (backP drop add cost f i j).reverse s = some (s + pt drop add cost i j - (drop.take i).sum - (add.take j).sum)
  | 0, i, j, h, _, _, s => by
    obtain rfl : i = 0 := by omega
    obtain rfl : j = 0 := by omega
    simp [backP, scGo, pt, ptRow0]
  | f + 1, i, j, h, hi, hj, s => by
    rw [backP]
    split
    · rename_i hz
      split
      · rename_i hd
        obtain ⟨i, rfl⟩ : ∃ k, i = k + 1 := ⟨i - 1, by omega⟩
        obtain ⟨j, rfl⟩ : ∃ k, j = k + 1 := ⟨j - 1, by omega⟩
        simp only [Nat.add_sub_cancel] at hd ⊢
        have ih := back_sc f i j (by omega) (by omega) (by omega) s
        rw [List.reverse_cons, scGo_snoc _ _ _ _ ih ((i : Int), (j : Int)) ?_]
        · simp only [Int.toNat_natCast, Option.some.injEq]
          rw [take_sumD, take_sumD, hd.2.2.2]
          unfold cg
          omega
        · have hl := lastD_mem (backP drop add cost f i j).reverse (-1, -1)
          have hb : ((backP drop add cost f i j).reverse.getLastD (-1, -1)).1 < (i : Int) ∧ ((backP drop add cost f i j).reverse.getLastD (-1, -1)).2 < (j : Int) := by
            rcases hl with e | hm
            · rw [e]; simp only; omega
            · have := backP_mem drop add cost f i j _ (List.mem_reverse.1 hm); omega
          exact ⟨hb.1, hb.2, by simp only; omega, by simp only; omega, by simp only [Int.toNat_natCast]; exact hd.2.2.1⟩
      · rename_i hd
        split
        · rename_i hu
          obtain ⟨i, rfl⟩ : ∃ k, i = k + 1 := ⟨i - 1, by omega⟩
          simp only [Nat.add_sub_cancel] at hu ⊢
          rw [back_sc f i j (by omega) (by omega) (by omega) s, take_sumD, hu.2, Option.some.injEq]
          omega
        · rename_i hu
          have hj0 : 0 < j := by
            rcases Nat.eq_zero_or_pos j with rfl | h0
            · exfalso
              apply hu
              obtain ⟨i, rfl⟩ : ∃ k, i = k + 1 := ⟨i - 1, by omega⟩
              exact ⟨by omega, pt_col drop add cost i⟩
            · exact h0
          obtain ⟨j, rfl⟩ : ∃ k, j = k + 1 := ⟨j - 1, by omega⟩
          simp only [Nat.add_sub_cancel] at hd hu ⊢
          have hp : pt drop add cost i (j + 1) = pt drop add cost i j + add.getD j 0 := by
            cases i with
            | zero => rfl
            | succ i =>
              simp only [Nat.add_sub_cancel] at hd hu
              have hs := pt_succ drop add cost i j
              split at hs
              · rename_i hc
                have h1 : ¬ pt drop add cost (i + 1) (j + 1) = pt drop add cost i j + (cost.getD i []).getD j 0 := fun e => hd ⟨by omega, by omega, hc, e⟩
                have h2 : ¬ pt drop add cost (i + 1) (j + 1) = pt drop add cost i (j + 1) + drop.getD i 0 := fun e => hu ⟨by omega, e⟩
                omega
              · have h2 : ¬ pt drop add cost (i + 1) (j + 1) = pt drop add cost i (j + 1) + drop.getD i 0 := fun e => hu ⟨by omega, e⟩
                omega
          rw [back_sc f i j (by omega) (by omega) (by omega) s, take_sumD, hp, Option.some.injEq]
          omega
    · rename_i hz
      obtain rfl : i = 0 := by omega
      obtain rfl : j = 0 := by omega
      simp [scGo, pt, ptRow0]

theorem cg_pot {i j : Nat} (hi : i ≤ drop.length) (hj : j ≤ add.length) : cg (potT drop add cost) i j = pt drop add cost i j := by
  unfold cg potT
  rw [getD_of_lt (List.map (fun i => (List.range (add.length + 1)).map (pt drop add cost i)) (List.range (drop.length + 1))) i [] (by simp; omega), List.getElem_map, List.getElem_range, getD_of_lt _ _ _ (by simp; omega), List.getElem_map, List.getElem_range]

theorem align_ver (p : Prop17 drop add cost) : SVer drop add cost (alignP drop add cost) := by
  refine ⟨?_, by simp [alignP, potT], ?_, ?_, ?_, ?_⟩
  · unfold scostP alignP
    rw [if_pos (properB_iff.2 p)]
    simp only
    rw [back_sc _ _ _ (Nat.le_refl _) (Nat.le_refl _) (Nat.le_refl _), List.take_length, List.take_length, Option.some.injEq]
    omega
  · intro r hr
    simp only [alignP, potT, List.mem_map, List.mem_range] at hr
    obtain ⟨i, hi, rfl⟩ := hr
    refine ⟨by simp, ?_⟩
    rw [withinB_iff]
    intro v hv
    obtain ⟨j, hj, rfl⟩ := List.mem_map.1 hv
    have hj := List.mem_range.1 hj
    have h1 := pt_bd p i j
    have h2 := p.dl
    have h3 := p.al
    omega
  · simp only [alignP]; rw [cg_pot (Nat.zero_le _) (Nat.zero_le _)]; rfl
  · simp only [alignP]; rw [cg_pot (Nat.le_refl _) (Nat.le_refl _)]
  · intro i hi j hj
    simp only [alignP]
    unfold edgeP
    refine ⟨fun h => ?_, fun h => ?_, fun h h' hc => ?_⟩
    · rw [cg_pot (by omega) (by omega), cg_pot (by omega) (by omega)]
      cases j with
      | zero => rw [pt_col]; omega
      | succ j => rw [pt_succ]; split <;> omega
    · rw [cg_pot (by omega) (by omega), cg_pot (by omega) (by omega)]
      cases i with
      | zero =>
        have : pt drop add cost 0 (j + 1) = pt drop add cost 0 j + add.getD j 0 := rfl
        omega
      | succ i => rw [pt_succ]; split <;> omega
    · rw [cg_pot (by omega) (by omega), cg_pot (by omega) (by omega), pt_succ]
      unfold cg at hc ⊢
      rw [if_pos hc]
      omega

theorem scGo_sum : ∀ (ps : List (Int × Int)) (last : Int × Int) (s r : Int), scGo drop add cost last ps s = some r → r = s + (ps.map fun p => cg cost p.1.toNat p.2.toNat - drop.getD p.1.toNat 0 - add.getD p.2.toNat 0).sum
  | [], last, s, r, h => by simp only [scGo, Option.some.injEq] at h; subst h; simp
  | q :: ps, last, s, r, h => by
    rw [scGo] at h
    split at h
    · have := scGo_sum ps q _ r h
      rw [List.map_cons, List.sum_cons]
      omega
    · cases h
end

section
variable {x y : List NodeP} {k : Int × Int → List (Int × Int)}

theorem bfs_le (budget : Nat) : ∀ (f : Nat) (l : List (Int × Int)) (i : Nat) (r : List (Int × Int)), bfs k budget f l i = some r → l.length ≤ r.length ∧ i ≤ r.length + i
  | 0, l, i, r, h => by cases h
  | f + 1, l, i, r, h => by
    rw [bfs] at h
    split at h
    · split at h
      · have := (bfs_le budget f _ _ r h).1
        rw [List.length_append] at this
        omega
      · cases h
    · obtain rfl := Option.some.inj h
      omega

theorem bfs_budget (budget b' : Nat) : ∀ (f : Nat) (l : List (Int × Int)) (i : Nat) (r : List (Int × Int)), bfs k budget f l i = some r → r.length ≤ b' → i ≤ l.length → ∀ f', r.length < f' + i → bfs k b' f' l i = some r
  | 0, l, i, r, h, _, _, _, _ => by cases h
  | f + 1, l, i, r, h, hb, hil, f', hf => by
    have hle := (bfs_le budget (f + 1) l i r h).1
    rw [bfs] at h
    split at h
    · rename_i hi
      split at h
      · have h2 := (bfs_le budget f _ _ r h).1
        rw [bfs_go hi (by omega) (by omega)]
        exact bfs_budget budget b' f _ _ r h hb (by rw [List.length_append]; omega) (f' - 1) (by omega)
      · cases h
    · rename_i hi
      obtain rfl := Option.some.inj h
      exact bfs_end (by omega) (by omega)

theorem cmpB_self (hx : WF x) (hy : WF y) {budget : Int} {l : List (Int × Int)} (h : cmpB x y budget = some l) : cmpB x y l.length = some l := by
  have hg := (cmpB_good hx hy h).1
  have hpos : 0 < l.length := by rw [hg.eq]; simp
  unfold cmpB at h ⊢
  split at h
  · cases h
  · rw [if_neg (by omega)]
    exact bfs_budget _ _ _ _ _ _ h (by simp) (by simp) _ (by simp)

theorem bfs_all (K : KF x y k) (hx : WF x) (hy : WF y) : ∃ r, bfs k (x.length * y.length) (x.length * y.length + 1) [(0, 0)] 0 = some r ∧ Good x y k r r.length := by
  have hp : 0 < x.length * y.length := Nat.mul_pos hx.pos hy.pos
  rcases bfs_spec K (x.length * y.length) (x.length * y.length + 1) [(0, 0)] 0 (good_start hx.pos hy.pos) (by simp; omega) (by omega) with ⟨r, h1, h2, _⟩ | ⟨_, r, j, h2, h3⟩
  · exact ⟨r, h1, h2⟩
  · have := h2.len; omega

theorem dget_drop : ∀ (l : List (Int × Int)) (i : Nat) (q : Int × Int), l.Nodup → q ∈ l.drop i → dget (buildP x y (l.drop i)) q = dget (buildP x y l) q
  | l, 0, q, _, _ => by rw [List.drop_zero]
  | [], i + 1, q, _, h => by simp at h
  | a :: l, i + 1, q, hn, h => by
    rw [List.nodup_cons] at hn
    rw [List.drop_succ_cons] at h ⊢
    rw [dget_drop l i q hn.2 h, buildP, dget_cons, if_neg]
    intro e
    exact hn.1 (by have e' : q = a := e; rw [← e']; exact List.mem_of_mem_drop h)

theorem later {l : List (Int × Int)} (hs : l.Pairwise ltP) {i : Nat} (hi : i < l.length) {q : Int × Int} (hq : q ∈ l) (hlt : ltP l[i] q) : q ∈ l.drop (i + 1) := by
  obtain ⟨j, hj, rfl⟩ := List.mem_iff_getElem.1 hq
  have hij : i < j := by
    rcases Nat.lt_trichotomy i j with h | h | h
    · exact h
    · subst h; exact absurd hlt (ltP_irrefl _)
    · exact absurd hlt (ltP_asymm (List.pairwise_iff_getElem.1 hs j i hj hi h))
  rw [List.mem_drop_iff_getElem]
  exact ⟨j - (i + 1), by omega, by congr 1; omega⟩

structure Cmp (x y : List NodeP) (l : List (Int × Int)) : Prop where
  srt : l.Pairwise ltP
  nodup : l.Nodup
  inr : ∀ p ∈ l, InR x y p
  root : (0, 0) ∈ l
  clo : ∀ p ∈ l, ∀ q ∈ kp x y p, q ∈ l

theorem cmp_of (hx : WF x) (hy : WF y) {budget : Int} {l : List (Int × Int)} (h : cmpB x y budget = some l) : Cmp x y (sortP l) := by
  have g := (cmpB_good hx hy h).1
  have c := good_closed g
  exact ⟨sortP_sorted g.nodup, sortP_nodup g.nodup, fun p hp => g.inr p (sortP_mem.1 hp), sortP_mem.2 c.1, fun p hp q hq => sortP_mem.2 (c.2 p (sortP_mem.1 hp) q hq)⟩

theorem cost_fix (hx : WF x) {l : List (Int × Int)} (C : Cmp x y l) {i : Nat} (hi : i < l.length) : costP x y l[i] (dget (buildP x y (l.drop (i + 1)))) = costP x y l[i] (dget (buildP x y l)) := by
  unfold costP
  apply List.map_congr_left
  intro c hc
  apply List.map_congr_left
  intro d hd
  have hm : l[i] ∈ l := List.getElem_mem hi
  have hr := C.inr _ hm
  split
  · rename_i hk
    have hq : (c, d) ∈ kp x y l[i] := by
      unfold kp kpC
      exact List.mem_flatMap.2 ⟨c, hc, List.mem_map.2 ⟨d, List.mem_filter.2 ⟨hd, by simpa using hk⟩, rfl⟩⟩
    have := (kid_inr hx hr.1 hr.2.1 hc).2.2.1
    exact dget_drop l (i + 1) (c, d) C.nodup (later C.srt hi (C.clo _ hm _ hq) (.inl this))
  · rfl

theorem pent_fix (hx : WF x) {l : List (Int × Int)} (C : Cmp x y l) {p : Int × Int} (hp : p ∈ l) : pent (buildP x y l) p = entryP x y p (dget (buildP x y l)) := by
  obtain ⟨i, hi, rfl⟩ := List.mem_iff_getElem.1 hp
  rw [← pent_at C.nodup i hi, build_at x y l i hi]
  unfold entryP alignOf
  rw [cost_fix hx C hi]

theorem dget_fix (hx : WF x) {l : List (Int × Int)} (C : Cmp x y l) {p : Int × Int} (hp : p ∈ l) : dget (buildP x y l) p = differP (nd x p.1).text (nd y p.2).text + (alignOf x y p (dget (buildP x y l))).cost := by
  rw [dget_pent, pent_fix hx C hp]; rfl

theorem tab_ok (hx : WF x) (hy : WF y) (nx : narrowB x = true) (ny : narrowB y = true) {l : List (Int × Int)} (C : Cmp x y l) {p : Int × Int} (hp : InR x y p) : Prop17 (dropP x p.1) (dropP y p.2) (costP x y p (dget (buildP x y l))) := by
  have sx : x.length ≤ 262144 := by unfold narrowB at nx; simp only [Bool.and_eq_true, decide_eq_true_eq] at nx; exact nx.1
  have sy : y.length ≤ 262144 := by unfold narrowB at ny; simp only [Bool.and_eq_true, decide_eq_true_eq] at ny; exact ny.1
  exact tab_proper hx hy nx ny hp _ (dget_ok hx hy sx sy (build_ok hx hy nx ny l C.inr))

theorem ent_ver (hx : WF x) (hy : WF y) (nx : narrowB x = true) (ny : narrowB y = true) {l : List (Int × Int)} (C : Cmp x y l) : ∀ e ∈ buildP x y l, EntV x y (dget (buildP x y l)) e := by
  intro e he
  obtain ⟨i, hi, rfl⟩ := List.mem_iff_getElem.1 he
  rw [build_length] at hi
  rw [build_at x y l i hi]
  have hm : l[i] ∈ l := List.getElem_mem hi
  have e1 : entryP x y l[i] (dget (buildP x y (l.drop (i + 1)))) = entryP x y l[i] (dget (buildP x y l)) := by unfold entryP alignOf; rw [cost_fix hx C hi]
  rw [e1]
  exact ⟨align_ver (tab_ok hx hy nx ny C (C.inr _ hm)), rfl⟩

theorem dget_foll (px : PO x) (py : PO y) (nx : narrowB x = true) (ny : narrowB y = true) {l : List (Int × Int)} (C : Cmp x y l) : ∀ (f : Nat) (p : Int × Int), p ∈ l → (x.length : Int) - p.1 ≤ f →
    dget (buildP x y l) p = (nd x p.1).size + (nd y p.2).size + wsum x y (foll (kpL x y (buildP x y l)) f p)
  | 0, p, hp, h => by have := (C.inr p hp).2.1; omega
  | f + 1, p, hp, h => by
    have hr := C.inr p hp
    have K := kpL_kf px.wf py.wf l
    have hv := align_ver (tab_ok px.wf py.wf nx ny C hr)
    have hs := hv.1
    unfold scostP at hs
    rw [if_pos (properB_iff.2 (tab_ok px.wf py.wf nx ny C hr))] at hs
    have hsum := scGo_sum _ _ _ _ hs
    have hcost : (alignOf x y p (dget (buildP x y l))).cost = (dropP x p.1).sum + (dropP y p.2).sum + ((alignOf x y p (dget (buildP x y l))).pairs.map fun q => cg (costP x y p (dget (buildP x y l))) q.1.toNat q.2.toNat - (dropP x p.1).getD q.1.toNat 0 - (dropP y p.2).getD q.2.toNat 0).sum := hsum
    have hkp : kpL x y (buildP x y l) p = (alignOf x y p (dget (buildP x y l))).pairs.map (kidsAt x y p) := by
      unfold kpL; rw [pent_fix px.wf C hp]; rfl
    have e : ((alignOf x y p (dget (buildP x y l))).pairs.map fun q => cg (costP x y p (dget (buildP x y l))) q.1.toNat q.2.toNat - (dropP x p.1).getD q.1.toNat 0 - (dropP y p.2).getD q.2.toNat 0) =
        (kpL x y (buildP x y l) p).map fun q => wsum x y (foll (kpL x y (buildP x y l)) f q) := by
      rw [hkp, List.map_map]
      apply List.map_congr_left
      intro q hq
      obtain ⟨q1, q2, q3, q4, q5, q6, q7⟩ := align_kids hq
      have i1 : q.1.toNat < (nd x p.1).kids.length := by omega
      have i2 : q.2.toNat < (nd y p.2).kids.length := by omega
      have hk : kidsAt x y p q = ((nd x p.1).kids[q.1.toNat], (nd y p.2).kids[q.2.toNat]) := by
        unfold kidsAt; rw [getD_of_lt _ _ _ i1, getD_of_lt _ _ _ i2]
      have hm : kidsAt x y p q ∈ kpL x y (buildP x y l) p := by rw [hkp]; exact List.mem_map.2 ⟨q, hq, rfl⟩
      have hl : kidsAt x y p q ∈ l := C.clo p hp _ (kpL_kp l hm)
      have hlt := (K.inr p hr _ hm).2.1
      have ih := dget_foll px py nx ny C f (kidsAt x y p q) hl (by omega)
      rw [cg_costP i1 i2]
      rw [hk] at q7 ih hl
      simp only at q7 ih
      rw [if_pos q7, ih]
      unfold dropP
      rw [getD_of_lt _ _ _ (by simpa using i1), getD_of_lt _ _ _ (by simpa using i2), List.getElem_map, List.getElem_map, Function.comp_apply, hk]
      omega
    rw [e] at hcost
    rw [foll, wsum_cons, wsum_flatMap, dget_fix px.wf C hp, hcost, nd_size px.wf hr.1 hr.2.1, nd_size py.wf hr.2.2.1 hr.2.2.2]
    unfold dropP
    omega
end
end Go.Proofs.Ytfifbadepebpeaa

/- What Match returns: it is verified, nothing is cheaper; a tree with itself. -/
namespace Go.Proofs.Ytfifbadepebpeaa

section
variable {x y : List NodeP} {k : Int × Int → List (Int × Int)}

theorem kpL_ka (hx : WF x) (hy : WF y) (l : List (Int × Int)) : KA x y (kpL x y (buildP x y l)) := ⟨kpL_kf hx hy l, fun _ hp => kpL_asc hx hy l hp⟩
theorem zip_asc : ∀ (a b : List Int), a.Pairwise (· < ·) → b.Pairwise (· < ·) → (a.zip b).Pairwise fun p q => p.1 < q.1 ∧ p.2 < q.2
  | [], b, _, _ => by simp
  | u :: a, [], _, _ => by simp
  | u :: a, v :: b, h1, h2 => by
    rw [List.pairwise_cons] at h1 h2
    rw [List.zip_cons_cons, List.pairwise_cons]
    refine ⟨fun r hr => ?_, zip_asc a b h1.2 h2.2⟩
    have := List.of_mem_zip hr
    exact ⟨h1.1 _ this.1, h2.1 _ this.2⟩
theorem kpI_ka (hx : WF x) (hy : WF y) : KA x y (kpI x y) :=
  ⟨kpI_kf hx hy, fun p hp => List.Pairwise.filter _ (zip_asc _ _ (hx.asc p.1.toNat _ (nd_get hp.1 hp.2.1)) (hy.asc p.2.toNat _ (nd_get hp.2.2.1 hp.2.2.2)))⟩
theorem kp_kind {p q : Int × Int} (h : q ∈ kp x y p) : (nd x q.1).kind = (nd y q.2).kind := by
  unfold kp kpC at h
  obtain ⟨c, _, h⟩ := List.mem_flatMap.1 h
  obtain ⟨d, hd, rfl⟩ := List.mem_map.1 h
  simpa using (List.mem_filter.1 hd).2

theorem least_pairs (px : PO x) (py : PO y) (l : List (Int × Int)) : sortP (leastP x y l) = foll (kpL x y (buildP x y l)) x.length (0, 0) := by
  obtain ⟨r, h1, h2⟩ := bfs_all (kpL_kf px.wf py.wf l) px.wf py.wf
  unfold leastP
  rw [h1]
  exact sort_foll (kpL_ka px.wf py.wf l) px py h2
theorem pos_pairs (px : PO x) (py : PO y) : sortP (posP x y) = foll (kpI x y) x.length (0, 0) := by
  obtain ⟨r, h1, h2⟩ := bfs_all (kpI_kf px.wf py.wf) px.wf py.wf
  unfold posP
  rw [h1]
  exact sort_foll (kpI_ka px.wf py.wf) px py h2

theorem cmp_head {l : List (Int × Int)} (C : Cmp x y l) : ∃ r, l = (0, 0) :: r := by
  have h0 := C.root
  cases hl : l with
  | nil => rw [hl] at h0; simp at h0
  | cons p r =>
    have hs := C.srt
    have hi := C.inr p (by rw [hl]; simp)
    rw [hl] at hs h0
    rcases List.mem_cons.1 h0 with h0 | h0
    · exact ⟨r, by rw [h0]⟩
    · have hlt := (List.pairwise_cons.1 hs).1 _ h0
      unfold InR at hi
      unfold ltP at hlt
      simp only at hlt
      omega

theorem least_cost {l : List (Int × Int)} (C : Cmp x y l) : ((buildP x y l).getD 0 default).cost = dget (buildP x y l) (0, 0) := by
  obtain ⟨r, rfl⟩ := cmp_head C
  rw [buildP, dget_cons]
  exact (if_pos (show ((0 : Int), (0 : Int)) = ((entryP x y (0, 0) (dget (buildP x y r))).a, (entryP x y (0, 0) (dget (buildP x y r))).b) from rfl)).symm

theorem least_price (px : PO x) (py : PO y) (nx : narrowB x = true) (ny : narrowB y = true) (hk : (nd x 0).kind = (nd y 0).kind) {l : List (Int × Int)} (C : Cmp x y l) : priceP x y (leastM x y l).pairs = some (leastM x y l).cost := by
  unfold leastM
  simp only
  rw [least_pairs px py, foll_price (kpL_ka px.wf py.wf l) px py (fun p _ q hq => kp_kind (kpL_kp l hq)) hk, least_cost C, dget_foll px py nx ny C x.length (0, 0) C.root (by simp), Option.some.injEq]
  have h1 : (nd x 0).size = (x.length : Int) := px.wf.rsz
  have h2 : (nd y 0).size = (y.length : Int) := py.wf.rsz
  simp only
  omega

theorem asc_len {l : List (Int × Int)} (h : Asc l) (hi : ∀ p ∈ l, InR x y p) : l.length ≤ x.length ∧ l.length ≤ y.length := by
  constructor
  · have := nodup_lt x.length (l.map fun p => p.1.toNat) (by
      rw [List.Nodup, List.pairwise_map]
      refine List.Pairwise.imp_of_mem ?_ h
      intro a b ha hb hab e
      have := hi a ha; have := hi b hb
      unfold InR at *
      omega) (by
      intro n hn
      obtain ⟨p, hp, rfl⟩ := List.mem_map.1 hn
      have := hi p hp
      unfold InR at this
      omega)
    simpa using this
  · have := nodup_lt y.length (l.map fun p => p.2.toNat) (by
      rw [List.Nodup, List.pairwise_map]
      refine List.Pairwise.imp_of_mem ?_ h
      intro a b ha hb hab e
      have := hi a ha; have := hi b hb
      unfold InR at *
      omega) (by
      intro n hn
      obtain ⟨p, hp, rfl⟩ := List.mem_map.1 hn
      have := hi p hp
      unfold InR at this
      omega)
    simpa using this

theorem price_in {M : List (Int × Int)} {c : Int} (h : priceP x y M = some c) : c = x.length + y.length + wsum x y M ∧ Asc M ∧ ∀ p ∈ M, InR x y p := by
  obtain ⟨h1, h2, h3⟩ := price_spec x y M [] _ c h (by simp [Asc])
  simp only [List.nil_append] at h2 h3
  refine ⟨h1, h2, fun p hp => ?_⟩
  obtain ⟨a, b, rfl⟩ := List.append_of_mem hp
  have ok := h3 a p b rfl
  have hpos : 0 ≤ p.1 ∧ 0 ≤ p.2 := by
    cases a with
    | nil =>
      have : p = (0, 0) := ok.2.2.2.2.2.1.2 rfl
      subst this; simp
    | cons q a =>
      have okq := h3 [] q (a ++ p :: b) rfl
      have : q = (0, 0) := okq.2.2.2.2.2.1.2 rfl
      subst this
      have := (List.pairwise_cons.1 h2).1 p (by simp)
      simp only at this
      omega
  exact ⟨hpos.1, ok.2.2.1, hpos.2, ok.2.2.2.1⟩
theorem price_ge {M : List (Int × Int)} {c : Int} (h : priceP x y M = some c) : (x.length : Int) - y.length ≤ c ∧ (y.length : Int) - x.length ≤ c ∧ 0 ≤ c := by
  obtain ⟨h1, h2, h3⟩ := price_in h
  have := asc_len h2 h3
  have := wsum_ge x y M
  omega

theorem pos_price (px : PO x) (py : PO y) (hk : (nd x 0).kind = (nd y 0).kind) : priceP x y (posM x y).pairs = some (posM x y).cost := by
  have h := foll_price (kpI_ka px.wf py.wf) px py (fun p _ q hq => by simpa using (List.mem_filter.1 hq).2) hk
  rw [← pos_pairs px py] at h
  unfold posM
  simp only
  rw [h]
  rfl

theorem match_verify (px : PO x) (py : PO y) (budget : Int) : verifyP x y (matchM x y budget) := by
  unfold matchM
  by_cases hk : (nd x 0).kind = (nd y 0).kind
  · rw [if_pos hk]
    have hpos : verifyP x y (posM x y) := by
      have hp := pos_price px py hk
      refine ⟨hp, ?_, fun h => by simp [posM] at h⟩
      have := price_ge hp
      show max _ _ ≤ _
      omega
    by_cases hn : narrowB x = true ∧ narrowB y = true
    · rw [if_pos hn]
      cases hc : cmpB x y budget with
      | none => exact hpos
      | some l =>
        have C := cmp_of px.wf py.wf hc
        refine ⟨least_price px py hn.1 hn.2 hk C, Int.le_refl _, fun _ => ⟨rfl, ?_⟩⟩
        rw [if_pos hk]
        refine ⟨?_, ent_ver px.wf py.wf hn.1 hn.2 C, rfl⟩
        show (cmpB x y (buildP x y (sortP l)).length).map sortP = some ((buildP x y (sortP l)).map fun e => (e.a, e.b))
        rw [build_length, sortP_length, cmpB_self px.wf py.wf hc, build_keys]
        rfl
    · rw [if_neg hn]; exact hpos
  · rw [if_neg hk]
    refine ⟨rfl, Int.le_refl _, fun _ => ⟨rfl, ?_⟩⟩
    rw [if_neg hk]
    exact ⟨rfl, rfl⟩

end

theorem narrow_of {t : Tree} (h : t.size ≤ 400) : narrowB (flatP t) = true := by
  unfold narrowB
  have hl := flatP_length t
  simp only [Bool.and_eq_true, decide_eq_true_eq, List.all_eq_true]
  refine ⟨by omega, fun n hn => ?_⟩
  obtain ⟨i, hi, rfl⟩ := List.mem_iff_getElem.1 hn
  have := kids_len (flatP_wf t) (i := (i : Int)) (by omega) (by omega)
  rw [nd_of (List.getElem?_eq_getElem hi)] at this
  omega
end Go.Proofs.Ytfifbadepebpeaa
