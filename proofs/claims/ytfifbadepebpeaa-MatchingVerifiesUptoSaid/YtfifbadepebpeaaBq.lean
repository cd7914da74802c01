/- A numbered tree, opened; the table; label. -/
import Derived.Test.YtfifbadepebpeaaRm
import Derived.Test.YtfifbadepebpeaaBc
namespace Go.Proofs.Ytfifbadepebpeaa
open Go.RowKit

theorem Ints.openI' {h : Hp} {v : Value} {l : List Int} (hv : Ints h v l) (hp : 0 < l.length) : ∃ b off cap, v = .slice (some ⟨b, off, none⟩) l.length cap ∧ l.length ≤ 140737488355328 ∧
    ∀ w, Imm h w → b < w.heap.size ∧ ∀ k (hk : k < l.length), w.cell? ⟨b, off + k, none⟩ = some (.int .i64 l[k]) := hv.openI hp

theorem Sl.addr {h : Hp} {a : Option Addr} {n m c k : Nat} {cs : List Value} (s : Sl h (.slice a m c) n k cs) (hn : 0 < n) : ∃ b off, a = some ⟨b, off, none⟩ ∧ ∀ w, Imm h w → b < w.heap.size ∧ ∀ i v, cs[i]? = some v → w.cell? ⟨b, off + i, none⟩ = some v := by
  have s' := s
  obtain ⟨a', c', e, h1, h2, h3⟩ := s
  simp only [Value.slice.injEq] at e
  obtain ⟨rfl, rfl, rfl⟩ := e
  rcases h3 with h3 | ⟨b, off, cc, rfl, hb, hc⟩
  · omega
  · refine ⟨b, off, rfl, fun w hi => ?_⟩
    obtain ⟨b2, off2, e2, h4, h5⟩ := s'.cells hi hn
    simp only [Option.some.injEq, Addr.mk.injEq, and_true] at e2
    obtain ⟨rfl, rfl⟩ := e2
    exact ⟨h4, h5⟩

structure NumO (h : Hp) (x : List NodeP) (bn on bp op bs os bk ok : Nat) : Prop where
  at_ : ∀ w, Imm h w → (bn < w.heap.size ∧ bp < w.heap.size ∧ bs < w.heap.size ∧ bk < w.heap.size) ∧ ∀ i (hi : i < x.length), w.cell? ⟨bn, on + i * 4, none⟩ = some (.int .i64 x[i].kind) ∧ w.cell? ⟨bn, on + i * 4 + 1, none⟩ = some (.string x[i].text) ∧
    w.cell? ⟨bp, op + i, none⟩ = some (.int .i64 x[i].parent) ∧ w.cell? ⟨bs, os + i, none⟩ = some (.int .i64 x[i].size) ∧ ∃ ar cr, w.cell? ⟨bk, ok + i, none⟩ = some (.slice ar x[i].kids.length cr) ∧ Ints h (.slice ar x[i].kids.length cr) x[i].kids
  row : ∀ i (hi : i < x.length), ∃ ar cr, Ints h (.slice ar x[i].kids.length cr) x[i].kids ∧ ∀ w, Imm h w → w.cell? ⟨bk, ok + i, none⟩ = some (.slice ar x[i].kids.length cr)

theorem NumE.open {h : Hp} {x : List NodeP} {cs : List Value} (hv : NumE h x cs) (hp : 0 < x.length) : ∃ bn on cn bp op cp bs os ct bk ok ck, cs = [.slice (some ⟨bn, on, none⟩) x.length cn, .slice (some ⟨bp, op, none⟩) x.length cp, .slice (some ⟨bs, os, none⟩) x.length ct, .slice (some ⟨bk, ok, none⟩) x.length ck, .bool (!narrowB x)] ∧
    x.length ≤ 140737488355328 ∧ NumO h x bn on bp op bs os bk ok := by
  obtain ⟨an, cn, ap, cp, as', cs', ak, ck, wd, ts, rfl, rfl, ⟨xs, hs1, hs2⟩, hsig, hpa, hsz, ⟨ys, hr1, hr2⟩⟩ := hv
  have htl : ts.length = x.length := by have := congrArg List.length hsig; simpa using this
  rw [htl] at hs1
  obtain ⟨bn, on, rfl, hn⟩ := hs1.addr (by omega)
  obtain ⟨bp, op, cp', e1, -, hpc⟩ := hpa.openI' (by simpa using hp)
  obtain ⟨bs, os, cs'', e2, -, hsc⟩ := hsz.openI' (by simpa using hp)
  have hr1' := hr1
  simp only [List.length_map] at hr1' e1 e2 hpc hsc
  obtain ⟨bk, ok, rfl, hk⟩ := hr1'.addr hp
  simp only [Value.slice.injEq, true_and] at e1 e2
  obtain ⟨rfl, rfl⟩ := e1
  obtain ⟨rfl, rfl⟩ := e2
  have hrow : ∀ i (hi : i < x.length), ∃ ar cr, Ints h (.slice ar x[i].kids.length cr) x[i].kids ∧ ∀ w, Imm h w → w.cell? ⟨bk, ok + i, none⟩ = some (.slice ar x[i].kids.length cr) := by
    intro i hi
    obtain ⟨a1, ⟨ad, cap', rfl, hi'⟩, h3⟩ := hr2.at 1 RowC.len i (by simpa using hi)
    simp only [List.getElem_map] at hi' h3
    refine ⟨ad, cap', hi', fun w hw => ?_⟩
    refine (hk w hw).2 i _ ?_
    have := h3 0 (by omega)
    simpa using this
  refine ⟨bn, on, cn, bp, op, cp, bs, os, cs', bk, ok, ck, rfl, hs1.len.1, ⟨fun w hw => ⟨⟨(hn w hw).1, (hpc w hw).1, (hsc w hw).1, (hk w hw).1⟩, fun i hi => ?_⟩, hrow⟩⟩
  obtain ⟨c4, h1, h2⟩ := hs2.at 4 EncTree.len i (by omega)
  obtain ⟨al, cl, ak', ck', zs, rfl, _⟩ := EncTree.iff.1 h1
  have hsg : sigT ts[i] = sigN x[i] := by
    have := congrArg (fun l => l[i]?) hsig
    simpa [hi, show i < ts.length by omega] using this
  simp only [sigT, sigN, Prod.mk.injEq] at hsg
  obtain ⟨ar, cr, r1, r2⟩ := hrow i hi
  refine ⟨?_, ?_, ?_, ?_, ar, cr, r2 w hw, r1⟩
  · rw [← hsg.1]; exact (hn w hw).2 _ _ (h2 0 (by omega))
  · rw [← hsg.2.1, Nat.add_assoc]; exact (hn w hw).2 _ _ (h2 1 (by omega))
  · have := (hpc w hw).2 i hi; simpa using this
  · have := (hsc w hw).2 i hi; simpa using this
end Go.Proofs.Ytfifbadepebpeaa

/- The reference's cost of pairs. -/
namespace Go.Proofs.Ytfifbadepebpeaa
open Go.RowKit

def rokP (x y : List NodeP) (ps : List (Int × Int)) (i : Nat) : Prop :=
  (0 ≤ (ps.getD i (0, 0)).1 ∧ (ps.getD i (0, 0)).1 < x.length ∧ 0 ≤ (ps.getD i (0, 0)).2 ∧ (ps.getD i (0, 0)).2 < y.length) ∧ (nd x (ps.getD i (0, 0)).1).kind = (nd y (ps.getD i (0, 0)).2).kind ∧
  (0 < i → (ps.getD (i - 1) (0, 0)).1 < (ps.getD i (0, 0)).1 ∧ (ps.getD (i - 1) (0, 0)).2 < (ps.getD i (0, 0)).2) ∧ (i = 0 → (ps.getD i (0, 0)).1 = 0 ∧ (ps.getD i (0, 0)).2 = 0) ∧
  (0 < i → partnerP ps (nd x (ps.getD i (0, 0)).1).parent = (nd y (ps.getD i (0, 0)).2).parent)

section
variable {x y : List NodeP} {ps : List (Int × Int)}

theorem adj_asc : ∀ (l : List (Int × Int)), (∀ i, i + 1 < l.length → (l.getD i (0, 0)).1 < (l.getD (i + 1) (0, 0)).1 ∧ (l.getD i (0, 0)).2 < (l.getD (i + 1) (0, 0)).2) → Asc l
  | [], _ => by simp [Asc]
  | [a], _ => by simp [Asc]
  | a :: b :: l, h => by
    have ih := adj_asc (b :: l) (fun i hi => by
      have := h (i + 1) (by simpa using hi)
      simpa using this)
    unfold Asc at ih ⊢
    rw [List.pairwise_cons]
    refine ⟨fun q hq => ?_, ih⟩
    have h0 := h 0 (by simp)
    simp only [List.getD_cons_zero, List.getD_cons_succ, Nat.zero_add] at h0
    rcases List.mem_cons.1 hq with rfl | hq
    · exact h0
    · have := (List.pairwise_cons.1 ih).1 q hq
      omega

theorem par_pos {z : List NodeP} (hz : WF z) {i : Int} (h0 : 0 < i) (h1 : i < z.length) : 0 ≤ (nd z i).parent := by
  obtain ⟨j, jd, _, _, j3, _⟩ := hz.par i.toNat _ (nd_get (by omega) h1) (by omega)
  rw [j3]; omega

theorem rok_price (px : PO x) (py : PO y) (h : ∀ i, i < ps.length → rokP x y ps i) : priceP x y ps = some (x.length + y.length + wsum x y ps) := by
  cases hps : ps with
  | nil => simp [priceP, priceGo, wsum]
  | cons p l =>
    rw [← hps]
    have hpos : 0 < ps.length := by rw [hps]; simp
    have hasc : Asc ps := adj_asc ps (fun i hi => by
      have := (h (i + 1) hi).2.2.1 (by omega)
      simpa using this)
    have hget : ∀ i (hi : i < ps.length), ps.getD i (0, 0) = ps[i] := fun i hi => getD_of_lt _ _ _ hi
    refine price_of px py hasc (fun q hq => ?_) ?_ (fun q hq hne => ?_)
    · obtain ⟨i, hi, rfl⟩ := List.mem_iff_getElem.1 hq
      have := h i hi
      rw [rokP, hget i hi] at this
      exact ⟨this.1, this.2.1⟩
    · have h0 := (h 0 hpos).2.2.2.1 rfl
      rw [hget 0 hpos] at h0
      rw [List.head?_eq_getElem?, List.getElem?_eq_getElem hpos]
      exact congrArg some (Prod.ext h0.1 h0.2)
    · obtain ⟨i, hi, rfl⟩ := List.mem_iff_getElem.1 hq
      have hh := h i hi
      rw [rokP, hget i hi] at hh
      have hip : 0 < i := by
        rcases Nat.eq_zero_or_pos i with rfl | h0
        · have := hh.2.2.2.1 rfl
          exact absurd (Prod.ext this.1 this.2) hne
        · exact h0
      have hlt := List.pairwise_iff_getElem.1 hasc 0 i hpos hi hip
      have h0 := h 0 hpos
      rw [rokP, hget 0 hpos] at h0
      have hpp := hh.2.2.2.2 hip
      have hpar := par_pos py.wf (i := ps[i].2) (by omega) hh.1.2.2.2
      unfold partnerP at hpp
      cases hf : ps.find? (fun p => p.1 == (nd x ps[i].1).parent) with
      | none => rw [hf] at hpp; simp only at hpp; omega
      | some q =>
        rw [hf] at hpp
        have e1 : q.1 = (nd x ps[i].1).parent := by simpa using List.find?_some hf
        have : parP x y ps[i] = q := Prod.ext e1.symm hpp.symm
        rw [this]
        exact List.mem_of_find?_eq_some hf

theorem price_rok (h : priceP x y ps ≠ none) : ∀ i, i < ps.length → rokP x y ps i := by
  intro i hi
  obtain ⟨c, hc⟩ := Option.ne_none_iff_exists'.1 h
  obtain ⟨-, hasc, hin⟩ := price_in hc
  obtain ⟨_, _, h3⟩ := price_spec x y ps [] _ c hc (by simp [Asc])
  have ok := h3 (ps.take i) ps[i] (ps.drop (i + 1)) (by rw [← List.drop_eq_getElem_cons hi, List.take_append_drop])
  rw [List.nil_append] at ok
  have hr := hin ps[i] (List.getElem_mem hi)
  unfold rokP
  rw [getD_of_lt _ _ _ hi]
  refine ⟨hr, ok.2.2.2.2.1, fun h0 => ?_, fun h0 => ?_, fun h0 => ?_⟩
  · rw [getD_of_lt _ _ _ (by omega)]
    exact List.pairwise_iff_getElem.1 hasc (i - 1) i (by omega) hi (by omega)
  · subst h0
    have : ps[0] = (0, 0) := ok.2.2.2.2.2.1.2 (by simp)
    rw [this]; simp
  · have hne : ps[i] ≠ (0, 0) := fun e => by
      have := ok.2.2.2.2.2.1.1 e
      have hl := congrArg List.length this
      rw [List.length_take, List.length_nil] at hl
      omega
    have hm : parP x y ps[i] ∈ ps.take i := by
      rcases ok.2.2.2.2.2.2 with h | h
      · exact absurd h hne
      · exact h
    have hm2 : parP x y ps[i] ∈ ps := List.mem_of_mem_take hm
    unfold partnerP
    cases hf : ps.find? (fun p => p.1 == (nd x ps[i].1).parent) with
    | none =>
      have := List.find?_eq_none.1 hf _ hm2
      simp [parP] at this
    | some q =>
      have e1 : q.1 = (nd x ps[i].1).parent := by simpa using List.find?_some hf
      have hq := List.mem_of_find?_eq_some hf
      have : q = parP x y ps[i] := by
        obtain ⟨a, ha, rfl⟩ := List.mem_iff_getElem.1 hq
        obtain ⟨b, hb, e2⟩ := List.mem_iff_getElem.1 hm2
        rcases Nat.lt_trichotomy a b with hab | hab | hab
        · have := List.pairwise_iff_getElem.1 hasc a b ha hb hab
          rw [e2] at this
          unfold parP at this
          simp only at this
          omega
        · subst hab; exact e2
        · have := List.pairwise_iff_getElem.1 hasc b a hb ha hab
          rw [e2] at this
          unfold parP at this
          simp only at this
          omega
      simp only
      rw [this]
      rfl
end
end Go.Proofs.Ytfifbadepebpeaa
