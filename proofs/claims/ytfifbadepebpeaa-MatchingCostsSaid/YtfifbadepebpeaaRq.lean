/- A numbered tree, opened; the table; label. -/
import Derived.Test.YtfifbadepebpeaaRm
namespace Go.Proofs.Ytfifbadepebpeaa
open Go.RowKit

theorem Ints.openI' {h : Hp} {v : Value} {l : List Int} (hv : Ints h v l) (hp : 0 < l.length) : ∃ b off cap, v = .slice (some ⟨b, off, none⟩) l.length cap ∧ l.length ≤ 140737488355328 ∧
    ∀ w, Imm h w → b < w.heap.size ∧ ∀ k (hk : k < l.length), w.cell? ⟨b, off + k, none⟩ = some (.int .i64 l[k]) := hv.openI hp

theorem Sl.addr {h : Hp} {a : Option Addr} {n m c k : Nat} {cs : List Value} (s : Sl h (.slice a m c) n k cs) (hn : 0 < n) : ∃ b off, a = some ⟨b, off, none⟩ ∧ ∀ w, Imm h w → b < w.heap.size ∧ ∀ i v, cs[i]? = some v → w.cell? ⟨b, off + i, none⟩ = some v := by
  have s' := s
  obtain ⟨a', c', e, h1, h2, h3⟩ := s
  simp only [Value.slice.injEq] at e
  obtain ⟨rfl, rfl, rfl⟩ := e
  rcases h3 with h3 | ⟨b, off, cc, rfl, hb, hc⟩
  · omega
  · refine ⟨b, off, rfl, fun w hi => ?_⟩
    obtain ⟨b2, off2, e2, h4, h5⟩ := s'.cells hi hn
    simp only [Option.some.injEq, Addr.mk.injEq, and_true] at e2
    obtain ⟨rfl, rfl⟩ := e2
    exact ⟨h4, h5⟩

/-- What is read of a numbered tree. -/
structure NumO (h : Hp) (x : List NodeP) (bn on bp op bs os bk ok : Nat) : Prop where
  at_ : ∀ w, Imm h w → (bn < w.heap.size ∧ bp < w.heap.size ∧ bs < w.heap.size ∧ bk < w.heap.size) ∧ ∀ i (hi : i < x.length), w.cell? ⟨bn, on + i * 4, none⟩ = some (.int .i64 x[i].kind) ∧ w.cell? ⟨bn, on + i * 4 + 1, none⟩ = some (.string x[i].text) ∧
    w.cell? ⟨bp, op + i, none⟩ = some (.int .i64 x[i].parent) ∧ w.cell? ⟨bs, os + i, none⟩ = some (.int .i64 x[i].size) ∧ ∃ ar cr, w.cell? ⟨bk, ok + i, none⟩ = some (.slice ar x[i].kids.length cr) ∧ Ints h (.slice ar x[i].kids.length cr) x[i].kids
  row : ∀ i (hi : i < x.length), ∃ ar cr, Ints h (.slice ar x[i].kids.length cr) x[i].kids ∧ ∀ w, Imm h w → w.cell? ⟨bk, ok + i, none⟩ = some (.slice ar x[i].kids.length cr)

theorem NumE.open {h : Hp} {x : List NodeP} {cs : List Value} (hv : NumE h x cs) (hp : 0 < x.length) : ∃ bn on cn bp op cp bs os ct bk ok ck, cs = [.slice (some ⟨bn, on, none⟩) x.length cn, .slice (some ⟨bp, op, none⟩) x.length cp, .slice (some ⟨bs, os, none⟩) x.length ct, .slice (some ⟨bk, ok, none⟩) x.length ck, .bool (!narrowB x)] ∧
    x.length ≤ 140737488355328 ∧ NumO h x bn on bp op bs os bk ok := by
  obtain ⟨an, cn, ap, cp, as', cs', ak, ck, wd, ts, rfl, rfl, ⟨xs, hs1, hs2⟩, hsig, hpa, hsz, ⟨ys, hr1, hr2⟩⟩ := hv
  have htl : ts.length = x.length := by have := congrArg List.length hsig; simpa using this
  rw [htl] at hs1
  obtain ⟨bn, on, rfl, hn⟩ := hs1.addr (by omega)
  obtain ⟨bp, op, cp', e1, -, hpc⟩ := hpa.openI' (by simpa using hp)
  obtain ⟨bs, os, cs'', e2, -, hsc⟩ := hsz.openI' (by simpa using hp)
  have hr1' := hr1
  simp only [List.length_map] at hr1' e1 e2 hpc hsc
  obtain ⟨bk, ok, rfl, hk⟩ := hr1'.addr hp
  simp only [Value.slice.injEq, true_and] at e1 e2
  obtain ⟨rfl, rfl⟩ := e1
  obtain ⟨rfl, rfl⟩ := e2
  have hrow : ∀ i (hi : i < x.length), ∃ ar cr, Ints h (.slice ar x[i].kids.length cr) x[i].kids ∧ ∀ w, Imm h w → w.cell? ⟨bk, ok + i, none⟩ = some (.slice ar x[i].kids.length cr) := by
    intro i hi
    obtain ⟨a1, ⟨ad, cap', rfl, hi'⟩, h3⟩ := hr2.at 1 RowC.len i (by simpa using hi)
    simp only [List.getElem_map] at hi' h3
    refine ⟨ad, cap', hi', fun w hw => ?_⟩
    refine (hk w hw).2 i _ ?_
    have := h3 0 (by omega)
    simpa using this
  refine ⟨bn, on, cn, bp, op, cp, bs, os, cs', bk, ok, ck, rfl, hs1.len.1, ⟨fun w hw => ⟨⟨(hn w hw).1, (hpc w hw).1, (hsc w hw).1, (hk w hw).1⟩, fun i hi => ?_⟩, hrow⟩⟩
  obtain ⟨c4, h1, h2⟩ := hs2.at 4 EncTree.len i (by omega)
  obtain ⟨al, cl, ak', ck', zs, rfl, _⟩ := EncTree.iff.1 h1
  have hsg : sigT ts[i] = sigN x[i] := by
    have := congrArg (fun l => l[i]?) hsig
    simpa [hi, show i < ts.length by omega] using this
  simp only [sigT, sigN, Prod.mk.injEq] at hsg
  obtain ⟨ar, cr, r1, r2⟩ := hrow i hi
  refine ⟨?_, ?_, ?_, ?_, ar, cr, r2 w hw, r1⟩
  · rw [← hsg.1]; exact (hn w hw).2 _ _ (h2 0 (by omega))
  · rw [← hsg.2.1, Nat.add_assoc]; exact (hn w hw).2 _ _ (h2 1 (by omega))
  · have := (hpc w hw).2 i hi; simpa using this
  · have := (hsc w hw).2 i hi; simpa using this
end Go.Proofs.Ytfifbadepebpeaa
