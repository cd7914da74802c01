/- The cells of a certificate. -/
import Derived.Test.YtfifbadepebpeaaBa
namespace Go.Proofs.Ytfifbadepebpeaa
open Go.RowKit

theorem Cmps.openI {h : Hp} {v : Value} {l : List CompP} (hv : Cmps h v l) (h0 : 0 < l.length) : ∃ b off cap, v = .slice (some ⟨b, off, none⟩) l.length cap ∧ l.length ≤ 140737488355328 ∧
    ∀ w, Imm h w → b < w.heap.size ∧ ∀ i (hlt : i < l.length), ∃ ap cp ar cr, w.cell? ⟨b, off + i * 6, none⟩ = some (.int .i64 l[i].a) ∧ w.cell? ⟨b, off + i * 6 + 1, none⟩ = some (.int .i64 l[i].b) ∧
      w.cell? ⟨b, off + i * 6 + 2, none⟩ = some (.int .i64 l[i].cost) ∧ w.cell? ⟨b, off + i * 6 + 3, none⟩ = some (.slice ap l[i].kids.pairs.length cp) ∧ w.cell? ⟨b, off + i * 6 + 4, none⟩ = some (.int .i64 l[i].kids.cost) ∧
      w.cell? ⟨b, off + i * 6 + 5, none⟩ = some (.slice ar l[i].kids.pot.length cr) ∧
      AlignV h (.agg #[.slice ap l[i].kids.pairs.length cp, .int .i64 l[i].kids.cost, .slice ar l[i].kids.pot.length cr]) l[i].kids ∧ I64 l[i].a ∧ I64 l[i].b ∧ I64 l[i].cost ∧ I64 l[i].kids.cost := by
  obtain ⟨cs, s, e⟩ := hv
  obtain ⟨a, cap, rfl, hn⟩ := s.shape
  have hs := s
  obtain ⟨a', cap', he, h1, h2, h3⟩ := hs
  simp only [Value.slice.injEq, true_and] at he
  obtain ⟨rfl, rfl⟩ := he
  rcases h3 with h3 | ⟨b, off, c, rfl, hb, hc⟩
  · omega
  refine ⟨b, off, cap, rfl, hn, fun w hi => ⟨blk_lt (hi b c hb), fun i hlt => ?_⟩⟩
  obtain ⟨b', off', hab, hb', hc'⟩ := s.cells hi h0
  simp only [Option.some.injEq, Addr.mk.injEq, and_true] at hab
  obtain ⟨rfl, rfl⟩ := hab
  obtain ⟨c5, g1, g2⟩ := e.at 6 EncComp.len i hlt
  obtain ⟨r, rfl, i1, i2, i3, ap, cp, ar, cr, rfl, i4, g3, g4⟩ := g1
  refine ⟨ap, cp, ar, cr, ?_, ?_, ?_, ?_, ?_, ?_, ⟨_, rfl, ap, cp, ar, cr, rfl, i4, g3, g4⟩, i1, i2, i3, i4⟩
  · exact hc' _ _ (g2 0 (by omega))
  · rw [Nat.add_assoc]; exact hc' _ _ (g2 1 (by omega))
  · rw [Nat.add_assoc]; exact hc' _ _ (g2 2 (by omega))
  · rw [Nat.add_assoc]; exact hc' _ _ (g2 3 (by omega))
  · rw [Nat.add_assoc]; exact hc' _ _ (g2 4 (by omega))
  · rw [Nat.add_assoc]; exact hc' _ _ (g2 5 (by omega))

end Go.Proofs.Ytfifbadepebpeaa
