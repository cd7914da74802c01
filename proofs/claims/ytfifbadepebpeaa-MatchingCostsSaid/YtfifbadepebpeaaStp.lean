/- An append inside a region that draws its order; the cells of a slice of integers in every world. -/
import Derived.Test.YtfifbadepebpeaaWi
import Derived.Deep.AppendLies
namespace Go.Proofs.Ytfifbadepebpeaa
open Go.RowKit

theorem step_app {P : Program} {t e : TypeId} {size bytes : Nat} {z : List Value} (E : ElemT P t e size bytes z) {ops : Array Oper} {o : Oper} {a : Act} {K : Act → World → Prop} {Q : Exit → Act → World → Prop} {F : Prop} (hgd : o.guard = none) (s x : Operand)
    (ho : o.op = .call { callee := .builtin .append, args := #[s, x], argTypes := #[t, t] }) {B : Nat} {h0 h : Hp} {w0 w : World} (st : St B h0 w0 h w)
    (v : Value) (n : Nat) (xs : List Value) (hs : a.eval s = v) (ow : Ow w h B e size v n xs)
    (ad : Addr) (m c : Nat) (news : List Value) (hx : a.eval x = .slice (some ad) m c) (hl : news.length = m * size) (hnews : ∀ j u, news[j]? = some u → w.cell? (ad.add j) = some u) (h1 : ∀ u ∈ news, u.oneCell' = true)
    (hm : 0 < m) (hb : (n + m) * bytes ≤ 140737488355328)
    (hK : ∀ g cap w', St B h0 w0 h w' → Ow w' h B e size (.slice (some ⟨g, 0, none⟩) (n + m) cap) (n + m) (xs ++ news) → w.grownBy w' v.ownBlock → ((Value.slice (some ⟨g, 0, none⟩) (n + m) cap).ownBlock = v.ownBlock ∨ (Value.slice (some ⟨g, 0, none⟩) (n + m) cap).ownBlock = some w.heap.size) → K (a.put o.dst (.slice (some ⟨g, 0, none⟩) (n + m) cap)) w') :
    if Region.wanted o (yielded ops a.tmps) = true then Oper.wp P o a w K Q else F := by
  obtain ⟨i, zv, hi, hz, hsz, hby, hzc⟩ := E.info
  have hmax : n + m ≤ maxLen := by
    have := Nat.le_mul_of_pos_right (n + m) E.bpos
    simp only [maxLen]; omega
  refine step_append_lies w hgd s x t ho B e i zv size bytes E.und hi hz hsz hby (by rw [hzc]; simpa using E.zlen) E.pos v n xs hs ow.row ad m c news hx hl hnews h1 hm hmax hb st.size _ rfl ?_
  intro g cap w' h2 h3 h5 _
  have hbk : (Value.slice (some ⟨g, 0, none⟩) (n + m) cap).ownBlock = v.ownBlock ∨ (Value.slice (some ⟨g, 0, none⟩) (n + m) cap).ownBlock = some w.heap.size := by
    rcases h5 with h5 | h5
    · exact .inl h5.symm
    · exact .inr (by rw [h5]; rfl)
  have hst : St B h0 w0 h w' := st.grown h3 (fun k hk => ⟨(ow.lt k hk).1, ow.free k hk⟩)
  refine hK g cap w' hst (Ow.of h2 st.imm (fun g hg => ow.free g hg) ?_) h3 hbk
  intro g' hg
  rcases hbk with h5 | h5
  · exact .inr (by rw [← h5, hg])
  · rw [h5] at hg
    exact .inl (by simp only [Option.some.injEq] at hg; omega)

theorem Ints.openI {h : Hp} {v : Value} {l : List Int} (hv : Ints h v l) (hp : 0 < l.length) : ∃ b off cap, v = .slice (some ⟨b, off, none⟩) l.length cap ∧ l.length ≤ 140737488355328 ∧
    ∀ w, Imm h w → b < w.heap.size ∧ ∀ k (hk : k < l.length), w.cell? ⟨b, off + k, none⟩ = some (.int .i64 l[k]) := by
  obtain ⟨s, hr⟩ := hv
  obtain ⟨a, cap, rfl, hn⟩ := s.shape
  have hs := s
  obtain ⟨a', cap', he, h1, h2, h3⟩ := hs
  simp only [Value.slice.injEq, true_and] at he
  obtain ⟨rfl, rfl⟩ := he
  rcases h3 with h3 | ⟨b, off, c, rfl, hb, hc⟩
  · omega
  refine ⟨b, off, cap, rfl, hn, fun w hi => ⟨blk_lt (hi b c hb), fun k hk => ?_⟩⟩
  obtain ⟨b', off', hab, hb', hc'⟩ := s.cells hi hp
  simp only [Option.some.injEq, Addr.mk.injEq, and_true] at hab
  obtain ⟨rfl, rfl⟩ := hab
  exact hc' _ _ (encI_at l k hk)
end Go.Proofs.Ytfifbadepebpeaa
