/- The values of arguments. -/
import Derived.Test.YtfifbadepebpeaaRd
namespace Go.Proofs.Ytfifbadepebpeaa
open Go.RowKit Go.ChangeShapes Go.WideShapes
set_option maxRecDepth 100000

theorem laid_out : laidOutB Try.prog = true := by kernel_rfl
theorem own_knob : ownKnob Try.prog.godebug = none := by kernel_rfl

section
variable {H : Type} {enc : TypeId × Value → H} {W : World} {r : Reach} {base : Nat} {v : Value} {d : DataW H} {p : List MemPlace}

theorem agg_val {t : TypeId} {fs : Array Field} (ht : Try.prog.underlying t = some (.struct fs)) (hv : Value.okWide Try.prog W r base t v) : ∃ cs, v = .agg cs := by
  unfold Value.okWide at hv
  rw [ht] at hv
  obtain ⟨cs, h, _⟩ := hv
  exact ⟨cs, h⟩
theorem slice_val {t e : TypeId} (ht : Try.prog.underlying t = some (.slice e)) (hv : Value.okWide Try.prog W r base t v) {a : Option Addr} {n c : Nat} (hc : v.cells.toList = [.slice a n c]) : v = .slice a n c := by
  cases v with
  | agg cs =>
    unfold Value.okWide at hv
    rw [ht] at hv
    simp [Cell.okWide, Cell.ok, ht] at hv
  | tuple cs =>
    unfold Value.okWide at hv
    rw [ht] at hv
    simp [Cell.okWide, Cell.ok, ht] at hv
  | _ => simp_all [Value.cells]

theorem tree_val (hv : Value.okWide Try.prog W r base 25 v) (h : DataW.Trod enc Try.prog W 0 (fun _ => true) true 25 v d p) (hb : Rows.uptoBulk d ≤ 1048576) : ∃ t, TreeV (blk W) v t ∧ t.size ≤ 1048576 := by
  obtain ⟨cs, rfl⟩ := agg_val Try.underlying25 hv
  obtain ⟨n, hn⟩ := h
  obtain ⟨t, h1, _, h2⟩ := tree_read n _ _ hb hn
  exact ⟨t, ⟨_, by simp [Value.cells], h1⟩, Nat.le_trans h2 hb⟩
theorem match_val (hv : Value.okWide Try.prog W r base 32 v) (h : DataW.Trod enc Try.prog W 0 (fun _ => true) true 32 v d p) (hb : Rows.uptoBulk d ≤ 1048576) : ∃ m, MatchV (blk W) v m := by
  obtain ⟨cs, rfl⟩ := agg_val Try.underlying32 hv
  obtain ⟨n, hn⟩ := h
  obtain ⟨m, h1⟩ := match_read hb hn
  exact ⟨m, by simpa [Value.cells] using h1⟩
theorem pairs_val (hv : Value.okWide Try.prog W r base 29 v) (h : DataW.Trod enc Try.prog W 0 (fun _ => true) true 29 v d p) (hb : Rows.uptoBulk d ≤ 1048576) : ∃ l, Prs (blk W) v l := by
  obtain ⟨n, hn⟩ := h
  obtain ⟨a, cap, l, h1, h2⟩ := pairs_read hb hn
  rw [slice_val Try.underlying29 hv h1]
  exact ⟨l, h2⟩
theorem ints_val (hv : Value.okWide Try.prog W r base 35 v) (h : DataW.Trod enc Try.prog W 0 (fun _ => true) true 35 v d p) (hb : Rows.uptoBulk d ≤ 1048576) : ∃ l, Ints (blk W) v l ∧ l.length ≤ 1048576 := by
  obtain ⟨n, hn⟩ := h
  obtain ⟨a, cap, l, h1, h2, h3⟩ := ints_read hb hn
  rw [slice_val Try.underlying35 hv h1]
  exact ⟨l, h2, Nat.le_trans h3 hb⟩
theorem int_val (hv : Value.okWide Try.prog W r base 3 v) (h : DataW.Trod enc Try.prog W 0 (fun _ => true) true 3 v d p) : ∃ n, v = .int .i64 n ∧ I64 n := by
  obtain ⟨n, rfl, _, _, w⟩ := open_int Try.underlying3 hv h
  exact ⟨n, rfl, i64_of w⟩
end
end Go.Proofs.Ytfifbadepebpeaa
