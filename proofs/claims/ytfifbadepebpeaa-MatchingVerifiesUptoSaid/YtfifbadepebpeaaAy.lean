/- awake and light. -/
import Derived.Test.YtfifbadepebpeaaBi
import Derived.Test.YtfifbadepebpeaaBa
namespace Go.Proofs.Ytfifbadepebpeaa
open Go.RowKit

theorem le_al {n : Nat} {w : World} {o : Obj} (h : n ≤ w.heap.size) : n ≤ (w.alloc o).heap.size := by simp; omega
theorem imm_none (w : World) : Imm (fun _ => none) w := fun _ _ h => by cases h

theorem trs_lit {h : Hp} {w : World} (hi : Imm h w) (ts : List Tree) (cs : List Value) (he : EncL (EncTree h) ts cs) (hl : ts.length ≤ 1000) : ∃ h', Imm h' (w.alloc (.cells cs.toArray 25)) ∧ St w.heap.size h w h' (w.alloc (.cells cs.toArray 25)) ∧ Trs h' (.slice (some ⟨w.heap.size, 0, none⟩) ts.length ts.length) ts := by
  have hn : h w.heap.size = none := new_own hi _ (Nat.le_refl _)
  have hb : blk (w.alloc (.cells cs.toArray 25)) w.heap.size = some cs.toArray := by unfold blk; rw [heap_alloc_new]
  have im : Imm (h.add w.heap.size cs.toArray) (w.alloc (.cells cs.toArray 25)) := (hi.alloc _).add hb
  have hle : h.le (h.add w.heap.size cs.toArray) := Hp.le_add _ hn
  refine ⟨h.add w.heap.size cs.toArray, im, ⟨(Below.refl _ _).alloc (Nat.le_refl _) _, im, hle, fun b hb => ?_, Nat.le_refl _⟩, cs, ⟨_, _, rfl, by omega, he.length 4 EncTree.len, ?_⟩, he.mono fun _ _ r => r.mono hle⟩
  · unfold Hp.add; rw [if_neg (by omega)]
  · rcases Nat.eq_zero_or_pos ts.length with h0 | h0
    · exact .inl h0
    · refine .inr ⟨w.heap.size, 0, cs.toArray, rfl, by unfold Hp.add; rw [if_pos rfl], fun i hi => ?_⟩
      simp

structure AwX (w : World) (g1 : Nat) (ca cb : Array Value) (h7 : Hp) (g3 g4 : Nat) (wx : World) : Prop where
  bel : Below w.heap.size w wx
  a : Has wx g1 ca
  b : Has wx (g1 + 1) cb
  m : ∃ (h' : Hp) (ap : Option Addr) (cp : Nat) (ar : Option Addr) (cr : Nat), Imm h' wx ∧ h7.le h' ∧ MatchV h' (.agg #[.slice ap (matchM (flatP exA) (flatP exB) 100).pairs.length cp, .int .i64 (matchM (flatP exA) (flatP exB) 100).cost, .bool (matchM (flatP exA) (flatP exB) 100).proven, .int .i64 (matchM (flatP exA) (flatP exB) 100).bound, .slice ar (matchM (flatP exA) (flatP exB) 100).proof.length cr]) (matchM (flatP exA) (flatP exB) 100) ∧ Has wx g3 #[.slice ap (matchM (flatP exA) (flatP exB) 100).pairs.length cp, .int .i64 (matchM (flatP exA) (flatP exB) 100).cost, .bool (matchM (flatP exA) (flatP exB) 100).proven, .int .i64 (matchM (flatP exA) (flatP exB) 100).bound, .slice ar (matchM (flatP exA) (flatP exB) 100).proof.length cr]
  y : ∃ (ap2 : Option Addr) (cp2 : Nat) (ar2 : Option Addr) (cr2 : Nat), Has wx g4 #[.slice ap2 (matchM (flatP exA) (flatP exB) 0).pairs.length cp2, .int .i64 (matchM (flatP exA) (flatP exB) 0).cost, .bool (matchM (flatP exA) (flatP exB) 0).proven, .int .i64 (matchM (flatP exA) (flatP exB) 0).bound, .slice ar2 (matchM (flatP exA) (flatP exB) 0).proof.length cr2]

theorem Has.store {w : World} {g : Nat} (h : Has w g #[.slice none 0 0, .int .i64 0, .bool false, .int .i64 0, .slice none 0 0]) (a b c d e : Value) : Has (((((w.setCell ⟨g, 0, none⟩ a).setCell ⟨g, 1, none⟩ b).setCell ⟨g, 2, none⟩ c).setCell ⟨g, 3, none⟩ d).setCell ⟨g, 4, none⟩ e) g #[a, b, c, d, e] := by
  have sz : ∀ (w : World) i v, (w.setCell ⟨g, i, none⟩ v).heap.size = w.heap.size := fun w i v => by simp [World.setCell]
  have fz : ∀ (w : World) i v, (∀ o, w.frozen? ⟨g, o, none⟩ = false) → ∀ o, (w.setCell ⟨g, i, none⟩ v).frozen? ⟨g, o, none⟩ = false := fun w i v hh o => by simp [hh o]
  refine ⟨by rw [sz, sz, sz, sz, sz]; exact h.lt, fun o => ?_, fz _ _ _ (fz _ _ _ (fz _ _ _ (fz _ _ _ (fz _ _ _ h.fz))))⟩
  have h0 := h.cl 0
  have h1 := h.cl 1
  have h2 := h.cl 2
  have h3 := h.cl 3
  have h4 := h.cl 4
  have e0 : w.cell? ⟨g, 0, none⟩ = some (.slice none 0 0) := h0
  have e1 : w.cell? ⟨g, 1, none⟩ = some (.int .i64 0) := h1
  have e2 : w.cell? ⟨g, 2, none⟩ = some (.bool false) := h2
  have e3 : w.cell? ⟨g, 3, none⟩ = some (.int .i64 0) := h3
  have e4 : w.cell? ⟨g, 4, none⟩ = some (.slice none 0 0) := h4
  match o with
  | 0 =>
    rw [World.cell?_setCell_other _ _ _ _ (by simp), World.cell?_setCell_other _ _ _ _ (by simp), World.cell?_setCell_other _ _ _ _ (by simp), World.cell?_setCell_other _ _ _ _ (by simp)]
    exact World.cell?_setCell_same _ _ _ e0
  | 1 =>
    rw [World.cell?_setCell_other _ _ _ _ (by simp), World.cell?_setCell_other _ _ _ _ (by simp), World.cell?_setCell_other _ _ _ _ (by simp)]
    exact World.cell?_setCell_same _ _ _ (by rw [World.cell?_setCell_other _ _ _ _ (by simp)]; exact e1)
  | 2 =>
    rw [World.cell?_setCell_other _ _ _ _ (by simp), World.cell?_setCell_other _ _ _ _ (by simp)]
    exact World.cell?_setCell_same _ _ _ (by rw [World.cell?_setCell_other _ _ _ _ (by simp), World.cell?_setCell_other _ _ _ _ (by simp)]; exact e2)
  | 3 =>
    rw [World.cell?_setCell_other _ _ _ _ (by simp)]
    exact World.cell?_setCell_same _ _ _ (by rw [World.cell?_setCell_other _ _ _ _ (by simp), World.cell?_setCell_other _ _ _ _ (by simp), World.cell?_setCell_other _ _ _ _ (by simp)]; exact e3)
  | 4 => exact World.cell?_setCell_same _ _ _ (by rw [World.cell?_setCell_other _ _ _ _ (by simp), World.cell?_setCell_other _ _ _ _ (by simp), World.cell?_setCell_other _ _ _ _ (by simp), World.cell?_setCell_other _ _ _ _ (by simp)]; exact e4)
  | o + 5 =>
    rw [World.cell?_setCell_other _ _ _ _ (by simp), World.cell?_setCell_other _ _ _ _ (by simp), World.cell?_setCell_other _ _ _ _ (by simp), World.cell?_setCell_other _ _ _ _ (by simp), World.cell?_setCell_other _ _ _ _ (by simp), h.cl]
    rfl
theorem Has.ne5 {w : World} {b g : Nat} {cs : Array Value} (h : Has w b cs) (hg : g ≠ b) (a b' c d e : Value) : Has (((((w.setCell ⟨g, 0, none⟩ a).setCell ⟨g, 1, none⟩ b').setCell ⟨g, 2, none⟩ c).setCell ⟨g, 3, none⟩ d).setCell ⟨g, 4, none⟩ e) b cs :=
  ((((h.ne hg 0 a).ne hg 1 b').ne hg 2 c).ne hg 3 d).ne hg 4 e
theorem below5 {B : Nat} {w0 w : World} (h : Below B w0 w) {g : Nat} (hg : B ≤ g) (a b c d e : Value) : Below B w0 (((((w.setCell ⟨g, 0, none⟩ a).setCell ⟨g, 1, none⟩ b).setCell ⟨g, 2, none⟩ c).setCell ⟨g, 3, none⟩ d).setCell ⟨g, 4, none⟩ e) :=
  ((((h.setCell (p := ⟨g, 0, none⟩) hg a).setCell (p := ⟨g, 1, none⟩) hg b).setCell (p := ⟨g, 2, none⟩) hg c).setCell (p := ⟨g, 3, none⟩) hg d).setCell (p := ⟨g, 4, none⟩) hg e
theorem imm5 {h : Hp} {w : World} (hi : Imm h w) {g : Nat} (hn : h g = none) (a b c d e : Value) : Imm h (((((w.setCell ⟨g, 0, none⟩ a).setCell ⟨g, 1, none⟩ b).setCell ⟨g, 2, none⟩ c).setCell ⟨g, 3, none⟩ d).setCell ⟨g, 4, none⟩ e) :=
  imm1 (imm1 (imm1 (imm1 (imm1 hi hn 0 a) hn 1 b) hn 2 c) hn 3 d) hn 4 e

structure AwT (w : World) (g1 : Nat) (ca cb : Array Value) (h7 h10 : Hp) (ap : Option Addr) (cp : Nat) (ar : Option Addr) (cr : Nat) (w10 : World) : Prop where
  bel : Below w.heap.size w w10
  a : Has w10 g1 ca
  b : Has w10 (g1 + 1) cb
  imm : Imm h10 w10
  le : h7.le h10
  m : MatchV h10 (.agg #[.slice ap (matchM (flatP exA) (flatP exB) 100).pairs.length cp, .int .i64 (matchM (flatP exA) (flatP exB) 100).cost, .bool (matchM (flatP exA) (flatP exB) 100).proven, .int .i64 (matchM (flatP exA) (flatP exB) 100).bound, .slice ar (matchM (flatP exA) (flatP exB) 100).proof.length cr]) (matchM (flatP exA) (flatP exB) 100)
structure AwG (w : World) (g1 : Nat) (h10 : Hp) (w10 : World) (g : Nat) : Prop where
  has : Has w10 g #[.slice none 0 0, .int .i64 0, .bool false, .int .i64 0, .slice none 0 0]
  no : h10 g = none
  le : w.heap.size ≤ g
  ne : g ≠ g1 ∧ g ≠ g1 + 1

section
variable {w : World} {g1 : Nat} {ca cb : Array Value} {h7 h10 : Hp} {ap ar ap2 ar2 : Option Addr} {cp cr cp2 cr2 : Nat} {w10 : World}
theorem aw1 (T : AwT w g1 ca cb h7 h10 ap cp ar cr w10) : AwX w g1 ca cb h7 w10.heap.size (w10.heap.size + 1) ((w10.alloc (Obj.cells #[.slice ap (matchM (flatP exA) (flatP exB) 100).pairs.length cp, .int .i64 (matchM (flatP exA) (flatP exB) 100).cost, .bool (matchM (flatP exA) (flatP exB) 100).proven, .int .i64 (matchM (flatP exA) (flatP exB) 100).bound, .slice ar (matchM (flatP exA) (flatP exB) 100).proof.length cr] 32)).alloc (Obj.cells #[.slice ap2 (matchM (flatP exA) (flatP exB) 0).pairs.length cp2, .int .i64 (matchM (flatP exA) (flatP exB) 0).cost, .bool (matchM (flatP exA) (flatP exB) 0).proven, .int .i64 (matchM (flatP exA) (flatP exB) 0).bound, .slice ar2 (matchM (flatP exA) (flatP exB) 0).proof.length cr2] 32)) :=
  ⟨(T.bel.alloc T.bel.size _).alloc (by have := T.bel.size; simp; omega) _, (T.a.alloc _).alloc _, (T.b.alloc _).alloc _, ⟨h10, ap, cp, ar, cr, (T.imm.alloc _).alloc _, T.le, T.m, (Has.new w10 _ _).alloc _⟩, ⟨ap2, cp2, ar2, cr2, Has.new1 w10 _ _ _⟩⟩
theorem aw2 (T : AwT w g1 ca cb h7 h10 ap cp ar cr w10) : AwX w g1 ca cb h7 (w10.heap.size + 1) w10.heap.size ((w10.alloc (Obj.cells #[.slice ap2 (matchM (flatP exA) (flatP exB) 0).pairs.length cp2, .int .i64 (matchM (flatP exA) (flatP exB) 0).cost, .bool (matchM (flatP exA) (flatP exB) 0).proven, .int .i64 (matchM (flatP exA) (flatP exB) 0).bound, .slice ar2 (matchM (flatP exA) (flatP exB) 0).proof.length cr2] 32)).alloc (Obj.cells #[.slice ap (matchM (flatP exA) (flatP exB) 100).pairs.length cp, .int .i64 (matchM (flatP exA) (flatP exB) 100).cost, .bool (matchM (flatP exA) (flatP exB) 100).proven, .int .i64 (matchM (flatP exA) (flatP exB) 100).bound, .slice ar (matchM (flatP exA) (flatP exB) 100).proof.length cr] 32)) :=
  ⟨(T.bel.alloc T.bel.size _).alloc (by have := T.bel.size; simp; omega) _, (T.a.alloc _).alloc _, (T.b.alloc _).alloc _, ⟨h10, ap, cp, ar, cr, (T.imm.alloc _).alloc _, T.le, T.m, Has.new1 w10 _ _ _⟩, ⟨ap2, cp2, ar2, cr2, (Has.new w10 _ _).alloc _⟩⟩
theorem aw3 (T : AwT w g1 ca cb h7 h10 ap cp ar cr w10) {g : Nat} (G : AwG w g1 h10 w10 g) : AwX w g1 ca cb h7 g w10.heap.size ((((((w10.setCell ⟨g, 0, none⟩ (.slice ap (matchM (flatP exA) (flatP exB) 100).pairs.length cp)).setCell ⟨g, 1, none⟩ (.int .i64 (matchM (flatP exA) (flatP exB) 100).cost)).setCell ⟨g, 2, none⟩ (.bool (matchM (flatP exA) (flatP exB) 100).proven)).setCell ⟨g, 3, none⟩ (.int .i64 (matchM (flatP exA) (flatP exB) 100).bound)).setCell ⟨g, 4, none⟩ (.slice ar (matchM (flatP exA) (flatP exB) 100).proof.length cr)).alloc (Obj.cells #[.slice ap2 (matchM (flatP exA) (flatP exB) 0).pairs.length cp2, .int .i64 (matchM (flatP exA) (flatP exB) 0).cost, .bool (matchM (flatP exA) (flatP exB) 0).proven, .int .i64 (matchM (flatP exA) (flatP exB) 0).bound, .slice ar2 (matchM (flatP exA) (flatP exB) 0).proof.length cr2] 32)) := by
  have hz : (((((w10.setCell ⟨g, 0, none⟩ (.slice ap (matchM (flatP exA) (flatP exB) 100).pairs.length cp)).setCell ⟨g, 1, none⟩ (.int .i64 (matchM (flatP exA) (flatP exB) 100).cost)).setCell ⟨g, 2, none⟩ (.bool (matchM (flatP exA) (flatP exB) 100).proven)).setCell ⟨g, 3, none⟩ (.int .i64 (matchM (flatP exA) (flatP exB) 100).bound)).setCell ⟨g, 4, none⟩ (.slice ar (matchM (flatP exA) (flatP exB) 100).proof.length cr)).heap.size = w10.heap.size := by simp [World.setCell]
  have hb := below5 T.bel G.le (.slice ap (matchM (flatP exA) (flatP exB) 100).pairs.length cp) (.int .i64 (matchM (flatP exA) (flatP exB) 100).cost) (.bool (matchM (flatP exA) (flatP exB) 100).proven) (.int .i64 (matchM (flatP exA) (flatP exB) 100).bound) (.slice ar (matchM (flatP exA) (flatP exB) 100).proof.length cr)
  refine ⟨hb.alloc hb.size _, (T.a.ne5 G.ne.1 _ _ _ _ _).alloc _, (T.b.ne5 G.ne.2 _ _ _ _ _).alloc _, ⟨h10, ap, cp, ar, cr, (imm5 T.imm G.no _ _ _ _ _).alloc _, T.le, T.m, (G.has.store _ _ _ _ _).alloc _⟩, ⟨ap2, cp2, ar2, cr2, ?_⟩⟩
  have := Has.new (((((w10.setCell ⟨g, 0, none⟩ (.slice ap (matchM (flatP exA) (flatP exB) 100).pairs.length cp)).setCell ⟨g, 1, none⟩ (.int .i64 (matchM (flatP exA) (flatP exB) 100).cost)).setCell ⟨g, 2, none⟩ (.bool (matchM (flatP exA) (flatP exB) 100).proven)).setCell ⟨g, 3, none⟩ (.int .i64 (matchM (flatP exA) (flatP exB) 100).bound)).setCell ⟨g, 4, none⟩ (.slice ar (matchM (flatP exA) (flatP exB) 100).proof.length cr)) #[.slice ap2 (matchM (flatP exA) (flatP exB) 0).pairs.length cp2, .int .i64 (matchM (flatP exA) (flatP exB) 0).cost, .bool (matchM (flatP exA) (flatP exB) 0).proven, .int .i64 (matchM (flatP exA) (flatP exB) 0).bound, .slice ar2 (matchM (flatP exA) (flatP exB) 0).proof.length cr2] 32
  rwa [hz] at this
theorem aw4 (T : AwT w g1 ca cb h7 h10 ap cp ar cr w10) {g : Nat} (G : AwG w g1 h10 w10 g) : AwX w g1 ca cb h7 w10.heap.size g ((((((w10.setCell ⟨g, 0, none⟩ (.slice ap2 (matchM (flatP exA) (flatP exB) 0).pairs.length cp2)).setCell ⟨g, 1, none⟩ (.int .i64 (matchM (flatP exA) (flatP exB) 0).cost)).setCell ⟨g, 2, none⟩ (.bool (matchM (flatP exA) (flatP exB) 0).proven)).setCell ⟨g, 3, none⟩ (.int .i64 (matchM (flatP exA) (flatP exB) 0).bound)).setCell ⟨g, 4, none⟩ (.slice ar2 (matchM (flatP exA) (flatP exB) 0).proof.length cr2)).alloc (Obj.cells #[.slice ap (matchM (flatP exA) (flatP exB) 100).pairs.length cp, .int .i64 (matchM (flatP exA) (flatP exB) 100).cost, .bool (matchM (flatP exA) (flatP exB) 100).proven, .int .i64 (matchM (flatP exA) (flatP exB) 100).bound, .slice ar (matchM (flatP exA) (flatP exB) 100).proof.length cr] 32)) := by
  have hz : (((((w10.setCell ⟨g, 0, none⟩ (.slice ap2 (matchM (flatP exA) (flatP exB) 0).pairs.length cp2)).setCell ⟨g, 1, none⟩ (.int .i64 (matchM (flatP exA) (flatP exB) 0).cost)).setCell ⟨g, 2, none⟩ (.bool (matchM (flatP exA) (flatP exB) 0).proven)).setCell ⟨g, 3, none⟩ (.int .i64 (matchM (flatP exA) (flatP exB) 0).bound)).setCell ⟨g, 4, none⟩ (.slice ar2 (matchM (flatP exA) (flatP exB) 0).proof.length cr2)).heap.size = w10.heap.size := by simp [World.setCell]
  have hb := below5 T.bel G.le (.slice ap2 (matchM (flatP exA) (flatP exB) 0).pairs.length cp2) (.int .i64 (matchM (flatP exA) (flatP exB) 0).cost) (.bool (matchM (flatP exA) (flatP exB) 0).proven) (.int .i64 (matchM (flatP exA) (flatP exB) 0).bound) (.slice ar2 (matchM (flatP exA) (flatP exB) 0).proof.length cr2)
  refine ⟨hb.alloc hb.size _, (T.a.ne5 G.ne.1 _ _ _ _ _).alloc _, (T.b.ne5 G.ne.2 _ _ _ _ _).alloc _, ⟨h10, ap, cp, ar, cr, (imm5 T.imm G.no _ _ _ _ _).alloc _, T.le, T.m, ?_⟩, ⟨ap2, cp2, ar2, cr2, (G.has.store _ _ _ _ _).alloc _⟩⟩
  have := Has.new (((((w10.setCell ⟨g, 0, none⟩ (.slice ap2 (matchM (flatP exA) (flatP exB) 0).pairs.length cp2)).setCell ⟨g, 1, none⟩ (.int .i64 (matchM (flatP exA) (flatP exB) 0).cost)).setCell ⟨g, 2, none⟩ (.bool (matchM (flatP exA) (flatP exB) 0).proven)).setCell ⟨g, 3, none⟩ (.int .i64 (matchM (flatP exA) (flatP exB) 0).bound)).setCell ⟨g, 4, none⟩ (.slice ar2 (matchM (flatP exA) (flatP exB) 0).proof.length cr2)) #[.slice ap (matchM (flatP exA) (flatP exB) 100).pairs.length cp, .int .i64 (matchM (flatP exA) (flatP exB) 100).cost, .bool (matchM (flatP exA) (flatP exB) 100).proven, .int .i64 (matchM (flatP exA) (flatP exB) 100).bound, .slice ar (matchM (flatP exA) (flatP exB) 100).proof.length cr] 32
  rwa [hz] at this
theorem aw5 (T : AwT w g1 ca cb h7 h10 ap cp ar cr w10) {g k : Nat} (G : AwG w g1 h10 w10 g) (K : AwG w g1 h10 w10 k) (hgk : g ≠ k) : AwX w g1 ca cb h7 g k ((((((((((w10.setCell ⟨g, 0, none⟩ (.slice ap (matchM (flatP exA) (flatP exB) 100).pairs.length cp)).setCell ⟨g, 1, none⟩ (.int .i64 (matchM (flatP exA) (flatP exB) 100).cost)).setCell ⟨g, 2, none⟩ (.bool (matchM (flatP exA) (flatP exB) 100).proven)).setCell ⟨g, 3, none⟩ (.int .i64 (matchM (flatP exA) (flatP exB) 100).bound)).setCell ⟨g, 4, none⟩ (.slice ar (matchM (flatP exA) (flatP exB) 100).proof.length cr)).setCell ⟨k, 0, none⟩ (.slice ap2 (matchM (flatP exA) (flatP exB) 0).pairs.length cp2)).setCell ⟨k, 1, none⟩ (.int .i64 (matchM (flatP exA) (flatP exB) 0).cost)).setCell ⟨k, 2, none⟩ (.bool (matchM (flatP exA) (flatP exB) 0).proven)).setCell ⟨k, 3, none⟩ (.int .i64 (matchM (flatP exA) (flatP exB) 0).bound)).setCell ⟨k, 4, none⟩ (.slice ar2 (matchM (flatP exA) (flatP exB) 0).proof.length cr2)) :=
  ⟨below5 (below5 T.bel G.le _ _ _ _ _) K.le _ _ _ _ _, (T.a.ne5 G.ne.1 _ _ _ _ _).ne5 K.ne.1 _ _ _ _ _, (T.b.ne5 G.ne.2 _ _ _ _ _).ne5 K.ne.2 _ _ _ _ _,
    ⟨h10, ap, cp, ar, cr, imm5 (imm5 T.imm G.no _ _ _ _ _) K.no _ _ _ _ _, T.le, T.m, (G.has.store _ _ _ _ _).ne5 (fun e => hgk e.symm) _ _ _ _ _⟩, ⟨ap2, cp2, ar2, cr2, (K.has.ne5 hgk _ _ _ _ _).store _ _ _ _ _⟩⟩
end

set_option maxRecDepth 100000 in
set_option maxHeartbeats 8000000 in
theorem awake_any (w : World) : Calls Try.prog 11 #[] w fun e w' => e = .returned (.bool true) ∧ Below w.heap.size w w' := by
  have HI := Lib.hid (imm_none w)
  go_enter Try.func11, Try.ntmps11
  go_wp2_with fail
  refine (num_any _ _ HI.out _).mono ?_
  rintro e w1 ⟨rfl, hb1⟩
  have B1 := Lib.hid hb1
  clear hb1
  go_wp2_with fail
  refine (num_any _ _ (HI.out.below B1.out) _).mono ?_
  rintro e w2 ⟨rfl, hb2⟩
  have B2 : Hid (Below w.heap.size w w2) := B1.out.trans (hb2.mono B1.out.size)
  clear hb2
  obtain ⟨h3, I3, S3, T3⟩ := trs_lit (HI.out.below B2.out) [numT ⟨#[49]⟩, numT ⟨#[50]⟩] [.int .i64 10, .string ⟨#[49]⟩, .slice none 0 0, .slice none 0 0, .int .i64 10, .string ⟨#[50]⟩, .slice none 0 0, .slice none 0 0] ⟨_, _, rfl, encNum _ _, _, _, rfl, encNum _ _, rfl⟩ (by decide)
  have S3' := Lib.hid S3
  have I3' := Lib.hid I3
  have T3' := Lib.hid T3
  clear S3 I3 T3
  go_wp2_with fail
  refine (call_any h3 _ I3'.out _ [numT ⟨#[49]⟩, numT ⟨#[50]⟩] T3'.out (by decide) (by decide)).mono ?_
  rintro e w4 ⟨va, rfl, h4, S4, TA⟩
  change TreeV h4 va exA at TA
  have B4 : Hid (Below w.heap.size w w4) := B2.out.trans ((S3'.out.below.trans (S4.below.mono S3'.out.below.size)).mono B2.out.size)
  have I4 := Lib.hid S4.imm
  have TA' := Lib.hid TA
  clear S4 TA
  go_wp2_with fail
  refine (num_any _ _ I4.out _).mono ?_
  rintro e w5 ⟨rfl, hb5⟩
  have B5 : Hid (Below w.heap.size w w5) := B4.out.trans (hb5.mono B4.out.size)
  have I5 := Lib.hid (I4.out.below hb5)
  clear hb5
  obtain ⟨h6, I6, S6, T6⟩ := trs_lit I5.out [numT ⟨#[50]⟩] [.int .i64 10, .string ⟨#[50]⟩, .slice none 0 0, .slice none 0 0] ⟨_, _, rfl, encNum _ _, rfl⟩ (by decide)
  have S6' := Lib.hid S6
  have I6' := Lib.hid I6
  have T6' := Lib.hid T6
  clear S6 I6 T6
  go_wp2_with fail
  refine (call_any h6 _ I6'.out _ [numT ⟨#[50]⟩] T6'.out (by decide) (by decide)).mono ?_
  rintro e w7 ⟨vb, rfl, h7, S7, TB⟩
  change TreeV h7 vb exB at TB
  have B7 : Hid (Below w.heap.size w w7) := B5.out.trans ((S6'.out.below.trans (S7.below.mono S6'.out.below.size)).mono B5.out.size)
  have I7 := Lib.hid S7.imm
  have TA7 : Hid (TreeV h7 va exA) := (TA'.out.mono S6'.out.le).mono S7.le
  have TB7 := Lib.hid TB
  clear S7 TB
  obtain ⟨al, cl, ak, ck, ys, rfl, hk, hll, hkl, -, -, -⟩ := TA7.out.open
  obtain ⟨bl, dl, bk, dk, yt, rfl, hk', hll', hkl', -, -, -⟩ := TB7.out.open
  go_upto_region 2 with fail
  have a0 : ((w7.alloc (Obj.cells #[.int .i64 exA.kind, .string exA.text, .slice al exA.leads.length cl, .slice ak exA.kids.length ck] 25)).alloc (Obj.cells #[.int .i64 exB.kind, .string exB.text, .slice bl exB.leads.length dl, .slice bk exB.kids.length dk] 25)).cell? ⟨w7.heap.size, 0, none⟩ = some (.int .i64 exA.kind) := by rw [World.cell?_alloc_past _ _ _ (by simp), World.cell?_alloc_at _ _ _ _ rfl]; rfl
  have a1 : ((w7.alloc (Obj.cells #[.int .i64 exA.kind, .string exA.text, .slice al exA.leads.length cl, .slice ak exA.kids.length ck] 25)).alloc (Obj.cells #[.int .i64 exB.kind, .string exB.text, .slice bl exB.leads.length dl, .slice bk exB.kids.length dk] 25)).cell? ⟨w7.heap.size, 1, none⟩ = some (.string exA.text) := by rw [World.cell?_alloc_past _ _ _ (by simp), World.cell?_alloc_at _ _ _ _ rfl]; rfl
  have a2 : ((w7.alloc (Obj.cells #[.int .i64 exA.kind, .string exA.text, .slice al exA.leads.length cl, .slice ak exA.kids.length ck] 25)).alloc (Obj.cells #[.int .i64 exB.kind, .string exB.text, .slice bl exB.leads.length dl, .slice bk exB.kids.length dk] 25)).cell? ⟨w7.heap.size, 2, none⟩ = some (.slice al exA.leads.length cl) := by rw [World.cell?_alloc_past _ _ _ (by simp), World.cell?_alloc_at _ _ _ _ rfl]; rfl
  have a3 : ((w7.alloc (Obj.cells #[.int .i64 exA.kind, .string exA.text, .slice al exA.leads.length cl, .slice ak exA.kids.length ck] 25)).alloc (Obj.cells #[.int .i64 exB.kind, .string exB.text, .slice bl exB.leads.length dl, .slice bk exB.kids.length dk] 25)).cell? ⟨w7.heap.size, 3, none⟩ = some (.slice ak exA.kids.length ck) := by rw [World.cell?_alloc_past _ _ _ (by simp), World.cell?_alloc_at _ _ _ _ rfl]; rfl
  have b0 : ((w7.alloc (Obj.cells #[.int .i64 exA.kind, .string exA.text, .slice al exA.leads.length cl, .slice ak exA.kids.length ck] 25)).alloc (Obj.cells #[.int .i64 exB.kind, .string exB.text, .slice bl exB.leads.length dl, .slice bk exB.kids.length dk] 25)).cell? ⟨w7.heap.size + 1, 0, none⟩ = some (.int .i64 exB.kind) := by rw [World.cell?_alloc_at _ _ _ _ (by simp)]; rfl
  have b1 : ((w7.alloc (Obj.cells #[.int .i64 exA.kind, .string exA.text, .slice al exA.leads.length cl, .slice ak exA.kids.length ck] 25)).alloc (Obj.cells #[.int .i64 exB.kind, .string exB.text, .slice bl exB.leads.length dl, .slice bk exB.kids.length dk] 25)).cell? ⟨w7.heap.size + 1, 1, none⟩ = some (.string exB.text) := by rw [World.cell?_alloc_at _ _ _ _ (by simp)]; rfl
  have b2 : ((w7.alloc (Obj.cells #[.int .i64 exA.kind, .string exA.text, .slice al exA.leads.length cl, .slice ak exA.kids.length ck] 25)).alloc (Obj.cells #[.int .i64 exB.kind, .string exB.text, .slice bl exB.leads.length dl, .slice bk exB.kids.length dk] 25)).cell? ⟨w7.heap.size + 1, 2, none⟩ = some (.slice bl exB.leads.length dl) := by rw [World.cell?_alloc_at _ _ _ _ (by simp)]; rfl
  have b3 : ((w7.alloc (Obj.cells #[.int .i64 exA.kind, .string exA.text, .slice al exA.leads.length cl, .slice ak exA.kids.length ck] 25)).alloc (Obj.cells #[.int .i64 exB.kind, .string exB.text, .slice bl exB.leads.length dl, .slice bk exB.kids.length dk] 25)).cell? ⟨w7.heap.size + 1, 3, none⟩ = some (.slice bk exB.kids.length dk) := by rw [World.cell?_alloc_at _ _ _ _ (by simp)]; rfl
  have B8 : Hid (Below w.heap.size w ((w7.alloc (Obj.cells #[.int .i64 exA.kind, .string exA.text, .slice al exA.leads.length cl, .slice ak exA.kids.length ck] 25)).alloc (Obj.cells #[.int .i64 exB.kind, .string exB.text, .slice bl exB.leads.length dl, .slice bk exB.kids.length dk] 25))) := (B7.out.alloc B7.out.size _).alloc (by simp; have := B7.out.size; omega) _
  have I8 : Hid (Imm h7 ((w7.alloc (Obj.cells #[.int .i64 exA.kind, .string exA.text, .slice al exA.leads.length cl, .slice ak exA.kids.length ck] 25)).alloc (Obj.cells #[.int .i64 exB.kind, .string exB.text, .slice bl exB.leads.length dl, .slice bk exB.kids.length dk] 25))) := (I7.out.alloc _).alloc _
  have HA8 : Hid (Has ((w7.alloc (Obj.cells #[.int .i64 exA.kind, .string exA.text, .slice al exA.leads.length cl, .slice ak exA.kids.length ck] 25)).alloc (Obj.cells #[.int .i64 exB.kind, .string exB.text, .slice bl exB.leads.length dl, .slice bk exB.kids.length dk] 25)) w7.heap.size #[.int .i64 exA.kind, .string exA.text, .slice al exA.leads.length cl, .slice ak exA.kids.length ck]) := (Has.new w7 _ _).alloc _
  have HB8 : Hid (Has ((w7.alloc (Obj.cells #[.int .i64 exA.kind, .string exA.text, .slice al exA.leads.length cl, .slice ak exA.kids.length ck] 25)).alloc (Obj.cells #[.int .i64 exB.kind, .string exB.text, .slice bl exB.leads.length dl, .slice bk exB.kids.length dk] 25)) (w7.heap.size + 1) #[.int .i64 exB.kind, .string exB.text, .slice bl exB.leads.length dl, .slice bk exB.kids.length dk]) := Has.new1 w7 _ _ _
  have z0 : ((w7.alloc (Obj.cells #[.int .i64 exA.kind, .string exA.text, .slice al exA.leads.length cl, .slice ak exA.kids.length ck] 25)).alloc (Obj.cells #[.int .i64 exB.kind, .string exB.text, .slice bl exB.leads.length dl, .slice bk exB.kids.length dk] 25)).heap.size = w7.heap.size + 2 := by simp
  generalize hW0 : (w7.alloc (Obj.cells #[.int .i64 exA.kind, .string exA.text, .slice al exA.leads.length cl, .slice ak exA.kids.length ck] 25)).alloc (Obj.cells #[.int .i64 exB.kind, .string exB.text, .slice bl exB.leads.length dl, .slice bk exB.kids.length dk] 25) = w8 at *
  clear hW0
  have l1 : w7.heap.size < w8.heap.size := by omega
  have l2 : w7.heap.size + 1 < w8.heap.size := by omega
  clear z0
  have A8 : Hid (Has w8 w7.heap.size #[.int .i64 exA.kind, .string exA.text, .slice al exA.leads.length cl, .slice ak exA.kids.length ck]) := HA8.out
  have B8' : Hid (Has w8 (w7.heap.size + 1) #[.int .i64 exB.kind, .string exB.text, .slice bl exB.leads.length dl, .slice bk exB.kids.length dk]) := HB8.out
  have l3 : w7.heap.size < w8.heap.size + 1 := by omega
  have l4 : w7.heap.size < w8.heap.size + 1 + 1 := by omega
  have l5 : w7.heap.size + 1 < w8.heap.size + 1 := by omega
  have l6 : w7.heap.size + 1 < w8.heap.size + 1 + 1 := by omega
  have l1n := Nat.ne_of_lt l1
  have l1g := Nat.ne_of_gt l1
  have l2n := Nat.ne_of_lt l2
  have l2g := Nat.ne_of_gt l2
  have l3n := Nat.ne_of_lt l3
  have l3g := Nat.ne_of_gt l3
  have l5n : w7.heap.size ≠ w8.heap.size := by omega
  have g8a : w8.heap.size ≠ w7.heap.size ∧ w8.heap.size ≠ w7.heap.size + 1 := by omega
  have g8b : w8.heap.size + 1 ≠ w7.heap.size ∧ w8.heap.size + 1 ≠ w7.heap.size + 1 := by omega
  have i64h : I64 100 := by unfold I64; omega
  have i64z : I64 0 := by unfold I64; omega
  go_cut [3, 4] (fun s3 s4 wx => ∃ g3 g4 : Nat, s3 = .pointer (some ⟨g3, 0, none⟩) ∧ s4 = .pointer (some ⟨g4, 0, none⟩) ∧ AwX w w7.heap.size (#[.int .i64 exA.kind, .string exA.text, .slice al exA.leads.length cl, .slice ak exA.kids.length ck]) (#[.int .i64 exB.kind, .string exB.text, .slice bl exB.leads.length dl, .slice bk exB.kids.length dk]) h7 g3 g4 wx)
  case first =>
    go_region_held3 (fun w' => w'.cell? ⟨w7.heap.size, 0, none⟩ = some (.int .i64 exA.kind) ∧ w'.cell? ⟨w7.heap.size, 1, none⟩ = some (.string exA.text) ∧ w'.cell? ⟨w7.heap.size, 2, none⟩ = some (.slice al exA.leads.length cl) ∧ w'.cell? ⟨w7.heap.size, 3, none⟩ = some (.slice ak exA.kids.length ck) ∧ w'.cell? ⟨w7.heap.size + 1, 0, none⟩ = some (.int .i64 exB.kind) ∧ w'.cell? ⟨w7.heap.size + 1, 1, none⟩ = some (.string exB.text) ∧ w'.cell? ⟨w7.heap.size + 1, 2, none⟩ = some (.slice bl exB.leads.length dl) ∧ w'.cell? ⟨w7.heap.size + 1, 3, none⟩ = some (.slice bk exB.kids.length dk))
      (first | (with_reducible exact ⟨ta0, ta1, ta2, ta3, tb0, tb1, tb2, tb3⟩) | (with_reducible exact ⟨sa0, sa1, sa2, sa3, sb0, sb1, sb2, sb3⟩) | go_keep)
      (first
      | (go_at_call 13; (with_reducible refine (match_any h7 (w8.drew) (I8.out.drew) _ _ exA exB 100 i64h TA7.out TB7.out ex_small.1 ex_small.2).mono ?_); rintro e w9 ⟨v9, rfl, h9, F1, ap, cp, ar, cr, rfl, i1, i2, PR1, CM1⟩; have XA := Lib.hid ((A8.out.drew).below F1.below); have XB := Lib.hid ((B8'.out.drew).below F1.below); have sa0 : w9.cell? ⟨w7.heap.size, 0, none⟩ = some (.int .i64 exA.kind) := XA.out.cl 0; have sa1 : w9.cell? ⟨w7.heap.size, 1, none⟩ = some (.string exA.text) := XA.out.cl 1; have sa2 : w9.cell? ⟨w7.heap.size, 2, none⟩ = some (.slice al exA.leads.length cl) := XA.out.cl 2; have sa3 : w9.cell? ⟨w7.heap.size, 3, none⟩ = some (.slice ak exA.kids.length ck) := XA.out.cl 3; have sb0 : w9.cell? ⟨w7.heap.size + 1, 0, none⟩ = some (.int .i64 exB.kind) := XB.out.cl 0; have sb1 : w9.cell? ⟨w7.heap.size + 1, 1, none⟩ = some (.string exB.text) := XB.out.cl 1; have sb2 : w9.cell? ⟨w7.heap.size + 1, 2, none⟩ = some (.slice bl exB.leads.length dl) := XB.out.cl 2; have sb3 : w9.cell? ⟨w7.heap.size + 1, 3, none⟩ = some (.slice bk exB.kids.length dk) := XB.out.cl 3; have k1 := XA.out.lt; have k1n := Nat.ne_of_lt k1; have k1g := Nat.ne_of_gt k1; have k2 := XB.out.lt; have k2n := Nat.ne_of_lt k2; have k2g := Nat.ne_of_gt k2; have k3 := Nat.lt_succ_of_lt XA.out.lt; have k3n := Nat.ne_of_lt k3; have k3g := Nat.ne_of_gt k3; have k4 := Nat.lt_succ_of_lt XB.out.lt; have k4n := Nat.ne_of_lt k4; have k4g := Nat.ne_of_gt k4; have BW9 : Hid (Below w.heap.size w w9) := B8.out.drew.trans (F1.below.mono (B8.out.drew).size); have FH1 := Lib.hid F1; have P1 := Lib.hid PR1; have C1 := Lib.hid CM1; clear F1 PR1 CM1)
      | (go_at_call 13; (with_reducible refine (match_any h7 ((w8.alloc (Obj.cells #[.slice none 0 0, .int .i64 0, .bool false, .int .i64 0, .slice none 0 0] 32)).drew) ((I8.out.alloc _).drew) _ _ exA exB 100 i64h TA7.out TB7.out ex_small.1 ex_small.2).mono ?_); rintro e w9 ⟨v9, rfl, h9, F1, ap, cp, ar, cr, rfl, i1, i2, PR1, CM1⟩; have XA := Lib.hid (((A8.out.alloc _).drew).below F1.below); have XB := Lib.hid (((B8'.out.alloc _).drew).below F1.below); have sa0 : w9.cell? ⟨w7.heap.size, 0, none⟩ = some (.int .i64 exA.kind) := XA.out.cl 0; have sa1 : w9.cell? ⟨w7.heap.size, 1, none⟩ = some (.string exA.text) := XA.out.cl 1; have sa2 : w9.cell? ⟨w7.heap.size, 2, none⟩ = some (.slice al exA.leads.length cl) := XA.out.cl 2; have sa3 : w9.cell? ⟨w7.heap.size, 3, none⟩ = some (.slice ak exA.kids.length ck) := XA.out.cl 3; have sb0 : w9.cell? ⟨w7.heap.size + 1, 0, none⟩ = some (.int .i64 exB.kind) := XB.out.cl 0; have sb1 : w9.cell? ⟨w7.heap.size + 1, 1, none⟩ = some (.string exB.text) := XB.out.cl 1; have sb2 : w9.cell? ⟨w7.heap.size + 1, 2, none⟩ = some (.slice bl exB.leads.length dl) := XB.out.cl 2; have sb3 : w9.cell? ⟨w7.heap.size + 1, 3, none⟩ = some (.slice bk exB.kids.length dk) := XB.out.cl 3; have k1 := XA.out.lt; have k1n := Nat.ne_of_lt k1; have k1g := Nat.ne_of_gt k1; have k2 := XB.out.lt; have k2n := Nat.ne_of_lt k2; have k2g := Nat.ne_of_gt k2; have k3 := Nat.lt_succ_of_lt XA.out.lt; have k3n := Nat.ne_of_lt k3; have k3g := Nat.ne_of_gt k3; have k4 := Nat.lt_succ_of_lt XB.out.lt; have k4n := Nat.ne_of_lt k4; have k4g := Nat.ne_of_gt k4; have XC := Lib.hid (((Has.new w8 #[.slice none 0 0, .int .i64 0, .bool false, .int .i64 0, .slice none 0 0] 32).drew).below F1.below); have xc := XC.out.cl; have xcf := XC.out.fz; have k5 := XC.out.lt; have k5n := Nat.ne_of_lt k5; have k5g := Nat.ne_of_gt k5; have k6 := Nat.lt_succ_of_lt XC.out.lt; have k6n := Nat.ne_of_lt k6; have k6g := Nat.ne_of_gt k6; have BW9 : Hid (Below w.heap.size w w9) := (B8.out.alloc B8.out.size _).drew.trans (F1.below.mono ((B8.out.alloc B8.out.size _).drew).size); have XCL := ((Has.new w8 #[.slice none 0 0, .int .i64 0, .bool false, .int .i64 0, .slice none 0 0] 32).drew).lt; have FH1 := Lib.hid F1; have P1 := Lib.hid PR1; have C1 := Lib.hid CM1; clear F1 PR1 CM1)
      | (go_at_call 13; (with_reducible refine (match_any h7 (((w8.alloc (Obj.cells #[.slice none 0 0, .int .i64 0, .bool false, .int .i64 0, .slice none 0 0] 32)).alloc (Obj.cells #[.slice none 0 0, .int .i64 0, .bool false, .int .i64 0, .slice none 0 0] 32)).drew) (((I8.out.alloc _).alloc _).drew) _ _ exA exB 100 i64h TA7.out TB7.out ex_small.1 ex_small.2).mono ?_); rintro e w9 ⟨v9, rfl, h9, F1, ap, cp, ar, cr, rfl, i1, i2, PR1, CM1⟩; have XA := Lib.hid ((((A8.out.alloc _).alloc _).drew).below F1.below); have XB := Lib.hid ((((B8'.out.alloc _).alloc _).drew).below F1.below); have sa0 : w9.cell? ⟨w7.heap.size, 0, none⟩ = some (.int .i64 exA.kind) := XA.out.cl 0; have sa1 : w9.cell? ⟨w7.heap.size, 1, none⟩ = some (.string exA.text) := XA.out.cl 1; have sa2 : w9.cell? ⟨w7.heap.size, 2, none⟩ = some (.slice al exA.leads.length cl) := XA.out.cl 2; have sa3 : w9.cell? ⟨w7.heap.size, 3, none⟩ = some (.slice ak exA.kids.length ck) := XA.out.cl 3; have sb0 : w9.cell? ⟨w7.heap.size + 1, 0, none⟩ = some (.int .i64 exB.kind) := XB.out.cl 0; have sb1 : w9.cell? ⟨w7.heap.size + 1, 1, none⟩ = some (.string exB.text) := XB.out.cl 1; have sb2 : w9.cell? ⟨w7.heap.size + 1, 2, none⟩ = some (.slice bl exB.leads.length dl) := XB.out.cl 2; have sb3 : w9.cell? ⟨w7.heap.size + 1, 3, none⟩ = some (.slice bk exB.kids.length dk) := XB.out.cl 3; have k1 := XA.out.lt; have k1n := Nat.ne_of_lt k1; have k1g := Nat.ne_of_gt k1; have k2 := XB.out.lt; have k2n := Nat.ne_of_lt k2; have k2g := Nat.ne_of_gt k2; have k3 := Nat.lt_succ_of_lt XA.out.lt; have k3n := Nat.ne_of_lt k3; have k3g := Nat.ne_of_gt k3; have k4 := Nat.lt_succ_of_lt XB.out.lt; have k4n := Nat.ne_of_lt k4; have k4g := Nat.ne_of_gt k4; have XC := Lib.hid ((((Has.new w8 #[.slice none 0 0, .int .i64 0, .bool false, .int .i64 0, .slice none 0 0] 32).alloc _).drew).below F1.below); have xc := XC.out.cl; have xcf := XC.out.fz; have k5 := XC.out.lt; have k5n := Nat.ne_of_lt k5; have k5g := Nat.ne_of_gt k5; have k6 := Nat.lt_succ_of_lt XC.out.lt; have k6n := Nat.ne_of_lt k6; have k6g := Nat.ne_of_gt k6; have XD := Lib.hid ((Has.new1 w8 (Obj.cells #[.slice none 0 0, .int .i64 0, .bool false, .int .i64 0, .slice none 0 0] 32) #[.slice none 0 0, .int .i64 0, .bool false, .int .i64 0, .slice none 0 0] 32).drew.below F1.below); have xd := XD.out.cl; have xdf := XD.out.fz; have k7 := XD.out.lt; have k7n := Nat.ne_of_lt k7; have k7g := Nat.ne_of_gt k7; have k8 := Nat.lt_succ_of_lt XD.out.lt; have k8n := Nat.ne_of_lt k8; have k8g := Nat.ne_of_gt k8; have BW9 : Hid (Below w.heap.size w w9) := ((B8.out.alloc B8.out.size _).alloc (le_al B8.out.size) _).drew.trans (F1.below.mono (((B8.out.alloc B8.out.size _).alloc (le_al B8.out.size) _).drew).size); have XCL := (((Has.new w8 #[.slice none 0 0, .int .i64 0, .bool false, .int .i64 0, .slice none 0 0] 32).alloc (Obj.cells #[.slice none 0 0, .int .i64 0, .bool false, .int .i64 0, .slice none 0 0] 32)).drew).lt; have XDL := (Has.new1 w8 (Obj.cells #[.slice none 0 0, .int .i64 0, .bool false, .int .i64 0, .slice none 0 0] 32) #[.slice none 0 0, .int .i64 0, .bool false, .int .i64 0, .slice none 0 0] 32).drew.lt; have FH1 := Lib.hid F1; have P1 := Lib.hid PR1; have C1 := Lib.hid CM1; clear F1 PR1 CM1)
      | (go_at_call 13; have hXD := XD; (with_reducible refine (match_any h9 (w9) (FH1.out.imm) _ _ exA exB 0 i64z (TA7.out.mono FH1.out.le) (TB7.out.mono FH1.out.le) ex_small.1 ex_small.2).mono ?_); rintro e w10 ⟨v10, rfl, h10, F2, ap2, cp2, ar2, cr2, rfl, i3, i4, PR2, CM2⟩; have YA := Lib.hid ((XA.out).below F2.below); have m1 := YA.out.lt; have m1n := Nat.ne_of_lt m1; have m1g := Nat.ne_of_gt m1; have m2 := Nat.lt_succ_of_lt YA.out.lt; have m2n := Nat.ne_of_lt m2; have m2g := Nat.ne_of_gt m2; have YB := Lib.hid ((XB.out).below F2.below); have m3 := YB.out.lt; have m3n := Nat.ne_of_lt m3; have m3g := Nat.ne_of_gt m3; have m4 := Nat.lt_succ_of_lt YB.out.lt; have m4n := Nat.ne_of_lt m4; have m4g := Nat.ne_of_gt m4; have ta0 : w10.cell? ⟨w7.heap.size, 0, none⟩ = some (.int .i64 exA.kind) := YA.out.cl 0; have ta1 : w10.cell? ⟨w7.heap.size, 1, none⟩ = some (.string exA.text) := YA.out.cl 1; have ta2 : w10.cell? ⟨w7.heap.size, 2, none⟩ = some (.slice al exA.leads.length cl) := YA.out.cl 2; have ta3 : w10.cell? ⟨w7.heap.size, 3, none⟩ = some (.slice ak exA.kids.length ck) := YA.out.cl 3; have tb0 : w10.cell? ⟨w7.heap.size + 1, 0, none⟩ = some (.int .i64 exB.kind) := YB.out.cl 0; have tb1 : w10.cell? ⟨w7.heap.size + 1, 1, none⟩ = some (.string exB.text) := YB.out.cl 1; have tb2 : w10.cell? ⟨w7.heap.size + 1, 2, none⟩ = some (.slice bl exB.leads.length dl) := YB.out.cl 2; have tb3 : w10.cell? ⟨w7.heap.size + 1, 3, none⟩ = some (.slice bk exB.kids.length dk) := YB.out.cl 3; have YC := Lib.hid ((XC.out).below F2.below); have yc := YC.out.cl; have ycf := YC.out.fz; have m5 := YC.out.lt; have m5n := Nat.ne_of_lt m5; have m5g := Nat.ne_of_gt m5; have m6 := Nat.lt_succ_of_lt YC.out.lt; have m6n := Nat.ne_of_lt m6; have m6g := Nat.ne_of_gt m6; have YD := Lib.hid ((XD.out).below F2.below); have yd := YD.out.cl; have ydf := YD.out.fz; have m7 := YD.out.lt; have m7n := Nat.ne_of_lt m7; have m7g := Nat.ne_of_gt m7; have m8 := Nat.lt_succ_of_lt YD.out.lt; have m8n := Nat.ne_of_lt m8; have m8g := Nat.ne_of_gt m8; have T10 : Hid (AwT w w7.heap.size #[.int .i64 exA.kind, .string exA.text, .slice al exA.leads.length cl, .slice ak exA.kids.length ck] #[.int .i64 exB.kind, .string exB.text, .slice bl exB.leads.length dl, .slice bk exB.kids.length dk] h7 h10 ap cp ar cr w10) := ⟨(BW9.out).trans (F2.below.mono ((BW9.out)).size), YA.out, YB.out, F2.imm, Hp.le_trans FH1.out.le F2.le, MatchV.mono F2.le ⟨ap, cp, ar, cr, rfl, i1, i2, P1.out, C1.out⟩⟩; have GC : Hid (AwG w w7.heap.size h10 w10 w8.heap.size) := ⟨YC.out, (F2.old _ (XC.out).lt).trans ((FH1.out.old _ XCL).trans (new_own I8.out _ (Nat.le_refl _))), B8.out.size, g8a⟩; have GD : Hid (AwG w w7.heap.size h10 w10 (w8.heap.size + 1)) := ⟨YD.out, (F2.old _ (XD.out).lt).trans ((FH1.out.old _ XDL).trans (new_own I8.out _ (Nat.le_succ _))), Nat.le_succ_of_le B8.out.size, g8b⟩; clear F2 PR2 CM2)
      | (go_at_call 13; have hXC := XC; (with_reducible refine (match_any h9 (w9) (FH1.out.imm) _ _ exA exB 0 i64z (TA7.out.mono FH1.out.le) (TB7.out.mono FH1.out.le) ex_small.1 ex_small.2).mono ?_); rintro e w10 ⟨v10, rfl, h10, F2, ap2, cp2, ar2, cr2, rfl, i3, i4, PR2, CM2⟩; have YA := Lib.hid ((XA.out).below F2.below); have m1 := YA.out.lt; have m1n := Nat.ne_of_lt m1; have m1g := Nat.ne_of_gt m1; have m2 := Nat.lt_succ_of_lt YA.out.lt; have m2n := Nat.ne_of_lt m2; have m2g := Nat.ne_of_gt m2; have YB := Lib.hid ((XB.out).below F2.below); have m3 := YB.out.lt; have m3n := Nat.ne_of_lt m3; have m3g := Nat.ne_of_gt m3; have m4 := Nat.lt_succ_of_lt YB.out.lt; have m4n := Nat.ne_of_lt m4; have m4g := Nat.ne_of_gt m4; have ta0 : w10.cell? ⟨w7.heap.size, 0, none⟩ = some (.int .i64 exA.kind) := YA.out.cl 0; have ta1 : w10.cell? ⟨w7.heap.size, 1, none⟩ = some (.string exA.text) := YA.out.cl 1; have ta2 : w10.cell? ⟨w7.heap.size, 2, none⟩ = some (.slice al exA.leads.length cl) := YA.out.cl 2; have ta3 : w10.cell? ⟨w7.heap.size, 3, none⟩ = some (.slice ak exA.kids.length ck) := YA.out.cl 3; have tb0 : w10.cell? ⟨w7.heap.size + 1, 0, none⟩ = some (.int .i64 exB.kind) := YB.out.cl 0; have tb1 : w10.cell? ⟨w7.heap.size + 1, 1, none⟩ = some (.string exB.text) := YB.out.cl 1; have tb2 : w10.cell? ⟨w7.heap.size + 1, 2, none⟩ = some (.slice bl exB.leads.length dl) := YB.out.cl 2; have tb3 : w10.cell? ⟨w7.heap.size + 1, 3, none⟩ = some (.slice bk exB.kids.length dk) := YB.out.cl 3; have YC := Lib.hid ((XC.out).below F2.below); have yc := YC.out.cl; have ycf := YC.out.fz; have m5 := YC.out.lt; have m5n := Nat.ne_of_lt m5; have m5g := Nat.ne_of_gt m5; have m6 := Nat.lt_succ_of_lt YC.out.lt; have m6n := Nat.ne_of_lt m6; have m6g := Nat.ne_of_gt m6; have T10 : Hid (AwT w w7.heap.size #[.int .i64 exA.kind, .string exA.text, .slice al exA.leads.length cl, .slice ak exA.kids.length ck] #[.int .i64 exB.kind, .string exB.text, .slice bl exB.leads.length dl, .slice bk exB.kids.length dk] h7 h10 ap cp ar cr w10) := ⟨(BW9.out).trans (F2.below.mono ((BW9.out)).size), YA.out, YB.out, F2.imm, Hp.le_trans FH1.out.le F2.le, MatchV.mono F2.le ⟨ap, cp, ar, cr, rfl, i1, i2, P1.out, C1.out⟩⟩; have GC : Hid (AwG w w7.heap.size h10 w10 w8.heap.size) := ⟨YC.out, (F2.old _ (XC.out).lt).trans ((FH1.out.old _ XCL).trans (new_own I8.out _ (Nat.le_refl _))), B8.out.size, g8a⟩; clear F2 PR2 CM2)
      | (go_at_call 13; have hXC := XC; (with_reducible refine (match_any h9 (w9.alloc (Obj.cells #[.slice none 0 0, .int .i64 0, .bool false, .int .i64 0, .slice none 0 0] 32)) (FH1.out.imm.alloc _) _ _ exA exB 0 i64z (TA7.out.mono FH1.out.le) (TB7.out.mono FH1.out.le) ex_small.1 ex_small.2).mono ?_); rintro e w10 ⟨v10, rfl, h10, F2, ap2, cp2, ar2, cr2, rfl, i3, i4, PR2, CM2⟩; have YA := Lib.hid (((XA.out.alloc _)).below F2.below); have m1 := YA.out.lt; have m1n := Nat.ne_of_lt m1; have m1g := Nat.ne_of_gt m1; have m2 := Nat.lt_succ_of_lt YA.out.lt; have m2n := Nat.ne_of_lt m2; have m2g := Nat.ne_of_gt m2; have YB := Lib.hid (((XB.out.alloc _)).below F2.below); have m3 := YB.out.lt; have m3n := Nat.ne_of_lt m3; have m3g := Nat.ne_of_gt m3; have m4 := Nat.lt_succ_of_lt YB.out.lt; have m4n := Nat.ne_of_lt m4; have m4g := Nat.ne_of_gt m4; have ta0 : w10.cell? ⟨w7.heap.size, 0, none⟩ = some (.int .i64 exA.kind) := YA.out.cl 0; have ta1 : w10.cell? ⟨w7.heap.size, 1, none⟩ = some (.string exA.text) := YA.out.cl 1; have ta2 : w10.cell? ⟨w7.heap.size, 2, none⟩ = some (.slice al exA.leads.length cl) := YA.out.cl 2; have ta3 : w10.cell? ⟨w7.heap.size, 3, none⟩ = some (.slice ak exA.kids.length ck) := YA.out.cl 3; have tb0 : w10.cell? ⟨w7.heap.size + 1, 0, none⟩ = some (.int .i64 exB.kind) := YB.out.cl 0; have tb1 : w10.cell? ⟨w7.heap.size + 1, 1, none⟩ = some (.string exB.text) := YB.out.cl 1; have tb2 : w10.cell? ⟨w7.heap.size + 1, 2, none⟩ = some (.slice bl exB.leads.length dl) := YB.out.cl 2; have tb3 : w10.cell? ⟨w7.heap.size + 1, 3, none⟩ = some (.slice bk exB.kids.length dk) := YB.out.cl 3; have YC := Lib.hid (((XC.out.alloc _)).below F2.below); have yc := YC.out.cl; have ycf := YC.out.fz; have m5 := YC.out.lt; have m5n := Nat.ne_of_lt m5; have m5g := Nat.ne_of_gt m5; have m6 := Nat.lt_succ_of_lt YC.out.lt; have m6n := Nat.ne_of_lt m6; have m6g := Nat.ne_of_gt m6; have YE := Lib.hid ((Has.new w9 #[.slice none 0 0, .int .i64 0, .bool false, .int .i64 0, .slice none 0 0] 32).below F2.below); have ye := YE.out.cl; have yef := YE.out.fz; have m7 := YE.out.lt; have m7n := Nat.ne_of_lt m7; have m7g := Nat.ne_of_gt m7; have m8 := Nat.lt_succ_of_lt YE.out.lt; have m8n := Nat.ne_of_lt m8; have m8g := Nat.ne_of_gt m8; have T10 : Hid (AwT w w7.heap.size #[.int .i64 exA.kind, .string exA.text, .slice al exA.leads.length cl, .slice ak exA.kids.length ck] #[.int .i64 exB.kind, .string exB.text, .slice bl exB.leads.length dl, .slice bk exB.kids.length dk] h7 h10 ap cp ar cr w10) := ⟨(BW9.out.alloc BW9.out.size _).trans (F2.below.mono ((BW9.out.alloc BW9.out.size _)).size), YA.out, YB.out, F2.imm, Hp.le_trans FH1.out.le F2.le, MatchV.mono F2.le ⟨ap, cp, ar, cr, rfl, i1, i2, P1.out, C1.out⟩⟩; have GC : Hid (AwG w w7.heap.size h10 w10 w8.heap.size) := ⟨YC.out, (F2.old _ ((XC.out.alloc _)).lt).trans ((FH1.out.old _ XCL).trans (new_own I8.out _ (Nat.le_refl _))), B8.out.size, g8a⟩; have GE : Hid (AwG w w7.heap.size h10 w10 w9.heap.size) := ⟨YE.out, (F2.old _ (Has.new w9 #[.slice none 0 0, .int .i64 0, .bool false, .int .i64 0, .slice none 0 0] 32).lt).trans (new_own FH1.out.imm _ (Nat.le_refl _)), BW9.out.size, ⟨Nat.ne_of_gt XA.out.lt, Nat.ne_of_gt XB.out.lt⟩⟩; clear F2 PR2 CM2)
      | (go_at_call 13; (with_reducible refine (match_any h9 (w9) (FH1.out.imm) _ _ exA exB 0 i64z (TA7.out.mono FH1.out.le) (TB7.out.mono FH1.out.le) ex_small.1 ex_small.2).mono ?_); rintro e w10 ⟨v10, rfl, h10, F2, ap2, cp2, ar2, cr2, rfl, i3, i4, PR2, CM2⟩; have YA := Lib.hid ((XA.out).below F2.below); have m1 := YA.out.lt; have m1n := Nat.ne_of_lt m1; have m1g := Nat.ne_of_gt m1; have m2 := Nat.lt_succ_of_lt YA.out.lt; have m2n := Nat.ne_of_lt m2; have m2g := Nat.ne_of_gt m2; have YB := Lib.hid ((XB.out).below F2.below); have m3 := YB.out.lt; have m3n := Nat.ne_of_lt m3; have m3g := Nat.ne_of_gt m3; have m4 := Nat.lt_succ_of_lt YB.out.lt; have m4n := Nat.ne_of_lt m4; have m4g := Nat.ne_of_gt m4; have ta0 : w10.cell? ⟨w7.heap.size, 0, none⟩ = some (.int .i64 exA.kind) := YA.out.cl 0; have ta1 : w10.cell? ⟨w7.heap.size, 1, none⟩ = some (.string exA.text) := YA.out.cl 1; have ta2 : w10.cell? ⟨w7.heap.size, 2, none⟩ = some (.slice al exA.leads.length cl) := YA.out.cl 2; have ta3 : w10.cell? ⟨w7.heap.size, 3, none⟩ = some (.slice ak exA.kids.length ck) := YA.out.cl 3; have tb0 : w10.cell? ⟨w7.heap.size + 1, 0, none⟩ = some (.int .i64 exB.kind) := YB.out.cl 0; have tb1 : w10.cell? ⟨w7.heap.size + 1, 1, none⟩ = some (.string exB.text) := YB.out.cl 1; have tb2 : w10.cell? ⟨w7.heap.size + 1, 2, none⟩ = some (.slice bl exB.leads.length dl) := YB.out.cl 2; have tb3 : w10.cell? ⟨w7.heap.size + 1, 3, none⟩ = some (.slice bk exB.kids.length dk) := YB.out.cl 3; have T10 : Hid (AwT w w7.heap.size #[.int .i64 exA.kind, .string exA.text, .slice al exA.leads.length cl, .slice ak exA.kids.length ck] #[.int .i64 exB.kind, .string exB.text, .slice bl exB.leads.length dl, .slice bk exB.kids.length dk] h7 h10 ap cp ar cr w10) := ⟨(BW9.out).trans (F2.below.mono ((BW9.out)).size), YA.out, YB.out, F2.imm, Hp.le_trans FH1.out.le F2.le, MatchV.mono F2.le ⟨ap, cp, ar, cr, rfl, i1, i2, P1.out, C1.out⟩⟩; clear F2 PR2 CM2)
      | (go_at_call 13; (with_reducible refine (match_any h9 (w9.alloc (Obj.cells #[.slice none 0 0, .int .i64 0, .bool false, .int .i64 0, .slice none 0 0] 32)) (FH1.out.imm.alloc _) _ _ exA exB 0 i64z (TA7.out.mono FH1.out.le) (TB7.out.mono FH1.out.le) ex_small.1 ex_small.2).mono ?_); rintro e w10 ⟨v10, rfl, h10, F2, ap2, cp2, ar2, cr2, rfl, i3, i4, PR2, CM2⟩; have YA := Lib.hid (((XA.out.alloc _)).below F2.below); have m1 := YA.out.lt; have m1n := Nat.ne_of_lt m1; have m1g := Nat.ne_of_gt m1; have m2 := Nat.lt_succ_of_lt YA.out.lt; have m2n := Nat.ne_of_lt m2; have m2g := Nat.ne_of_gt m2; have YB := Lib.hid (((XB.out.alloc _)).below F2.below); have m3 := YB.out.lt; have m3n := Nat.ne_of_lt m3; have m3g := Nat.ne_of_gt m3; have m4 := Nat.lt_succ_of_lt YB.out.lt; have m4n := Nat.ne_of_lt m4; have m4g := Nat.ne_of_gt m4; have ta0 : w10.cell? ⟨w7.heap.size, 0, none⟩ = some (.int .i64 exA.kind) := YA.out.cl 0; have ta1 : w10.cell? ⟨w7.heap.size, 1, none⟩ = some (.string exA.text) := YA.out.cl 1; have ta2 : w10.cell? ⟨w7.heap.size, 2, none⟩ = some (.slice al exA.leads.length cl) := YA.out.cl 2; have ta3 : w10.cell? ⟨w7.heap.size, 3, none⟩ = some (.slice ak exA.kids.length ck) := YA.out.cl 3; have tb0 : w10.cell? ⟨w7.heap.size + 1, 0, none⟩ = some (.int .i64 exB.kind) := YB.out.cl 0; have tb1 : w10.cell? ⟨w7.heap.size + 1, 1, none⟩ = some (.string exB.text) := YB.out.cl 1; have tb2 : w10.cell? ⟨w7.heap.size + 1, 2, none⟩ = some (.slice bl exB.leads.length dl) := YB.out.cl 2; have tb3 : w10.cell? ⟨w7.heap.size + 1, 3, none⟩ = some (.slice bk exB.kids.length dk) := YB.out.cl 3; have YE := Lib.hid ((Has.new w9 #[.slice none 0 0, .int .i64 0, .bool false, .int .i64 0, .slice none 0 0] 32).below F2.below); have ye := YE.out.cl; have yef := YE.out.fz; have m5 := YE.out.lt; have m5n := Nat.ne_of_lt m5; have m5g := Nat.ne_of_gt m5; have m6 := Nat.lt_succ_of_lt YE.out.lt; have m6n := Nat.ne_of_lt m6; have m6g := Nat.ne_of_gt m6; have T10 : Hid (AwT w w7.heap.size #[.int .i64 exA.kind, .string exA.text, .slice al exA.leads.length cl, .slice ak exA.kids.length ck] #[.int .i64 exB.kind, .string exB.text, .slice bl exB.leads.length dl, .slice bk exB.kids.length dk] h7 h10 ap cp ar cr w10) := ⟨(BW9.out.alloc BW9.out.size _).trans (F2.below.mono ((BW9.out.alloc BW9.out.size _)).size), YA.out, YB.out, F2.imm, Hp.le_trans FH1.out.le F2.le, MatchV.mono F2.le ⟨ap, cp, ar, cr, rfl, i1, i2, P1.out, C1.out⟩⟩; have GE : Hid (AwG w w7.heap.size h10 w10 w9.heap.size) := ⟨YE.out, (F2.old _ (Has.new w9 #[.slice none 0 0, .int .i64 0, .bool false, .int .i64 0, .slice none 0 0] 32).lt).trans (new_own FH1.out.imm _ (Nat.le_refl _)), BW9.out.size, ⟨Nat.ne_of_gt XA.out.lt, Nat.ne_of_gt XB.out.lt⟩⟩; clear F2 PR2 CM2)
      | (go_at_call 13; (with_reducible refine (match_any h9 ((w9.alloc (Obj.cells #[.slice none 0 0, .int .i64 0, .bool false, .int .i64 0, .slice none 0 0] 32)).alloc (Obj.cells #[.slice none 0 0, .int .i64 0, .bool false, .int .i64 0, .slice none 0 0] 32)) ((FH1.out.imm.alloc _).alloc _) _ _ exA exB 0 i64z (TA7.out.mono FH1.out.le) (TB7.out.mono FH1.out.le) ex_small.1 ex_small.2).mono ?_); rintro e w10 ⟨v10, rfl, h10, F2, ap2, cp2, ar2, cr2, rfl, i3, i4, PR2, CM2⟩; have YA := Lib.hid ((((XA.out.alloc _).alloc _)).below F2.below); have m1 := YA.out.lt; have m1n := Nat.ne_of_lt m1; have m1g := Nat.ne_of_gt m1; have m2 := Nat.lt_succ_of_lt YA.out.lt; have m2n := Nat.ne_of_lt m2; have m2g := Nat.ne_of_gt m2; have YB := Lib.hid ((((XB.out.alloc _).alloc _)).below F2.below); have m3 := YB.out.lt; have m3n := Nat.ne_of_lt m3; have m3g := Nat.ne_of_gt m3; have m4 := Nat.lt_succ_of_lt YB.out.lt; have m4n := Nat.ne_of_lt m4; have m4g := Nat.ne_of_gt m4; have ta0 : w10.cell? ⟨w7.heap.size, 0, none⟩ = some (.int .i64 exA.kind) := YA.out.cl 0; have ta1 : w10.cell? ⟨w7.heap.size, 1, none⟩ = some (.string exA.text) := YA.out.cl 1; have ta2 : w10.cell? ⟨w7.heap.size, 2, none⟩ = some (.slice al exA.leads.length cl) := YA.out.cl 2; have ta3 : w10.cell? ⟨w7.heap.size, 3, none⟩ = some (.slice ak exA.kids.length ck) := YA.out.cl 3; have tb0 : w10.cell? ⟨w7.heap.size + 1, 0, none⟩ = some (.int .i64 exB.kind) := YB.out.cl 0; have tb1 : w10.cell? ⟨w7.heap.size + 1, 1, none⟩ = some (.string exB.text) := YB.out.cl 1; have tb2 : w10.cell? ⟨w7.heap.size + 1, 2, none⟩ = some (.slice bl exB.leads.length dl) := YB.out.cl 2; have tb3 : w10.cell? ⟨w7.heap.size + 1, 3, none⟩ = some (.slice bk exB.kids.length dk) := YB.out.cl 3; have YE := Lib.hid (((Has.new w9 #[.slice none 0 0, .int .i64 0, .bool false, .int .i64 0, .slice none 0 0] 32).alloc _).below F2.below); have ye := YE.out.cl; have yef := YE.out.fz; have m5 := YE.out.lt; have m5n := Nat.ne_of_lt m5; have m5g := Nat.ne_of_gt m5; have m6 := Nat.lt_succ_of_lt YE.out.lt; have m6n := Nat.ne_of_lt m6; have m6g := Nat.ne_of_gt m6; have YF := Lib.hid ((Has.new1 w9 (Obj.cells #[.slice none 0 0, .int .i64 0, .bool false, .int .i64 0, .slice none 0 0] 32) #[.slice none 0 0, .int .i64 0, .bool false, .int .i64 0, .slice none 0 0] 32).below F2.below); have yf := YF.out.cl; have yff := YF.out.fz; have m7 := YF.out.lt; have m7n := Nat.ne_of_lt m7; have m7g := Nat.ne_of_gt m7; have m8 := Nat.lt_succ_of_lt YF.out.lt; have m8n := Nat.ne_of_lt m8; have m8g := Nat.ne_of_gt m8; have T10 : Hid (AwT w w7.heap.size #[.int .i64 exA.kind, .string exA.text, .slice al exA.leads.length cl, .slice ak exA.kids.length ck] #[.int .i64 exB.kind, .string exB.text, .slice bl exB.leads.length dl, .slice bk exB.kids.length dk] h7 h10 ap cp ar cr w10) := ⟨((BW9.out.alloc BW9.out.size _).alloc (le_al BW9.out.size) _).trans (F2.below.mono (((BW9.out.alloc BW9.out.size _).alloc (le_al BW9.out.size) _)).size), YA.out, YB.out, F2.imm, Hp.le_trans FH1.out.le F2.le, MatchV.mono F2.le ⟨ap, cp, ar, cr, rfl, i1, i2, P1.out, C1.out⟩⟩; have GE : Hid (AwG w w7.heap.size h10 w10 w9.heap.size) := ⟨YE.out, (F2.old _ ((Has.new w9 #[.slice none 0 0, .int .i64 0, .bool false, .int .i64 0, .slice none 0 0] 32).alloc (Obj.cells #[.slice none 0 0, .int .i64 0, .bool false, .int .i64 0, .slice none 0 0] 32)).lt).trans (new_own FH1.out.imm _ (Nat.le_refl _)), BW9.out.size, ⟨Nat.ne_of_gt XA.out.lt, Nat.ne_of_gt XB.out.lt⟩⟩; have GF : Hid (AwG w w7.heap.size h10 w10 (w9.heap.size + 1)) := ⟨YF.out, (F2.old _ (Has.new1 w9 (Obj.cells #[.slice none 0 0, .int .i64 0, .bool false, .int .i64 0, .slice none 0 0] 32) #[.slice none 0 0, .int .i64 0, .bool false, .int .i64 0, .slice none 0 0] 32).lt).trans (new_own FH1.out.imm _ (Nat.le_succ _)), Nat.le_succ_of_le BW9.out.size, ⟨Nat.ne_of_gt (Nat.lt_succ_of_lt XA.out.lt), Nat.ne_of_gt (Nat.lt_succ_of_lt XB.out.lt)⟩⟩; clear F2 PR2 CM2))
    all_goals go_wp2_with fail
    all_goals go_meet
    all_goals refine ⟨_, _, rfl, rfl, ?_⟩
    all_goals first
      | (with_reducible exact aw1 T10.out)
      | (with_reducible exact aw2 T10.out)
      | (with_reducible exact aw3 T10.out GC.out)
      | (with_reducible exact aw3 T10.out GE.out)
      | (with_reducible exact aw4 T10.out GC.out)
      | (with_reducible exact aw4 T10.out GE.out)
      | (with_reducible exact aw5 T10.out GE.out GF.out (Nat.ne_of_lt (Nat.lt_succ_self _)))
      | (with_reducible exact aw5 T10.out GF.out GE.out (Nat.ne_of_gt (Nat.lt_succ_self _)))
      | (with_reducible exact aw5 T10.out GC.out GD.out (Nat.ne_of_lt (Nat.lt_succ_self _)))
      | (with_reducible exact aw5 T10.out GD.out GC.out (Nat.ne_of_gt (Nat.lt_succ_self _)))
      | (with_reducible exact aw5 T10.out GC.out GE.out (Nat.ne_of_lt XC.out.lt))
      | (with_reducible exact aw5 T10.out GE.out GC.out (Nat.ne_of_gt XC.out.lt))
      | trace_state
  case rest =>
    obtain ⟨g3, g4, rfl, rfl, X⟩ := hcut
    obtain ⟨h', ap, cp, ar, cr, IX, LX, MX, HX3⟩ := X.m
    obtain ⟨ap2, cp2, ar2, cr2, HX4⟩ := X.y
    have e1 : (matchM (flatP exA) (flatP exB) 100) = ex1 := rfl
    have e0 : (matchM (flatP exA) (flatP exB) 0) = ex0 := rfl
    rw [e1] at MX HX3
    rw [e0] at HX4
    have hlen : ex1.pairs.length = 3 := by rw [ex1_eq]; rfl
    have hcost : ex1.cost = 2 := by rw [ex1_eq]
    have hprov : ex1.proven = true := by rw [ex1_eq]
    have hpr : Prs h' (.slice ap ex1.pairs.length cp) [(0, 0), (3, 1), (4, 2)] := by
      obtain ⟨ap', cp', ar', cr', he, _, _, hp, _⟩ := MX
      simp only [Value.agg.injEq] at he
      obtain ⟨⟨rfl, rfl⟩, -⟩ := he
      have hpe : ex1.pairs = [(0, 0), (3, 1), (4, 2)] := by rw [ex1_eq]
      rw [hpe] at hp
      rw [hpe]
      exact hp
    have MXH := Lib.hid MX
    rw [hlen, hcost, hprov] at MXH HX3
    rw [hlen] at hpr
    obtain ⟨apq, cpq, hpe, -, hpc⟩ := hpr.open
    simp only [Value.slice.injEq] at hpe
    obtain ⟨rfl, -, rfl⟩ := hpe
    obtain ⟨bp, op, rfl, hbp, hpc⟩ := hpc wc IX (by decide)
    obtain ⟨q0, q1⟩ := hpc 1 (by decide)
    simp only [List.getElem_cons_succ, List.getElem_cons_zero, Nat.one_mul] at q0 q1
    rw [ex0_facts.1, ex0_facts.2] at HX4
    have a0 : wc.cell? ⟨w7.heap.size, 0, none⟩ = some (.int .i64 exA.kind) := X.a.cl 0
    have a1 : wc.cell? ⟨w7.heap.size, 1, none⟩ = some (.string exA.text) := X.a.cl 1
    have a2 : wc.cell? ⟨w7.heap.size, 2, none⟩ = some (.slice al exA.leads.length cl) := X.a.cl 2
    have a3 : wc.cell? ⟨w7.heap.size, 3, none⟩ = some (.slice ak exA.kids.length ck) := X.a.cl 3
    have b0 : wc.cell? ⟨w7.heap.size + 1, 0, none⟩ = some (.int .i64 exB.kind) := X.b.cl 0
    have b1 : wc.cell? ⟨w7.heap.size + 1, 1, none⟩ = some (.string exB.text) := X.b.cl 1
    have b2 : wc.cell? ⟨w7.heap.size + 1, 2, none⟩ = some (.slice bl exB.leads.length dl) := X.b.cl 2
    have b3 : wc.cell? ⟨w7.heap.size + 1, 3, none⟩ = some (.slice bk exB.kids.length dk) := X.b.cl 3
    have m0 : wc.cell? ⟨g3, 0, none⟩ = some (.slice (some ⟨bp, op, none⟩) 3 cp) := HX3.cl 0
    have m1 : wc.cell? ⟨g3, 1, none⟩ = some (.int .i64 2) := HX3.cl 1
    have m2 : wc.cell? ⟨g3, 2, none⟩ = some (.bool true) := HX3.cl 2
    have m3 : wc.cell? ⟨g3, 3, none⟩ = some (.int .i64 ex1.bound) := HX3.cl 3
    have m4 : wc.cell? ⟨g3, 4, none⟩ = some (.slice ar ex1.proof.length cr) := HX3.cl 4
    have y1 : wc.cell? ⟨g4, 1, none⟩ = some (.int .i64 3) := HX4.cl 1
    have y2 : wc.cell? ⟨g4, 2, none⟩ = some (.bool false) := HX4.cl 2
    have IXH := Lib.hid IX
    have BX := Lib.hid X.bel
    have TAX := Lib.hid (TA7.out.mono LX)
    have TBX := Lib.hid (TB7.out.mono LX)
    have HVE : Hid (decide (verifyP (flatP exA) (flatP exB) ex1) = true) := decide_eq_true ex1_verify
    clear X IX LX MX HX3 HX4 hpc hpr hlen hcost hprov e1 e0
    go_wp2_with fail
    refine (mverify_any h' _ IXH.out _ _ _ exA exB ex1 TAX.out TBX.out ex_small.1 ex_small.2 MXH.out).mono ?_
    rintro e w12 ⟨rfl, hb12⟩
    rw [HVE.out]
    have BE : Hid (Below w.heap.size w w12) := BX.out.trans (hb12.mono BX.out.size)
    clear hb12
    go_wp2_with fail
    go_ret
    exact ⟨rfl, BE.out⟩
end Go.Proofs.Ytfifbadepebpeaa
