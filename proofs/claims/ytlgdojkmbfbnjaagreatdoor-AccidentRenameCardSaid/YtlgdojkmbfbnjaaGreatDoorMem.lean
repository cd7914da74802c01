/- Memory: the part that does not change (h), rows that a call owns, and how a world goes on from another. -/
import Derived.Test.YtlgdojkmbfbnjaaGreatDoorRows
import Derived.WalkKit
import Derived.WalkSpells
import Derived.WalkLawsBesides
import Derived.Lib.Hide
import Derived.Maps.AppendAt
import Derived.Deep.Draws
namespace Go.Proofs.YtlgdojkmbfbnjaaGreatDoor
open Go.RowKit

theorem _root_.Go.RowKit.Below.drewN {B : Nat} {a w : World} (h : Below B a w) (n : Nat) : Below B a (w.drewN n) := ⟨h.os, h.tape, h.output, h.size, h.block⟩

abbrev Hp := Nat → Option (Array Value)

/-- The cells of a block. -/
def blk (w : World) (b : Nat) : Option (Array Value) :=
  match w.heap[b]? with
  | some (.cells c _ _) => some c
  | _ => none

theorem blk_lt {w : World} {b : Nat} {c : Array Value} (h : blk w b = some c) : b < w.heap.size := by
  rcases Nat.lt_or_ge b w.heap.size with hb | hb
  · exact hb
  · simp [blk, Array.getElem?_eq_none hb] at h

theorem blk_cell {w : World} {b : Nat} {c : Array Value} (h : blk w b = some c) (o : Nat) : w.cell? ⟨b, o, none⟩ = c[o]? := by
  unfold blk at h
  split at h
  · rename_i c' e f hh
    simp only [Option.some.injEq] at h
    subst h
    simp [World.cell?, hh]
  · simp at h

theorem blk_of {w w' : World} {b : Nat} (h : w'.heap[b]? = w.heap[b]?) : blk w' b = blk w b := by simp [blk, h]

def Imm (h : Hp) (w : World) : Prop := ∀ b c, h b = some c → blk w b = some c

def Hp.le (h h' : Hp) : Prop := ∀ b c, h b = some c → h' b = some c
theorem Hp.le_refl (h : Hp) : h.le h := fun _ _ x => x
theorem Hp.le_trans {a b c : Hp} (h : a.le b) (k : b.le c) : a.le c := fun _ _ x => k _ _ (h _ _ x)

/-- From (h0, w0) to (h, w): below block B nothing has turned; h says more than h0, and nothing new below B. -/
structure St (B : Nat) (h0 : Hp) (w0 : World) (h : Hp) (w : World) : Prop where
  below : Below B w0 w
  imm : Imm h w
  le : h0.le h
  old : ∀ b, b < B → h b = h0 b
  base : B ≤ w0.heap.size

theorem St.refl {h : Hp} {w : World} (hi : Imm h w) : St w.heap.size h w h w := ⟨Below.refl _ _, hi, Hp.le_refl _, fun _ _ => rfl, Nat.le_refl _⟩
theorem St.refl' {h : Hp} {w : World} (hi : Imm h w) {B : Nat} (hB : B ≤ w.heap.size) : St B h w h w := ⟨Below.refl _ _, hi, Hp.le_refl _, fun _ _ => rfl, hB⟩
theorem St.size {B : Nat} {h0 h : Hp} {w0 w : World} (s : St B h0 w0 h w) : B ≤ w.heap.size := Nat.le_trans s.base s.below.size

theorem St.imm0 {B : Nat} {h0 h : Hp} {w0 w : World} (s : St B h0 w0 h w) : Imm h0 w := fun b c hc => s.imm b c (s.le b c hc)

theorem Imm.keep {h : Hp} {w w' : World} (hi : Imm h w) (hk : ∀ b c, h b = some c → w'.heap[b]? = w.heap[b]?) : Imm h w' := fun b c hc => by
  rw [blk_of (hk b c hc)]; exact hi b c hc

theorem Imm.alloc {h : Hp} {w : World} (hi : Imm h w) (o : Obj) : Imm h (w.alloc o) :=
  hi.keep fun b _ hc => Below.heap_alloc _ _ _ (blk_lt (hi b _ hc))
theorem Imm.drew {h : Hp} {w : World} (hi : Imm h w) : Imm h w.drew := hi
theorem Imm.drewN {h : Hp} {w : World} (hi : Imm h w) (n : Nat) : Imm h (w.drewN n) := hi
theorem Imm.below {h : Hp} {w w' : World} (hi : Imm h w) (hb : Below w.heap.size w w') : Imm h w' :=
  hi.keep fun b _ hc => hb.block b (blk_lt (hi b _ hc))

theorem St.drew {B : Nat} {h0 h : Hp} {w0 w : World} (s : St B h0 w0 h w) : St B h0 w0 h w.drew := ⟨s.below.drew, s.imm, s.le, s.old, s.base⟩
theorem St.drewN {B : Nat} {h0 h : Hp} {w0 w : World} (s : St B h0 w0 h w) (n : Nat) : St B h0 w0 h (w.drewN n) := ⟨s.below.drewN n, s.imm, s.le, s.old, s.base⟩
theorem St.alloc {B : Nat} {h0 h : Hp} {w0 w : World} (s : St B h0 w0 h w) (o : Obj) : St B h0 w0 h (w.alloc o) := ⟨s.below.alloc s.size o, s.imm.alloc o, s.le, s.old, s.base⟩
theorem St.setCell {B : Nat} {h0 h : Hp} {w0 w : World} (s : St B h0 w0 h w) {p : Addr} (hp : B ≤ p.block) (hf : h p.block = none) (v : Value) : St B h0 w0 h (w.setCell p v) :=
  ⟨s.below.setCell hp v, s.imm.keep fun b c hc => Below.heap_setCell _ _ _ _ (fun e => by subst e; simp [hf] at hc), s.le, s.old, s.base⟩
theorem St.grown {B : Nat} {h0 h : Hp} {w0 w w' : World} {row : Option Nat} (s : St B h0 w0 h w) (hg : w.grownBy w' row) (hr : ∀ k, row = some k → B ≤ k ∧ h k = none) : St B h0 w0 h w' :=
  ⟨s.below.grown hg s.size (fun k e => (hr k e).1), s.imm.keep fun b c hc => hg.block b (blk_lt (s.imm b c hc)) (fun e => by have := (hr b e.symm).2; simp [this] at hc), s.le, s.old, s.base⟩
theorem St.call {B : Nat} {h0 h h' : Hp} {w0 w w' : World} (s : St B h0 w0 h w) (t : St w.heap.size h w h' w') : St B h0 w0 h' w' :=
  ⟨s.below.trans (t.below.mono s.size), t.imm, Hp.le_trans s.le t.le, fun b hb => (t.old b (Nat.lt_of_lt_of_le hb s.size)).trans (s.old b hb), s.base⟩
/-- From a call that leaves all old blocks as they were. -/
theorem St.ofBelow {h : Hp} {w w' : World} (hi : Imm h w) (hb : Below w.heap.size w w') : St w.heap.size h w h w' := ⟨hb, hi.below hb, Hp.le_refl _, fun _ _ => rfl, Nat.le_refl _⟩
theorem St.same {B : Nat} {h0 h : Hp} {w0 w w' : World} (s : St B h0 w0 h w) (hb : Below w.heap.size w w') : St B h0 w0 h w' := s.call (St.ofBelow s.imm hb)

/-- All that is new is taken for unchanging from now on. -/
def Hp.fr (h : Hp) (B : Nat) (w : World) : Hp := fun b => if b < B then h b else blk w b
theorem Hp.le_fr {B : Nat} {h : Hp} {w : World} (hi : Imm h w) : h.le (h.fr B w) := fun b c hc => by
  unfold Hp.fr; split
  · exact hc
  · exact hi b c hc
theorem Imm.fr {B : Nat} {h : Hp} {w : World} (hi : Imm h w) : Imm (h.fr B w) w := fun b c hc => by
  unfold Hp.fr at hc; split at hc
  · exact hi b c hc
  · exact hc
theorem St.fr {B : Nat} {h0 h : Hp} {w0 w : World} (s : St B h0 w0 h w) : St B h0 w0 (h.fr B w) w :=
  ⟨s.below, s.imm.fr, Hp.le_trans s.le (Hp.le_fr s.imm), fun b hb => by unfold Hp.fr; rw [if_pos hb]; exact s.old b hb, s.base⟩

/-- A slice of n elements of k cells each, whose cells are cs. -/
def Sl (h : Hp) (v : Value) (n k : Nat) (cs : List Value) : Prop :=
  ∃ a cap, v = .slice a n cap ∧ n ≤ 140737488355328 ∧ cs.length = n * k ∧
    (n = 0 ∨ ∃ b off c, a = some ⟨b, off, none⟩ ∧ h b = some c ∧ ∀ i, i < n * k → c[off + i]? = cs[i]?)

theorem Sl.mono {h h' : Hp} (hle : h.le h') {v : Value} {n k : Nat} {cs : List Value} (s : Sl h v n k cs) : Sl h' v n k cs := by
  obtain ⟨a, cap, rfl, h1, h2, h3⟩ := s
  refine ⟨a, cap, rfl, h1, h2, ?_⟩
  rcases h3 with h3 | ⟨b, off, c, rfl, hb, hc⟩
  · exact .inl h3
  · exact .inr ⟨b, off, c, rfl, hle _ _ hb, hc⟩

theorem Sl.nil (h : Hp) (k : Nat) (a : Option Addr) (cap : Nat) : Sl h (.slice a 0 cap) 0 k [] := ⟨a, cap, rfl, Nat.zero_le _, by simp, .inl rfl⟩

theorem Sl.shape {h : Hp} {v : Value} {n k : Nat} {cs : List Value} (s : Sl h v n k cs) : ∃ a cap, v = .slice a n cap ∧ n ≤ 140737488355328 := by
  obtain ⟨a, cap, rfl, h1, _⟩ := s; exact ⟨a, cap, rfl, h1⟩

theorem Sl.len {h : Hp} {v : Value} {n k : Nat} {cs : List Value} (s : Sl h v n k cs) : n ≤ 140737488355328 ∧ cs.length = n * k := by
  obtain ⟨a', cap', he, h1, h2, h3⟩ := s; exact ⟨h1, h2⟩

theorem Sl.cells {h : Hp} {a : Option Addr} {n m cap k : Nat} {cs : List Value} (hs : Sl h (.slice a m cap) n k cs) {w : World} (hi : Imm h w) (hn : 0 < n) :
    ∃ b off, a = some ⟨b, off, none⟩ ∧ b < w.heap.size ∧ ∀ i v, cs[i]? = some v → w.cell? ⟨b, off + i, none⟩ = some v := by
  obtain ⟨a', cap', he, h1, h2, h3⟩ := hs
  simp only [Value.slice.injEq] at he
  obtain ⟨rfl, rfl, rfl⟩ := he
  rcases h3 with h3 | ⟨b, off, c, rfl, hb, hc⟩
  · omega
  · refine ⟨b, off, rfl, blk_lt (hi b c hb), fun i v hv => ?_⟩
    have : i < cs.length := by
      rcases Nat.lt_or_ge i cs.length with h | h
      · exact h
      · rw [List.getElem?_eq_none h] at hv; simp at hv
    rw [blk_cell (hi b c hb), hc i (by omega), hv]

/-- A slice that the call owns: its cells are xs; its block is none that h names. -/
structure Ow (w : World) (h : Hp) (B : Nat) (e : TypeId) (k : Nat) (v : Value) (n : Nat) (xs : List Value) : Prop where
  row : w.ownsRow B e k v n xs
  free : ∀ g, v.ownBlock = some g → h g = none

theorem Ow.len {w : World} {h : Hp} {B : Nat} {e : TypeId} {k : Nat} {v : Value} {n : Nat} {xs : List Value} (o : Ow w h B e k v n xs) : xs.length = n * k := o.row.1
theorem Ow.nil (w : World) (h : Hp) (B : Nat) (e : TypeId) (k : Nat) : Ow w h B e k (.slice none 0 0) 0 [] := ⟨⟨by simp, .inl ⟨rfl, rfl⟩⟩, fun _ hg => by simp [Value.ownBlock] at hg⟩

theorem Ow.lt {w : World} {h : Hp} {B : Nat} {e : TypeId} {k : Nat} {v : Value} {n : Nat} {xs : List Value} (o : Ow w h B e k v n xs) : ∀ g, v.ownBlock = some g → B ≤ g ∧ g < w.heap.size := by
  intro g hg
  rcases o.row.2 with ⟨rfl, rfl⟩ | ⟨g', cap, cur, rfl, hb, hh, _⟩
  · simp [Value.ownBlock] at hg
  · simp only [Value.ownBlock, Option.some.injEq] at hg
    subst hg
    refine ⟨hb, ?_⟩
    rcases Nat.lt_or_ge g' w.heap.size with hl | hl
    · exact hl
    · rw [Array.getElem?_eq_none hl] at hh; simp at hh

theorem Ow.keep {w w' : World} {h h' : Hp} {B : Nat} {e : TypeId} {k : Nat} {v : Value} {n : Nat} {xs : List Value} (o : Ow w h B e k v n xs)
    (hk : ∀ g, v.ownBlock = some g → w'.heap[g]? = w.heap[g]?) (hh : ∀ g, v.ownBlock = some g → h' g = h g) : Ow w' h' B e k v n xs := by
  refine ⟨⟨o.row.1, ?_⟩, fun g hg => by rw [hh g hg]; exact o.free g hg⟩
  rcases o.row.2 with hn | ⟨g', cap, cur, rfl, hb, hb2, r⟩
  · exact .inl hn
  · exact .inr ⟨g', cap, cur, rfl, hb, by rw [hk g' rfl]; exact hb2, r⟩

section
variable {w w' : World} {h h' : Hp} {B : Nat} {e : TypeId} {k : Nat} {v : Value} {n : Nat} {xs : List Value}
theorem Ow.alloc (o : Ow w h B e k v n xs) (b : Obj) : Ow (w.alloc b) h B e k v n xs := o.keep (fun g hg => Below.heap_alloc _ _ _ (o.lt g hg).2) (fun _ _ => rfl)
theorem Ow.drew (o : Ow w h B e k v n xs) : Ow w.drew h B e k v n xs := o.keep (fun _ _ => rfl) (fun _ _ => rfl)
theorem Ow.drewN (o : Ow w h B e k v n xs) (m : Nat) : Ow (w.drewN m) h B e k v n xs := o.keep (fun _ _ => rfl) (fun _ _ => rfl)
theorem Ow.setCell (o : Ow w h B e k v n xs) {p : Addr} (hp : v.ownBlock ≠ some p.block) (u : Value) : Ow (w.setCell p u) h B e k v n xs :=
  o.keep (fun g hg => Below.heap_setCell _ _ _ _ (fun e => hp (by rw [hg, e]))) (fun _ _ => rfl)
theorem Ow.grown {row : Option Nat} (o : Ow w h B e k v n xs) (hg : w.grownBy w' row) (hr : ∀ g, v.ownBlock = some g → row ≠ some g) : Ow w' h B e k v n xs :=
  o.keep (fun g hgv => hg.block g (o.lt g hgv).2 (fun e => hr g hgv e.symm)) (fun _ _ => rfl)
theorem Ow.call (o : Ow w h B e k v n xs) (t : St w.heap.size h w h' w') : Ow w' h' B e k v n xs :=
  o.keep (fun g hg => t.below.block g (o.lt g hg).2) (fun g hg => t.old g (o.lt g hg).2)
theorem Ow.same (o : Ow w h B e k v n xs) (hb : Below w.heap.size w w') : Ow w' h B e k v n xs :=
  o.keep (fun g hg => hb.block g (o.lt g hg).2) (fun _ _ => rfl)
theorem Ow.base (o : Ow w h B e k v n xs) {B' : Nat} (hB : B' ≤ B) : Ow w h B' e k v n xs := by
  refine ⟨⟨o.row.1, ?_⟩, o.free⟩
  rcases o.row.2 with hn | ⟨g', cap, cur, rfl, hb, r⟩
  · exact .inl hn
  · exact .inr ⟨g', cap, cur, rfl, by omega, r⟩
theorem Ow.row' (o : Ow w h B e k v n xs) : w.ownsRow B e k v n xs := o.row
theorem Ow.shape (o : Ow w h B e k v n xs) : ∃ a cap, v = .slice a n cap := by
  rcases o.row.2 with ⟨rfl, rfl⟩ | ⟨g', cap, cur, rfl, _⟩
  · exact ⟨_, _, rfl⟩
  · exact ⟨_, _, rfl⟩

/-- Behind an append to it. -/
theorem Ow.of {row : Option Nat} (o : w'.ownsRow B e k v n xs) (hi : Imm h w) (hr : ∀ g, row = some g → h g = none) (hv : ∀ g, v.ownBlock = some g → w.heap.size ≤ g ∨ row = some g) : Ow w' h B e k v n xs :=
  ⟨o, fun g hgv => by
    rcases hv g hgv with h1 | h1
    · cases hh : h g with
      | none => rfl
      | some c => have := blk_lt (hi g c hh); omega
    · exact hr g h1⟩

/-- A row that is given up: from now on it is unchanging. -/
theorem Ow.sl (o : Ow w h B e k v n xs) (hn : n ≤ 140737488355328) : Sl (h.fr B w) v n k xs := by
  rcases o.row with ⟨h1, ⟨rfl, rfl⟩ | ⟨g', cap, cur, rfl, hb, hh, hnc, hcm, hcs, htake⟩⟩
  · exact ⟨_, _, rfl, hn, h1, .inl rfl⟩
  · refine ⟨_, _, rfl, hn, h1, .inr ⟨g', 0, cur, rfl, ?_, ?_⟩⟩
    · unfold Hp.fr; rw [if_neg (by omega)]; simp [blk, hh]
    · intro i hi
      rw [← htake, List.getElem?_take, if_pos hi, Nat.zero_add]
      simp

theorem Ow.cell {a : Option Addr} {cap : Nat} (o : Ow w h B e k (.slice a n cap) n xs) (hn : 0 < n) : ∃ g, a = some ⟨g, 0, none⟩ ∧ B ≤ g ∧ g < w.heap.size ∧ h g = none ∧ (∀ i u, xs[i]? = some u → w.cell? ⟨g, i, none⟩ = some u) ∧ (∀ i, w.frozen? ⟨g, i, none⟩ = false) := by
  have hlt := o.lt
  have hfr := o.free
  rcases o.row with ⟨h1, ⟨hv, rfl⟩ | ⟨g', cap', cur, hv, hb, hh, hnc, hcm, hcs, htake⟩⟩
  · omega
  · simp only [Value.slice.injEq] at hv
    obtain ⟨rfl, -, rfl⟩ := hv
    refine ⟨g', rfl, hb, (hlt g' rfl).2, hfr g' rfl, fun i u hu => ?_, fun i => by simp [World.frozen?, hh]⟩
    have hil : i < xs.length := by
      rcases Nat.lt_or_ge i xs.length with hl | hl
      · exact hl
      · rw [List.getElem?_eq_none hl] at hu; simp at hu
    rw [← htake, List.getElem?_take, if_pos (by omega)] at hu
    simp only [World.cell?, hh]
    simpa using hu
end

/-- An element of an own row is written. -/
theorem Ow.set {w : World} {h : Hp} {B : Nat} {e : TypeId} {k g n cap : Nat} {xs : List Value} (o : Ow w h B e k (.slice (some ⟨g, 0, none⟩) n cap) n xs) (i : Nat) (u : Value) (hi : i < n * k) :
    Ow (w.setCell ⟨g, i, none⟩ u) h B e k (.slice (some ⟨g, 0, none⟩) n cap) n (xs.set i u) := by
  have hfr := o.free
  rcases o.row with ⟨h1, ⟨hv, rfl⟩ | ⟨g', cap', cur, hv, hb, hh, hnc, hcm, hcs, htake⟩⟩
  · simp at hv
  · simp only [Value.slice.injEq, Option.some.injEq, Addr.mk.injEq, and_true, true_and] at hv
    obtain ⟨rfl, rfl⟩ := hv
    refine ⟨⟨by simpa using h1, .inr ⟨g, cap, cur.setIfInBounds i u, rfl, hb, ?_, hnc, hcm, by simpa using hcs, ?_⟩⟩, hfr⟩
    · simp [World.setCell, Array.getElem?_modify, hh]
    · rw [← htake]
      simp only [Array.toList_setIfInBounds]
      rw [List.take_set]

structure ElemT (P : Program) (t e : TypeId) (size bytes : Nat) (z : List Value) : Prop where
  und : P.underlying t = some (.slice e)
  info : ∃ i zv, P.info? e = some i ∧ i.zero = some zv ∧ i.size = size ∧ i.bytes = bytes ∧ zv.cells = z.toArray
  zlen : z.length = size
  pos : 0 < size
  bpos : 0 < bytes

theorem ElemT.mk' {P : Program} {t e : TypeId} {size bytes : Nat} {zv : Value} {z : List Value} (h1 : P.underlying t = some (.slice e)) (h2 : (P.info? e).map (fun i => (i.zero, i.size, i.bytes)) = some (some zv, size, bytes)) (h3 : zv.cells = z.toArray) (h4 : z.length = size) (h5 : 0 < size) (h6 : 0 < bytes) : ElemT P t e size bytes z := by
  obtain ⟨i, a, b, c, d⟩ := info_parts h2
  exact ⟨h1, ⟨i, zv, a, b, c, d, h3⟩, h4, h5, h6⟩

/-- 'append', to a row that the call owns, of cells that lie anywhere. -/
theorem wpList_app {P : Program} {t e : TypeId} {size bytes : Nat} {z : List Value} (E : ElemT P t e size bytes z) {ops : Array Oper} {rest : List Oper} {o : Oper} {a : Act} {Q : Exit → Act → World → Prop} (hgd : o.guard = none) (s x : Operand)
    (ho : o.op = .call { callee := .builtin .append, args := #[s, x], argTypes := #[t, t] }) {B : Nat} {h0 h : Hp} {w0 w : World} (st : St B h0 w0 h w)
    (v : Value) (n : Nat) (xs : List Value) (hs : a.eval s = v) (ow : Ow w h B e size v n xs)
    (ad : Addr) (m c : Nat) (news : List Value) (hx : a.eval x = .slice (some ad) m c) (hl : news.length = m * size) (hnews : ∀ j u, news[j]? = some u → w.cell? (ad.add j) = some u) (h1 : ∀ u ∈ news, u.oneCell' = true)
    (hb : (n + m) * bytes ≤ 140737488355328)
    (K : ∀ v' w', St B h0 w0 h w' → Ow w' h B e size v' (n + m) (xs ++ news) → w.grownBy w' v.ownBlock → (v'.ownBlock = v.ownBlock ∨ v'.ownBlock = some w.heap.size) → wpList P ops Q rest (a.put o.dst v') w') :
    wpList P ops Q (o :: rest) a w := by
  obtain ⟨i, zv, hi, hz, hsz, hby, hzc⟩ := E.info
  have hmax : n + m ≤ maxLen := by
    have := Nat.le_mul_of_pos_right (n + m) E.bpos
    simp only [maxLen]; omega
  refine wpList_append_own_at w hgd s x t ho B e i zv size bytes E.und hi hz hsz hby (by rw [hzc]; simpa using E.zlen) E.pos v n xs hs ow.row ad m c news hx hl hnews h1 hmax hb st.size ?_
  intro v' w' h2 h3 _ h5
  have hst : St B h0 w0 h w' := st.grown h3 (fun k hk => ⟨(ow.lt k hk).1, ow.free k hk⟩)
  refine K v' w' hst (Ow.of h2 st.imm (fun g hg => ow.free g hg) ?_) h3 h5
  intro g hg
  rcases h5 with h5 | h5
  · exact .inr (by rw [← h5, hg])
  · rw [h5] at hg
    exact .inl (by simp only [Option.some.injEq] at hg; omega)

/-- The same, of the cells of a slice that does not change. -/
theorem wpList_appS {P : Program} {t e : TypeId} {size bytes : Nat} {z : List Value} (E : ElemT P t e size bytes z) {ops : Array Oper} {rest : List Oper} {o : Oper} {a : Act} {Q : Exit → Act → World → Prop} (hgd : o.guard = none) (s x : Operand)
    (ho : o.op = .call { callee := .builtin .append, args := #[s, x], argTypes := #[t, t] }) {B : Nat} {h0 h : Hp} {w0 w : World} (st : St B h0 w0 h w)
    (v : Value) (n : Nat) (xs : List Value) (hs : a.eval s = v) (ow : Ow w h B e size v n xs)
    (u : Value) (m : Nat) (news : List Value) (hx : a.eval x = u) (hu : Sl h u m size news) (h1 : ∀ u ∈ news, u.oneCell' = true)
    (hb : (n + m) * bytes ≤ 140737488355328)
    (K : ∀ v' w', St B h0 w0 h w' → Ow w' h B e size v' (n + m) (xs ++ news) → w.grownBy w' v.ownBlock → (v'.ownBlock = v.ownBlock ∨ v'.ownBlock = some w.heap.size) → wpList P ops Q rest (a.put o.dst v') w') :
    wpList P ops Q (o :: rest) a w := by
  obtain ⟨ad, cap, rfl, _⟩ := hu.shape
  have hl := hu.len.2
  cases ad with
  | some ad =>
    refine wpList_app E hgd s x ho st v n xs hs ow ad m cap news hx hl ?_ h1 hb K
    intro j q hj
    have hm : 0 < m := by
      rcases Nat.eq_zero_or_pos m with h | h
      · subst h
        have : news = [] := List.eq_nil_of_length_eq_zero (by simpa using hl)
        subst this; simp at hj
      · exact h
    obtain ⟨b, off, hab, _, hc⟩ := hu.cells st.imm hm
    obtain rfl := Option.some.inj hab
    rw [Addr.add_lit]
    exact hc j q hj
  | none =>
    have hm : m = 0 := by
      rcases Nat.eq_zero_or_pos m with h | h
      · exact h
      · obtain ⟨b, off, hab, _⟩ := hu.cells st.imm h; simp at hab
    subst hm
    have hn : news = [] := List.eq_nil_of_length_eq_zero (by simpa using hl)
    subst hn
    obtain ⟨i, zv, hi, hz, hsz, hby, hzc⟩ := E.info
    have hrun : ∀ ty, (Builtin.append_ #[t, t] ty #[v, .slice none 0 cap]).run P w = .ok v w := by
      intro ty
      rcases ow.row.2 with ⟨rfl, rfl⟩ | ⟨g, cap', cur, rfl, _, _, hnc, _⟩
      · simp [Builtin.append_, run_underlying E.und, sizeOf, typeInfo, hi, Builtin.lenOf, Builtin.firstCells]
      · simp [Builtin.append_, run_underlying E.und, sizeOf, typeInfo, hi, Builtin.lenOf, Builtin.firstCells, hnc, storeCells]
    refine wpList_plain hgd fun K' hK' => ?_
    unfold Oper.wp
    simp [execOp, ho, resolve, invoke, builtin, hs, hx, hrun, Result.andThen]
    exact hK' _ _ (K v w st (by simpa using ow) (World.grownBy.refl _ _) (.inl rfl))

theorem new_own {w : World} {h : Hp} (hi : Imm h w) (g : Nat) (hg : w.heap.size ≤ g) : h g = none := by
  cases hh : h g with
  | none => rfl
  | some c => have := blk_lt (hi g c hh); omega

/-- 'make([]T, n)'. -/
theorem wpList_mk {P : Program} {t e : TypeId} {size bytes : Nat} {z : List Value} (E : ElemT P t e size bytes z) {ops : Array Oper} {rest : List Oper} {o : Oper} {a : Act} {Q : Exit → Act → World → Prop} (hgd : o.guard = none) (l c : Operand)
    (ho : o.op = Op.makeSlice t l c) {B : Nat} {h0 h : Hp} {w0 w : World} (st : St B h0 w0 h w) (kl kc : IntKind) (L C : Int) (n : Nat) (hl : a.eval l = .int kl L) (hc : a.eval c = .int kc C) (hL : L = (n : Int)) (hC : C = (n : Int))
    (hb : n * bytes ≤ 140737488355328)
    (K : ∀ w', St B h0 w0 h w' → Ow w' h B e size (.slice (some ⟨w.heap.size, 0, none⟩) n n) n (madeCells z.toArray (n * size)).toList → w.grownBy w' none → wpList P ops Q rest (a.put o.dst (.slice (some ⟨w.heap.size, 0, none⟩) n n)) w') :
    wpList P ops Q (o :: rest) a w := by
  obtain ⟨i, zv, hi, hz, hsz, hby, hzc⟩ := E.info
  have hmax : n ≤ maxLen := by
    have := Nat.le_mul_of_pos_right n E.bpos
    simp only [maxLen]; omega
  refine wpList_make_full w hgd l c t ho B e i zv size E.und hi hz hsz kl kc L C n hl hc hL hC (by rw [hby, Nat.mul_comm]; omega) hmax st.size ?_
  intro w' h2 h3
  rw [hzc] at h2
  exact K w' (st.grown h3 (fun k hk => by simp at hk)) ⟨h2, fun g hg => new_own st.imm g (by simp [Value.ownBlock] at hg; omega)⟩ h3

/-- 'make([]T, 0, n)'. -/
theorem wpList_mk0 {P : Program} {t e : TypeId} {size bytes : Nat} {z : List Value} (E : ElemT P t e size bytes z) {ops : Array Oper} {rest : List Oper} {o : Oper} {a : Act} {Q : Exit → Act → World → Prop} (hgd : o.guard = none) (l c : Operand)
    (ho : o.op = Op.makeSlice t l c) {B : Nat} {h0 h : Hp} {w0 w : World} (st : St B h0 w0 h w) (kl kc : IntKind) (C : Int) (n : Nat) (hl : a.eval l = .int kl 0) (hc : a.eval c = .int kc C) (hC : C = (n : Int))
    (hb : n * bytes ≤ 140737488355328)
    (K : ∀ w', St B h0 w0 h w' → Ow w' h B e size (.slice (some ⟨w.heap.size, 0, none⟩) 0 n) 0 [] → w.grownBy w' none → wpList P ops Q rest (a.put o.dst (.slice (some ⟨w.heap.size, 0, none⟩) 0 n)) w') :
    wpList P ops Q (o :: rest) a w := by
  obtain ⟨i, zv, hi, hz, hsz, hby, hzc⟩ := E.info
  have hmax : n ≤ maxLen := by
    have := Nat.le_mul_of_pos_right n E.bpos
    simp only [maxLen]; omega
  refine wpList_make_own w hgd l c t ho B e i zv size E.und hi hz hsz kl kc C n hl hc hC (by rw [hby, Nat.mul_comm]; omega) hmax st.size ?_
  intro w' h2 h3
  exact K w' (st.grown h3 (fun k hk => by simp at hk)) ⟨h2, fun g hg => new_own st.imm g (by simp [Value.ownBlock] at hg; omega)⟩ h3

theorem w64 {n : Int} (h : -9223372036854775808 ≤ n ∧ n ≤ 9223372036854775807) : IntKind.i64.wrap n = n := by rw [IntKind.wrap_i64]; omega

theorem new_cells (w : World) (news : List Value) (T : TypeId) (b : Nat) (hb : b = w.heap.size) : ∀ j u, news[j]? = some u → (w.alloc (.cells news.toArray T)).cell? ((⟨b, 0, none⟩ : Addr).add j) = some u := by
  intro j u hu
  subst hb
  rw [Addr.add_lit, World.cell?_alloc_at _ _ _ _ rfl]
  simpa using hu
theorem one_cells (l : List Value) (h : l.all Value.oneCell' = true) : ∀ u ∈ l, u.oneCell' = true := List.all_eq_true.1 h

theorem grown_alloc {w w' : World} {row : Option Nat} (hg : w.grownBy w' row) (o : Obj) : w.grownBy (w'.alloc o) row :=
  ⟨hg.os, hg.tape, hg.output, by have := hg.size; simp; omega, fun k hk hne => (Below.heap_alloc _ _ _ (Nat.lt_of_lt_of_le hk hg.size)).trans (hg.block k hk hne)⟩
theorem grown_set {w w' : World} {row : Option Nat} (hg : w.grownBy w' row) {p : Addr} (hp : row = some p.block ∨ w.heap.size ≤ p.block) (u : Value) : w.grownBy (w'.setCell p u) row :=
  ⟨hg.os, hg.tape, hg.output, by simpa [World.setCell] using hg.size, fun k hk hne => (Below.heap_setCell _ _ _ _ (fun e => by subst e; rcases hp with hp | hp; exact hne hp.symm; omega)).trans (hg.block k hk hne)⟩
/-- A step that turns only blocks that are new, or the row. -/
theorem grown_step {w w1 w2 : World} {row row' : Option Nat} (hg : w.grownBy w1 row) (hg' : w1.grownBy w2 row') (hr : ∀ k, row' = some k → row = some k ∨ w.heap.size ≤ k) : w.grownBy w2 row :=
  ⟨hg'.os.trans hg.os, hg'.tape.trans hg.tape, hg'.output.trans hg.output, Nat.le_trans hg.size hg'.size, fun k hk hne => (hg'.block k (Nat.lt_of_lt_of_le hk hg.size) (fun e => by
    rcases hr k e.symm with h | h
    · exact hne h.symm
    · omega)).trans (hg.block k hk hne)⟩

theorem box_kept {w w2 : World} {cs : Array Value} {T : TypeId} {Y : Obj} {row : Option Nat} (g2 : ((w.alloc (.cells cs T)).alloc Y).grownBy w2 row) (hr : ∀ k, row = some k → k < w.heap.size) (i : Nat) : w2.cell? ⟨w.heap.size, i, none⟩ = cs[i]? := by
  rw [World.cell?_of_block (a := ⟨w.heap.size, i, none⟩) (g2.block w.heap.size (by simp; omega) (fun e => by have := hr _ e.symm; omega)), World.cell?_alloc_past _ _ _ (by simp), World.cell?_alloc_at _ _ _ _ rfl]

theorem box_kept1 {w w2 : World} {cs : Array Value} {T : TypeId} {row : Option Nat} (g2 : (w.alloc (.cells cs T)).grownBy w2 row) (hr : ∀ k, row = some k → k < w.heap.size) (i : Nat) : w2.cell? ⟨w.heap.size, i, none⟩ = cs[i]? := by
  rw [World.cell?_of_block (a := ⟨w.heap.size, i, none⟩) (g2.block w.heap.size (by simp) (fun e => by have := hr _ e.symm; omega)), World.cell?_alloc_at _ _ _ _ rfl]

theorem box_at {w w0 w6 : World} {cs : Array Value} {T : TypeId} (hW : w.alloc (.cells cs T) = w0) (hb : Below w0.heap.size w0 w6) (i : Nat) : w6.cell? ⟨w.heap.size, i, none⟩ = cs[i]? ∧ w6.frozen? ⟨w.heap.size, i, none⟩ = false := by
  subst hW
  rw [hb.cell (by simp), hb.frozen (by simp), World.cell?_alloc_at _ _ _ _ rfl, World.frozen?_alloc_at _ _ _ _ rfl]
  exact ⟨rfl, rfl⟩

/-- A row that 'make' has just made. -/
theorem own_made0 {w : World} {h : Hp} (hi : Imm h w) {B : Nat} (hB : B ≤ w.heap.size) (z : Array Value) (n k : Nat) (e : TypeId) (hn : n ≤ maxLen) :
    Ow (w.alloc (.cells (madeCells z (n * k)) e)) h B e k (.slice (some ⟨w.heap.size, 0, none⟩) 0 n) 0 [] :=
  ⟨⟨by simp, .inr ⟨w.heap.size, n, madeCells z (n * k), rfl, hB, heap_alloc_new w _, Nat.zero_le _, hn, by simp [size_madeCells], by simp⟩⟩, fun g hg => new_own hi g (by simp [Value.ownBlock] at hg; omega)⟩
theorem own_made {w : World} {h : Hp} (hi : Imm h w) {B : Nat} (hB : B ≤ w.heap.size) (z : Array Value) (n k : Nat) (e : TypeId) (hn : n ≤ maxLen) :
    Ow (w.alloc (.cells (madeCells z (n * k)) e)) h B e k (.slice (some ⟨w.heap.size, 0, none⟩) n n) n (madeCells z (n * k)).toList :=
  ⟨⟨by simp [size_madeCells], .inr ⟨w.heap.size, n, madeCells z (n * k), rfl, hB, heap_alloc_new w _, Nat.le_refl _, hn, by simp [size_madeCells], List.take_of_length_le (by simp [size_madeCells])⟩⟩, fun g hg => new_own hi g (by simp [Value.ownBlock] at hg; omega)⟩
/-- A row that was laid down just now. -/
theorem own_lit {w : World} {h : Hp} (hi : Imm h w) {B : Nat} (hB : B ≤ w.heap.size) (cs : List Value) (n k : Nat) (e : TypeId) (hn : n ≤ maxLen) (hc : cs.length = n * k) :
    Ow (w.alloc (.cells cs.toArray e)) h B e k (.slice (some ⟨w.heap.size, 0, none⟩) n n) n cs :=
  ⟨⟨hc, .inr ⟨w.heap.size, n, cs.toArray, rfl, hB, heap_alloc_new w _, Nat.le_refl _, hn, by simpa using hc, List.take_of_length_le (by simp; omega)⟩⟩, fun g hg => new_own hi g (by simp [Value.ownBlock] at hg; omega)⟩

/-- Elements, one behind the other. -/
def EncL {α : Type} (R : α → List Value → Prop) : List α → List Value → Prop
  | [], cs => cs = []
  | x :: xs, cs => ∃ a r, cs = a ++ r ∧ R x a ∧ EncL R xs r

theorem EncL.mono {α : Type} {R R' : α → List Value → Prop} (hR : ∀ x a, R x a → R' x a) : ∀ {l : List α} {cs : List Value}, EncL R l cs → EncL R' l cs
  | [], _, h => h
  | _ :: _, _, ⟨a, r, he, h1, h2⟩ => ⟨a, r, he, hR _ _ h1, EncL.mono hR h2⟩

theorem EncL.append {α : Type} {R : α → List Value → Prop} : ∀ {l m : List α} {cs ds : List Value}, EncL R l cs → EncL R m ds → EncL R (l ++ m) (cs ++ ds)
  | [], _, _, _, h, k => by simp only [EncL] at h; subst h; simpa using k
  | _ :: _, _, _, _, ⟨a, r, he, h1, h2⟩, k => ⟨a, r ++ _, by rw [he, List.append_assoc], h1, EncL.append h2 k⟩

theorem EncL.one {α : Type} {R : α → List Value → Prop} {x : α} {a : List Value} (h : R x a) : EncL R [x] a := ⟨a, [], by simp, h, rfl⟩

theorem EncL.length {α : Type} {R : α → List Value → Prop} (k : Nat) (hk : ∀ x a, R x a → a.length = k) : ∀ {l : List α} {cs : List Value}, EncL R l cs → cs.length = l.length * k
  | [], _, h => by simp only [EncL] at h; subst h; simp
  | _ :: l, _, ⟨a, r, he, h1, h2⟩ => by subst he; simp only [List.length_append, hk _ _ h1, EncL.length k hk h2, List.length_cons, Nat.add_mul]; omega

theorem EncL.at {α : Type} {R : α → List Value → Prop} (k : Nat) (hk : ∀ x a, R x a → a.length = k) : ∀ {l : List α} {cs : List Value}, EncL R l cs → ∀ i (hi : i < l.length), ∃ a, R l[i] a ∧ ∀ j, j < k → cs[i * k + j]? = a[j]?
  | x :: l, cs, ⟨a, r, he, h1, h2⟩, 0, _ => ⟨a, h1, fun j hj => by
      have := hk _ _ h1
      rw [he, Nat.zero_mul, Nat.zero_add, List.getElem?_append_left (by omega)]⟩
  | x :: l, cs, ⟨a, r, he, h1, h2⟩, i + 1, hi => by
      obtain ⟨a', h3, h4⟩ := EncL.at k hk h2 i (by simpa using hi)
      refine ⟨a', h3, fun j hj => ?_⟩
      have := hk _ _ h1
      rw [he, List.getElem?_append_right (by rw [this, Nat.add_mul]; omega), ← h4 j hj]
      congr 1
      rw [this, Nat.add_mul]; omega

/-- Elements that are encoded by a function. -/
theorem EncL.map {α : Type} (f : α → List Value) : ∀ (l : List α), EncL (fun x a => a = f x) l (l.flatMap f)
  | [] => rfl
  | x :: l => ⟨f x, l.flatMap f, by simp, rfl, EncL.map f l⟩

theorem encI_at (l : List Int) (k : Nat) (hk : k < l.length) : (l.map (Value.int .i64))[k]? = some (.int .i64 l[k]) := by simp [hk]

def encP (p : Int × Int) : List Value := [.int .i64 p.1, .int .i64 p.2]
theorem encP_len (l : List (Int × Int)) : (l.flatMap encP).length = l.length * 2 := by
  induction l with
  | nil => rfl
  | cons p l ih => simp only [List.flatMap_cons, List.length_append, ih, encP, List.length_cons, List.length_nil]; omega
theorem encP_at (l : List (Int × Int)) (k : Nat) (hk : k < l.length) : (l.flatMap encP)[k * 2]? = some (.int .i64 l[k].1) ∧ (l.flatMap encP)[k * 2 + 1]? = some (.int .i64 l[k].2) := by
  induction l generalizing k with
  | nil => simp at hk
  | cons p l ih =>
    cases k with
    | zero => exact ⟨rfl, rfl⟩
    | succ k =>
      have := ih k (by simpa using hk)
      have e : (k + 1) * 2 = k * 2 + 2 := by omega
      rw [e]
      exact this

def I64 (x : Int) : Prop := -9223372036854775808 ≤ x ∧ x ≤ 9223372036854775807
def Ints (h : Hp) (v : Value) (l : List Int) : Prop := Sl h v l.length 1 (l.map (Value.int .i64)) ∧ ∀ x ∈ l, I64 x
def Prs (h : Hp) (v : Value) (l : List (Int × Int)) : Prop := Sl h v l.length 2 (l.flatMap encP) ∧ ∀ x ∈ l, I64 x.1 ∧ I64 x.2
theorem Ints.mono {h h' : Hp} (hle : h.le h') {v : Value} {l : List Int} (s : Ints h v l) : Ints h' v l := ⟨s.1.mono hle, s.2⟩
theorem Prs.mono {h h' : Hp} (hle : h.le h') {v : Value} {l : List (Int × Int)} (s : Prs h v l) : Prs h' v l := ⟨s.1.mono hle, s.2⟩

/-- A slice as one cell. -/
def RowC (h : Hp) (l : List Int) (a : List Value) : Prop := ∃ ad cap, a = [.slice ad l.length cap] ∧ Ints h (.slice ad l.length cap) l
def Rws (h : Hp) (v : Value) (ls : List (List Int)) : Prop := ∃ cs, Sl h v ls.length 1 cs ∧ EncL (RowC h) ls cs
theorem RowC.mono {h h' : Hp} (hle : h.le h') {l : List Int} {a : List Value} (s : RowC h l a) : RowC h' l a := by
  obtain ⟨ad, cap, e, i⟩ := s; exact ⟨ad, cap, e, i.mono hle⟩
theorem RowC.len {h : Hp} (l : List Int) (a : List Value) (s : RowC h l a) : a.length = 1 := by obtain ⟨ad, cap, rfl, _⟩ := s; rfl
theorem Rws.mono {h h' : Hp} (hle : h.le h') {v : Value} {ls : List (List Int)} (s : Rws h v ls) : Rws h' v ls := by
  obtain ⟨cs, h1, h2⟩ := s; exact ⟨cs, h1.mono hle, h2.mono fun _ _ r => r.mono hle⟩

/-- What is read of a slice of integers: its value, and each cell. -/
theorem Ints.open {h : Hp} {v : Value} {l : List Int} (hv : Ints h v l) : ∃ a cap, v = .slice a l.length cap ∧ l.length ≤ 140737488355328 ∧
    ∀ w, Imm h w → 0 < l.length → ∃ b off, a = some ⟨b, off, none⟩ ∧ b < w.heap.size ∧ ∀ k (hk : k < l.length), w.cell? ⟨b, off + k, none⟩ = some (.int .i64 l[k]) := by
  obtain ⟨s, hr⟩ := hv
  obtain ⟨a, cap, rfl, hn⟩ := s.shape
  refine ⟨a, cap, rfl, hn, fun w hi h0 => ?_⟩
  obtain ⟨b, off, rfl, hb, hc⟩ := s.cells hi h0
  exact ⟨b, off, rfl, hb, fun k hk => hc _ _ (encI_at l k hk)⟩

theorem Prs.open {h : Hp} {v : Value} {l : List (Int × Int)} (hv : Prs h v l) : ∃ a cap, v = .slice a l.length cap ∧ l.length ≤ 140737488355328 ∧
    ∀ w, Imm h w → 0 < l.length → ∃ b off, a = some ⟨b, off, none⟩ ∧ b < w.heap.size ∧ ∀ k (hk : k < l.length), w.cell? ⟨b, off + k * 2, none⟩ = some (.int .i64 l[k].1) ∧ w.cell? ⟨b, off + k * 2 + 1, none⟩ = some (.int .i64 l[k].2) := by
  obtain ⟨s, hr⟩ := hv
  obtain ⟨a, cap, rfl, hn⟩ := s.shape
  refine ⟨a, cap, rfl, hn, fun w hi h0 => ?_⟩
  obtain ⟨b, off, rfl, hb, hc⟩ := s.cells hi h0
  refine ⟨b, off, rfl, hb, fun k hk => ⟨hc _ _ (encP_at l k hk).1, ?_⟩⟩
  rw [Nat.add_assoc]; exact hc _ _ (encP_at l k hk).2

theorem Rws.open {h : Hp} {v : Value} {ls : List (List Int)} (hv : Rws h v ls) : ∃ a cap, v = .slice a ls.length cap ∧ ls.length ≤ 140737488355328 ∧
    ∀ w, Imm h w → 0 < ls.length → ∃ b off, a = some ⟨b, off, none⟩ ∧ b < w.heap.size ∧ ∀ k (hk : k < ls.length), ∃ ad cap', w.cell? ⟨b, off + k, none⟩ = some (.slice ad ls[k].length cap') ∧ Ints h (.slice ad ls[k].length cap') ls[k] := by
  obtain ⟨cs, s, hr⟩ := hv
  obtain ⟨a, cap, rfl, hn⟩ := s.shape
  refine ⟨a, cap, rfl, hn, fun w hi h0 => ?_⟩
  obtain ⟨b, off, rfl, hb, hc⟩ := s.cells hi h0
  refine ⟨b, off, rfl, hb, fun k hk => ?_⟩
  obtain ⟨a1, ⟨ad, cap', rfl, hi'⟩, h3⟩ := hr.at 1 RowC.len k hk
  refine ⟨ad, cap', hc _ _ ?_, hi'⟩
  have := h3 0 (by omega)
  simpa using this
end Go.Proofs.YtlgdojkmbfbnjaaGreatDoor
