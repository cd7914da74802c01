/- Memory: the part that does not change (h), rows that a call owns, and how a world goes on from another. -/
import Derived.Test.YtfifbadepebpeaaRows
import Derived.WalkKit
import Derived.WalkSpells
import Derived.WalkLawsBesides
import Derived.Lib.Hide
import Derived.Maps.AppendAt
import Derived.Deep.Draws
namespace Go.Proofs.Ytfifbadepebpeaa
open Go.RowKit

theorem _root_.Go.RowKit.Below.drewN {B : Nat} {a w : World} (h : Below B a w) (n : Nat) : Below B a (w.drewN n) := ⟨h.os, h.tape, h.output, h.size, h.block⟩

abbrev Hp := Nat → Option (Array Value)

def blk (w : World) (b : Nat) : Option (Array Value) :=
  match w.heap[b]? with
  | some (.cells c _ _) => some c
  | _ => none

theorem blk_lt {w : World} {b : Nat} {c : Array Value} (h : blk w b = some c) : b < w.heap.size := by
  rcases Nat.lt_or_ge b w.heap.size with hb | hb
  · exact hb
  · simp [blk, Array.getElem?_eq_none hb] at h

theorem blk_cell {w : World} {b : Nat} {c : Array Value} (h : blk w b = some c) (o : Nat) : w.cell? ⟨b, o, none⟩ = c[o]? := by
  unfold blk at h
  split at h
  · rename_i c' e f hh
    simp only [Option.some.injEq] at h
    subst h
    simp [World.cell?, hh]
  · simp at h

theorem blk_of {w w' : World} {b : Nat} (h : w'.heap[b]? = w.heap[b]?) : blk w' b = blk w b := by simp [blk, h]

def Imm (h : Hp) (w : World) : Prop := ∀ b c, h b = some c → blk w b = some c

def Hp.le (h h' : Hp) : Prop := ∀ b c, h b = some c → h' b = some c
theorem Hp.le_refl (h : Hp) : h.le h := fun _ _ x => x
theorem Hp.le_trans {a b c : Hp} (h : a.le b) (k : b.le c) : a.le c := fun _ _ x => k _ _ (h _ _ x)

structure St (B : Nat) (h0 : Hp) (w0 : World) (h : Hp) (w : World) : Prop where
  below : Below B w0 w
  imm : Imm h w
  le : h0.le h
  old : ∀ b, b < B → h b = h0 b
  base : B ≤ w0.heap.size

theorem St.refl {h : Hp} {w : World} (hi : Imm h w) : St w.heap.size h w h w := ⟨Below.refl _ _, hi, Hp.le_refl _, fun _ _ => rfl, Nat.le_refl _⟩
theorem St.refl' {h : Hp} {w : World} (hi : Imm h w) {B : Nat} (hB : B ≤ w.heap.size) : St B h w h w := ⟨Below.refl _ _, hi, Hp.le_refl _, fun _ _ => rfl, hB⟩
theorem St.size {B : Nat} {h0 h : Hp} {w0 w : World} (s : St B h0 w0 h w) : B ≤ w.heap.size := Nat.le_trans s.base s.below.size

theorem St.imm0 {B : Nat} {h0 h : Hp} {w0 w : World} (s : St B h0 w0 h w) : Imm h0 w := fun b c hc => s.imm b c (s.le b c hc)

theorem Imm.keep {h : Hp} {w w' : World} (hi : Imm h w) (hk : ∀ b c, h b = some c → w'.heap[b]? = w.heap[b]?) : Imm h w' := fun b c hc => by
  rw [blk_of (hk b c hc)]; exact hi b c hc

theorem Imm.alloc {h : Hp} {w : World} (hi : Imm h w) (o : Obj) : Imm h (w.alloc o) :=
  hi.keep fun b _ hc => Below.heap_alloc _ _ _ (blk_lt (hi b _ hc))
theorem Imm.drew {h : Hp} {w : World} (hi : Imm h w) : Imm h w.drew := hi
theorem Imm.drewN {h : Hp} {w : World} (hi : Imm h w) (n : Nat) : Imm h (w.drewN n) := hi
theorem Imm.below {h : Hp} {w w' : World} (hi : Imm h w) (hb : Below w.heap.size w w') : Imm h w' :=
  hi.keep fun b _ hc => hb.block b (blk_lt (hi b _ hc))

theorem St.drew {B : Nat} {h0 h : Hp} {w0 w : World} (s : St B h0 w0 h w) : St B h0 w0 h w.drew := ⟨s.below.drew, s.imm, s.le, s.old, s.base⟩
theorem St.drewN {B : Nat} {h0 h : Hp} {w0 w : World} (s : St B h0 w0 h w) (n : Nat) : St B h0 w0 h (w.drewN n) := ⟨s.below.drewN n, s.imm, s.le, s.old, s.base⟩
theorem St.alloc {B : Nat} {h0 h : Hp} {w0 w : World} (s : St B h0 w0 h w) (o : Obj) : St B h0 w0 h (w.alloc o) := ⟨s.below.alloc s.size o, s.imm.alloc o, s.le, s.old, s.base⟩
theorem St.setCell {B : Nat} {h0 h : Hp} {w0 w : World} (s : St B h0 w0 h w) {p : Addr} (hp : B ≤ p.block) (hf : h p.block = none) (v : Value) : St B h0 w0 h (w.setCell p v) :=
  ⟨s.below.setCell hp v, s.imm.keep fun b c hc => Below.heap_setCell _ _ _ _ (fun e => by subst e; simp [hf] at hc), s.le, s.old, s.base⟩
theorem St.grown {B : Nat} {h0 h : Hp} {w0 w w' : World} {row : Option Nat} (s : St B h0 w0 h w) (hg : w.grownBy w' row) (hr : ∀ k, row = some k → B ≤ k ∧ h k = none) : St B h0 w0 h w' :=
  ⟨s.below.grown hg s.size (fun k e => (hr k e).1), s.imm.keep fun b c hc => hg.block b (blk_lt (s.imm b c hc)) (fun e => by have := (hr b e.symm).2; simp [this] at hc), s.le, s.old, s.base⟩
theorem St.call {B : Nat} {h0 h h' : Hp} {w0 w w' : World} (s : St B h0 w0 h w) (t : St w.heap.size h w h' w') : St B h0 w0 h' w' :=
  ⟨s.below.trans (t.below.mono s.size), t.imm, Hp.le_trans s.le t.le, fun b hb => (t.old b (Nat.lt_of_lt_of_le hb s.size)).trans (s.old b hb), s.base⟩
theorem St.ofBelow {h : Hp} {w w' : World} (hi : Imm h w) (hb : Below w.heap.size w w') : St w.heap.size h w h w' := ⟨hb, hi.below hb, Hp.le_refl _, fun _ _ => rfl, Nat.le_refl _⟩
theorem St.same {B : Nat} {h0 h : Hp} {w0 w w' : World} (s : St B h0 w0 h w) (hb : Below w.heap.size w w') : St B h0 w0 h w' := s.call (St.ofBelow s.imm hb)

def Hp.fr (h : Hp) (B : Nat) (w : World) : Hp := fun b => if b < B then h b else blk w b
theorem Hp.le_fr {B : Nat} {h : Hp} {w : World} (hi : Imm h w) : h.le (h.fr B w) := fun b c hc => by
  unfold Hp.fr; split
  · exact hc
  · exact hi b c hc
theorem Imm.fr {B : Nat} {h : Hp} {w : World} (hi : Imm h w) : Imm (h.fr B w) w := fun b c hc => by
  unfold Hp.fr at hc; split at hc
  · exact hi b c hc
  · exact hc
theorem St.fr {B : Nat} {h0 h : Hp} {w0 w : World} (s : St B h0 w0 h w) : St B h0 w0 (h.fr B w) w :=
  ⟨s.below, s.imm.fr, Hp.le_trans s.le (Hp.le_fr s.imm), fun b hb => by unfold Hp.fr; rw [if_pos hb]; exact s.old b hb, s.base⟩

def Sl (h : Hp) (v : Value) (n k : Nat) (cs : List Value) : Prop :=
  ∃ a cap, v = .slice a n cap ∧ n ≤ 140737488355328 ∧ cs.length = n * k ∧
    (n = 0 ∨ ∃ b off c, a = some ⟨b, off, none⟩ ∧ h b = some c ∧ ∀ i, i < n * k → c[off + i]? = cs[i]?)

theorem Sl.mono {h h' : Hp} (hle : h.le h') {v : Value} {n k : Nat} {cs : List Value} (s : Sl h v n k cs) : Sl h' v n k cs := by
  obtain ⟨a, cap, rfl, h1, h2, h3⟩ := s
  refine ⟨a, cap, rfl, h1, h2, ?_⟩
  rcases h3 with h3 | ⟨b, off, c, rfl, hb, hc⟩
  · exact .inl h3
  · exact .inr ⟨b, off, c, rfl, hle _ _ hb, hc⟩

theorem Sl.nil (h : Hp) (k : Nat) (a : Option Addr) (cap : Nat) : Sl h (.slice a 0 cap) 0 k [] := ⟨a, cap, rfl, Nat.zero_le _, by simp, .inl rfl⟩

theorem Sl.shape {h : Hp} {v : Value} {n k : Nat} {cs : List Value} (s : Sl h v n k cs) : ∃ a cap, v = .slice a n cap ∧ n ≤ 140737488355328 := by
  obtain ⟨a, cap, rfl, h1, _⟩ := s; exact ⟨a, cap, rfl, h1⟩

theorem Sl.len {h : Hp} {v : Value} {n k : Nat} {cs : List Value} (s : Sl h v n k cs) : n ≤ 140737488355328 ∧ cs.length = n * k := by
  obtain ⟨a', cap', he, h1, h2, h3⟩ := s; exact ⟨h1, h2⟩

theorem Sl.cells {h : Hp} {a : Option Addr} {n m cap k : Nat} {cs : List Value} (hs : Sl h (.slice a m cap) n k cs) {w : World} (hi : Imm h w) (hn : 0 < n) :
    ∃ b off, a = some ⟨b, off, none⟩ ∧ b < w.heap.size ∧ ∀ i v, cs[i]? = some v → w.cell? ⟨b, off + i, none⟩ = some v := by
  obtain ⟨a', cap', he, h1, h2, h3⟩ := hs
  simp only [Value.slice.injEq] at he
  obtain ⟨rfl, rfl, rfl⟩ := he
  rcases h3 with h3 | ⟨b, off, c, rfl, hb, hc⟩
  · omega
  · refine ⟨b, off, rfl, blk_lt (hi b c hb), fun i v hv => ?_⟩
    have : i < cs.length := by
      rcases Nat.lt_or_ge i cs.length with h | h
      · exact h
      · rw [List.getElem?_eq_none h] at hv; simp at hv
    rw [blk_cell (hi b c hb), hc i (by omega), hv]

structure Ow (w : World) (h : Hp) (B : Nat) (e : TypeId) (k : Nat) (v : Value) (n : Nat) (xs : List Value) : Prop where
  row : w.ownsRow B e k v n xs
  free : ∀ g, v.ownBlock = some g → h g = none

theorem Ow.len {w : World} {h : Hp} {B : Nat} {e : TypeId} {k : Nat} {v : Value} {n : Nat} {xs : List Value} (o : Ow w h B e k v n xs) : xs.length = n * k := o.row.1
theorem Ow.nil (w : World) (h : Hp) (B : Nat) (e : TypeId) (k : Nat) : Ow w h B e k (.slice none 0 0) 0 [] := ⟨⟨by simp, .inl ⟨rfl, rfl⟩⟩, fun _ hg => by simp [Value.ownBlock] at hg⟩

theorem Ow.lt {w : World} {h : Hp} {B : Nat} {e : TypeId} {k : Nat} {v : Value} {n : Nat} {xs : List Value} (o : Ow w h B e k v n xs) : ∀ g, v.ownBlock = some g → B ≤ g ∧ g < w.heap.size := by
  intro g hg
  rcases o.row.2 with ⟨rfl, rfl⟩ | ⟨g', cap, cur, rfl, hb, hh, _⟩
  · simp [Value.ownBlock] at hg
  · simp only [Value.ownBlock, Option.some.injEq] at hg
    subst hg
    refine ⟨hb, ?_⟩
    rcases Nat.lt_or_ge g' w.heap.size with hl | hl
    · exact hl
    · rw [Array.getElem?_eq_none hl] at hh; simp at hh

theorem Ow.keep {w w' : World} {h h' : Hp} {B : Nat} {e : TypeId} {k : Nat} {v : Value} {n : Nat} {xs : List Value} (o : Ow w h B e k v n xs)
    (hk : ∀ g, v.ownBlock = some g → w'.heap[g]? = w.heap[g]?) (hh : ∀ g, v.ownBlock = some g → h' g = h g) : Ow w' h' B e k v n xs := by
  refine ⟨⟨o.row.1, ?_⟩, fun g hg => by rw [hh g hg]; exact o.free g hg⟩
  rcases o.row.2 with hn | ⟨g', cap, cur, rfl, hb, hb2, r⟩
  · exact .inl hn
  · exact .inr ⟨g', cap, cur, rfl, hb, by rw [hk g' rfl]; exact hb2, r⟩

section
variable {w w' : World} {h h' : Hp} {B : Nat} {e : TypeId} {k : Nat} {v : Value} {n : Nat} {xs : List Value}
theorem Ow.alloc (o : Ow w h B e k v n xs) (b : Obj) : Ow (w.alloc b) h B e k v n xs := o.keep (fun g hg => Below.heap_alloc _ _ _ (o.lt g hg).2) (fun _ _ => rfl)
theorem Ow.drew (o : Ow w h B e k v n xs) : Ow w.drew h B e k v n xs := o.keep (fun _ _ => rfl) (fun _ _ => rfl)
theorem Ow.drewN (o : Ow w h B e k v n xs) (m : Nat) : Ow (w.drewN m) h B e k v n xs := o.keep (fun _ _ => rfl) (fun _ _ => rfl)
theorem Ow.setCell (o : Ow w h B e k v n xs) {p : Addr} (hp : v.ownBlock ≠ some p.block) (u : Value) : Ow (w.setCell p u) h B e k v n xs :=
  o.keep (fun g hg => Below.heap_setCell _ _ _ _ (fun e => hp (by rw [hg, e]))) (fun _ _ => rfl)
theorem Ow.grown {row : Option Nat} (o : Ow w h B e k v n xs) (hg : w.grownBy w' row) (hr : ∀ g, v.ownBlock = some g → row ≠ some g) : Ow w' h B e k v n xs :=
  o.keep (fun g hgv => hg.block g (o.lt g hgv).2 (fun e => hr g hgv e.symm)) (fun _ _ => rfl)
theorem Ow.call (o : Ow w h B e k v n xs) (t : St w.heap.size h w h' w') : Ow w' h' B e k v n xs :=
  o.keep (fun g hg => t.below.block g (o.lt g hg).2) (fun g hg => t.old g (o.lt g hg).2)
theorem Ow.same (o : Ow w h B e k v n xs) (hb : Below w.heap.size w w') : Ow w' h B e k v n xs :=
  o.keep (fun g hg => hb.block g (o.lt g hg).2) (fun _ _ => rfl)
theorem Ow.base (o : Ow w h B e k v n xs) {B' : Nat} (hB : B' ≤ B) : Ow w h B' e k v n xs := by
  refine ⟨⟨o.row.1, ?_⟩, o.free⟩
  rcases o.row.2 with hn | ⟨g', cap, cur, rfl, hb, r⟩
  · exact .inl hn
  · exact .inr ⟨g', cap, cur, rfl, by omega, r⟩
theorem Ow.shape (o : Ow w h B e k v n xs) : ∃ a cap, v = .slice a n cap := by
  rcases o.row.2 with ⟨rfl, rfl⟩ | ⟨g', cap, cur, rfl, _⟩
  · exact ⟨_, _, rfl⟩
  · exact ⟨_, _, rfl⟩

theorem Ow.of {row : Option Nat} (o : w'.ownsRow B e k v n xs) (hi : Imm h w) (hr : ∀ g, row = some g → h g = none) (hv : ∀ g, v.ownBlock = some g → w.heap.size ≤ g ∨ row = some g) : Ow w' h B e k v n xs :=
  ⟨o, fun g hgv => by
    rcases hv g hgv with h1 | h1
    · cases hh : h g with
      | none => rfl
      | some c => have := blk_lt (hi g c hh); omega
    · exact hr g h1⟩

theorem Ow.sl (o : Ow w h B e k v n xs) (hn : n ≤ 140737488355328) : Sl (h.fr B w) v n k xs := by
  rcases o.row with ⟨h1, ⟨rfl, rfl⟩ | ⟨g', cap, cur, rfl, hb, hh, hnc, hcm, hcs, htake⟩⟩
  · exact ⟨_, _, rfl, hn, h1, .inl rfl⟩
  · refine ⟨_, _, rfl, hn, h1, .inr ⟨g', 0, cur, rfl, ?_, ?_⟩⟩
    · unfold Hp.fr; rw [if_neg (by omega)]; simp [blk, hh]
    · intro i hi
      rw [← htake, List.getElem?_take, if_pos hi, Nat.zero_add]
      simp

theorem Ow.cell {a : Option Addr} {cap : Nat} (o : Ow w h B e k (.slice a n cap) n xs) (hn : 0 < n) : ∃ g, a = some ⟨g, 0, none⟩ ∧ B ≤ g ∧ g < w.heap.size ∧ h g = none ∧ (∀ i u, xs[i]? = some u → w.cell? ⟨g, i, none⟩ = some u) ∧ (∀ i, w.frozen? ⟨g, i, none⟩ = false) := by
  have hlt := o.lt
  have hfr := o.free
  rcases o.row with ⟨h1, ⟨hv, rfl⟩ | ⟨g', cap', cur, hv, hb, hh, hnc, hcm, hcs, htake⟩⟩
  · omega
  · simp only [Value.slice.injEq] at hv
    obtain ⟨rfl, -, rfl⟩ := hv
    refine ⟨g', rfl, hb, (hlt g' rfl).2, hfr g' rfl, fun i u hu => ?_, fun i => by simp [World.frozen?, hh]⟩
    have hil : i < xs.length := by
      rcases Nat.lt_or_ge i xs.length with hl | hl
      · exact hl
      · rw [List.getElem?_eq_none hl] at hu; simp at hu
    rw [← htake, List.getElem?_take, if_pos (by omega)] at hu
    simp only [World.cell?, hh]
    simpa using hu
end

theorem Ow.set {w : World} {h : Hp} {B : Nat} {e : TypeId} {k g n cap : Nat} {xs : List Value} (o : Ow w h B e k (.slice (some ⟨g, 0, none⟩) n cap) n xs) (i : Nat) (u : Value) (hi : i < n * k) :
    Ow (w.setCell ⟨g, i, none⟩ u) h B e k (.slice (some ⟨g, 0, none⟩) n cap) n (xs.set i u) := by
  have hfr := o.free
  rcases o.row with ⟨h1, ⟨hv, rfl⟩ | ⟨g', cap', cur, hv, hb, hh, hnc, hcm, hcs, htake⟩⟩
  · simp at hv
  · simp only [Value.slice.injEq, Option.some.injEq, Addr.mk.injEq, and_true, true_and] at hv
    obtain ⟨rfl, rfl⟩ := hv
    refine ⟨⟨by simpa using h1, .inr ⟨g, cap, cur.setIfInBounds i u, rfl, hb, ?_, hnc, hcm, by simpa using hcs, ?_⟩⟩, hfr⟩
    · simp [World.setCell, Array.getElem?_modify, hh]
    · rw [← htake]
      simp only [Array.toList_setIfInBounds]
      rw [List.take_set]

structure ElemT (P : Program) (t e : TypeId) (size bytes : Nat) (z : List Value) : Prop where
  und : P.underlying t = some (.slice e)
  info : ∃ i zv, P.info? e = some i ∧ i.zero = some zv ∧ i.size = size ∧ i.bytes = bytes ∧ zv.cells = z.toArray
  zlen : z.length = size
  pos : 0 < size
  bpos : 0 < bytes

theorem ElemT.mk' {P : Program} {t e : TypeId} {size bytes : Nat} {zv : Value} {z : List Value} (h1 : P.underlying t = some (.slice e)) (h2 : (P.info? e).map (fun i => (i.zero, i.size, i.bytes)) = some (some zv, size, bytes)) (h3 : zv.cells = z.toArray) (h4 : z.length = size) (h5 : 0 < size) (h6 : 0 < bytes) : ElemT P t e size bytes z := by
  obtain ⟨i, a, b, c, d⟩ := info_parts h2
  exact ⟨h1, ⟨i, zv, a, b, c, d, h3⟩, h4, h5, h6⟩

theorem wpList_app {P : Program} {t e : TypeId} {size bytes : Nat} {z : List Value} (E : ElemT P t e size bytes z) {ops : Array Oper} {rest : List Oper} {o : Oper} {a : Act} {Q : Exit → Act → World → Prop} (hgd : o.guard = none) (s x : Operand)
    (ho : o.op = .call { callee := .builtin .append, args := #[s, x], argTypes := #[t, t] }) {B : Nat} {h0 h : Hp} {w0 w : World} (st : St B h0 w0 h w)
    (v : Value) (n : Nat) (xs : List Value) (hs : a.eval s = v) (ow : Ow w h B e size v n xs)
    (ad : Addr) (m c : Nat) (news : List Value) (hx : a.eval x = .slice (some ad) m c) (hl : news.length = m * size) (hnews : ∀ j u, news[j]? = some u → w.cell? (ad.add j) = some u) (h1 : ∀ u ∈ news, u.oneCell' = true)
    (hb : (n + m) * bytes ≤ 140737488355328)
    (K : ∀ v' w', St B h0 w0 h w' → Ow w' h B e size v' (n + m) (xs ++ news) → w.grownBy w' v.ownBlock → (v'.ownBlock = v.ownBlock ∨ v'.ownBlock = some w.heap.size) → wpList P ops Q rest (a.put o.dst v') w') :
    wpList P ops Q (o :: rest) a w := by
  obtain ⟨i, zv, hi, hz, hsz, hby, hzc⟩ := E.info
  have hmax : n + m ≤ maxLen := by
    have := Nat.le_mul_of_pos_right (n + m) E.bpos
    simp only [maxLen]; omega
  refine wpList_append_own_at w hgd s x t ho B e i zv size bytes E.und hi hz hsz hby (by rw [hzc]; simpa using E.zlen) E.pos v n xs hs ow.row ad m c news hx hl hnews h1 hmax hb st.size ?_
  intro v' w' h2 h3 _ h5
  have hst : St B h0 w0 h w' := st.grown h3 (fun k hk => ⟨(ow.lt k hk).1, ow.free k hk⟩)
  refine K v' w' hst (Ow.of h2 st.imm (fun g hg => ow.free g hg) ?_) h3 h5
  intro g hg
  rcases h5 with h5 | h5
  · exact .inr (by rw [← h5, hg])
  · rw [h5] at hg
    exact .inl (by simp only [Option.some.injEq] at hg; omega)

theorem wpList_appS {P : Program} {t e : TypeId} {size bytes : Nat} {z : List Value} (E : ElemT P t e size bytes z) {ops : Array Oper} {rest : List Oper} {o : Oper} {a : Act} {Q : Exit → Act → World → Prop} (hgd : o.guard = none) (s x : Operand)
    (ho : o.op = .call { callee := .builtin .append, args := #[s, x], argTypes := #[t, t] }) {B : Nat} {h0 h : Hp} {w0 w : World} (st : St B h0 w0 h w)
    (v : Value) (n : Nat) (xs : List Value) (hs : a.eval s = v) (ow : Ow w h B e size v n xs)
    (u : Value) (m : Nat) (news : List Value) (hx : a.eval x = u) (hu : Sl h u m size news) (h1 : ∀ u ∈ news, u.oneCell' = true)
    (hb : (n + m) * bytes ≤ 140737488355328)
    (K : ∀ v' w', St B h0 w0 h w' → Ow w' h B e size v' (n + m) (xs ++ news) → w.grownBy w' v.ownBlock → (v'.ownBlock = v.ownBlock ∨ v'.ownBlock = some w.heap.size) → wpList P ops Q rest (a.put o.dst v') w') :
    wpList P ops Q (o :: rest) a w := by
  obtain ⟨ad, cap, rfl, _⟩ := hu.shape
  have hl := hu.len.2
  cases ad with
  | some ad =>
    refine wpList_app E hgd s x ho st v n xs hs ow ad m cap news hx hl ?_ h1 hb K
    intro j q hj
    have hm : 0 < m := by
      rcases Nat.eq_zero_or_pos m with h | h
      · subst h
        have : news = [] := List.eq_nil_of_length_eq_zero (by simpa using hl)
        subst this; simp at hj
      · exact h
    obtain ⟨b, off, hab, _, hc⟩ := hu.cells st.imm hm
    obtain rfl := Option.some.inj hab
    rw [Addr.add_lit]
    exact hc j q hj
  | none =>
    have hm : m = 0 := by
      rcases Nat.eq_zero_or_pos m with h | h
      · exact h
      · obtain ⟨b, off, hab, _⟩ := hu.cells st.imm h; simp at hab
    subst hm
    have hn : news = [] := List.eq_nil_of_length_eq_zero (by simpa using hl)
    subst hn
    obtain ⟨i, zv, hi, hz, hsz, hby, hzc⟩ := E.info
    have hrun : ∀ ty, (Builtin.append_ #[t, t] ty #[v, .slice none 0 cap]).run P w = .ok v w := by
      intro ty
      rcases ow.row.2 with ⟨rfl, rfl⟩ | ⟨g, cap', cur, rfl, _, _, hnc, _⟩
      · simp [Builtin.append_, run_underlying E.und, sizeOf, typeInfo, hi, Builtin.lenOf, Builtin.firstCells]
      · simp [Builtin.append_, run_underlying E.und, sizeOf, typeInfo, hi, Builtin.lenOf, Builtin.firstCells, hnc, storeCells]
    refine wpList_plain hgd fun K' hK' => ?_
    unfold Oper.wp
    simp [execOp, ho, resolve, invoke, builtin, hs, hx, hrun, Result.andThen]
    exact hK' _ _ (K v w st (by simpa using ow) (World.grownBy.refl _ _) (.inl rfl))

theorem new_own {w : World} {h : Hp} (hi : Imm h w) (g : Nat) (hg : w.heap.size ≤ g) : h g = none := by
  cases hh : h g with
  | none => rfl
  | some c => have := blk_lt (hi g c hh); omega

theorem wpList_mk {P : Program} {t e : TypeId} {size bytes : Nat} {z : List Value} (E : ElemT P t e size bytes z) {ops : Array Oper} {rest : List Oper} {o : Oper} {a : Act} {Q : Exit → Act → World → Prop} (hgd : o.guard = none) (l c : Operand)
    (ho : o.op = Op.makeSlice t l c) {B : Nat} {h0 h : Hp} {w0 w : World} (st : St B h0 w0 h w) (kl kc : IntKind) (L C : Int) (n : Nat) (hl : a.eval l = .int kl L) (hc : a.eval c = .int kc C) (hL : L = (n : Int)) (hC : C = (n : Int))
    (hb : n * bytes ≤ 140737488355328)
    (K : ∀ w', St B h0 w0 h w' → Ow w' h B e size (.slice (some ⟨w.heap.size, 0, none⟩) n n) n (madeCells z.toArray (n * size)).toList → w.grownBy w' none → wpList P ops Q rest (a.put o.dst (.slice (some ⟨w.heap.size, 0, none⟩) n n)) w') :
    wpList P ops Q (o :: rest) a w := by
  obtain ⟨i, zv, hi, hz, hsz, hby, hzc⟩ := E.info
  have hmax : n ≤ maxLen := by
    have := Nat.le_mul_of_pos_right n E.bpos
    simp only [maxLen]; omega
  refine wpList_make_full w hgd l c t ho B e i zv size E.und hi hz hsz kl kc L C n hl hc hL hC (by rw [hby, Nat.mul_comm]; omega) hmax st.size ?_
  intro w' h2 h3
  rw [hzc] at h2
  exact K w' (st.grown h3 (fun k hk => by simp at hk)) ⟨h2, fun g hg => new_own st.imm g (by simp [Value.ownBlock] at hg; omega)⟩ h3

theorem wpList_mk0 {P : Program} {t e : TypeId} {size bytes : Nat} {z : List Value} (E : ElemT P t e size bytes z) {ops : Array Oper} {rest : List Oper} {o : Oper} {a : Act} {Q : Exit → Act → World → Prop} (hgd : o.guard = none) (l c : Operand)
    (ho : o.op = Op.makeSlice t l c) {B : Nat} {h0 h : Hp} {w0 w : World} (st : St B h0 w0 h w) (kl kc : IntKind) (C : Int) (n : Nat) (hl : a.eval l = .int kl 0) (hc : a.eval c = .int kc C) (hC : C = (n : Int))
    (hb : n * bytes ≤ 140737488355328)
    (K : ∀ w', St B h0 w0 h w' → Ow w' h B e size (.slice (some ⟨w.heap.size, 0, none⟩) 0 n) 0 [] → w.grownBy w' none → wpList P ops Q rest (a.put o.dst (.slice (some ⟨w.heap.size, 0, none⟩) 0 n)) w') :
    wpList P ops Q (o :: rest) a w := by
  obtain ⟨i, zv, hi, hz, hsz, hby, hzc⟩ := E.info
  have hmax : n ≤ maxLen := by
    have := Nat.le_mul_of_pos_right n E.bpos
    simp only [maxLen]; omega
  refine wpList_make_own w hgd l c t ho B e i zv size E.und hi hz hsz kl kc C n hl hc hC (by rw [hby, Nat.mul_comm]; omega) hmax st.size ?_
  intro w' h2 h3
  exact K w' (st.grown h3 (fun k hk => by simp at hk)) ⟨h2, fun g hg => new_own st.imm g (by simp [Value.ownBlock] at hg; omega)⟩ h3

theorem w64 {n : Int} (h : -9223372036854775808 ≤ n ∧ n ≤ 9223372036854775807) : IntKind.i64.wrap n = n := by rw [IntKind.wrap_i64]; omega

theorem new_cells (w : World) (news : List Value) (T : TypeId) (b : Nat) (hb : b = w.heap.size) : ∀ j u, news[j]? = some u → (w.alloc (.cells news.toArray T)).cell? ((⟨b, 0, none⟩ : Addr).add j) = some u := by
  intro j u hu
  subst hb
  rw [Addr.add_lit, World.cell?_alloc_at _ _ _ _ rfl]
  simpa using hu
theorem one_cells (l : List Value) (h : l.all Value.oneCell' = true) : ∀ u ∈ l, u.oneCell' = true := List.all_eq_true.1 h

theorem grown_alloc {w w' : World} {row : Option Nat} (hg : w.grownBy w' row) (o : Obj) : w.grownBy (w'.alloc o) row :=
  ⟨hg.os, hg.tape, hg.output, by have := hg.size; simp; omega, fun k hk hne => (Below.heap_alloc _ _ _ (Nat.lt_of_lt_of_le hk hg.size)).trans (hg.block k hk hne)⟩
theorem grown_set {w w' : World} {row : Option Nat} (hg : w.grownBy w' row) {p : Addr} (hp : row = some p.block ∨ w.heap.size ≤ p.block) (u : Value) : w.grownBy (w'.setCell p u) row :=
  ⟨hg.os, hg.tape, hg.output, by simpa [World.setCell] using hg.size, fun k hk hne => (Below.heap_setCell _ _ _ _ (fun e => by subst e; rcases hp with hp | hp; exact hne hp.symm; omega)).trans (hg.block k hk hne)⟩
theorem grown_step {w w1 w2 : World} {row row' : Option Nat} (hg : w.grownBy w1 row) (hg' : w1.grownBy w2 row') (hr : ∀ k, row' = some k → row = some k ∨ w.heap.size ≤ k) : w.grownBy w2 row :=
  ⟨hg'.os.trans hg.os, hg'.tape.trans hg.tape, hg'.output.trans hg.output, Nat.le_trans hg.size hg'.size, fun k hk hne => (hg'.block k (Nat.lt_of_lt_of_le hk hg.size) (fun e => by
    rcases hr k e.symm with h | h
    · exact hne h.symm
    · omega)).trans (hg.block k hk hne)⟩

theorem box_kept {w w2 : World} {cs : Array Value} {T : TypeId} {Y : Obj} {row : Option Nat} (g2 : ((w.alloc (.cells cs T)).alloc Y).grownBy w2 row) (hr : ∀ k, row = some k → k < w.heap.size) (i : Nat) : w2.cell? ⟨w.heap.size, i, none⟩ = cs[i]? := by
  rw [World.cell?_of_block (a := ⟨w.heap.size, i, none⟩) (g2.block w.heap.size (by simp; omega) (fun e => by have := hr _ e.symm; omega)), World.cell?_alloc_past _ _ _ (by simp), World.cell?_alloc_at _ _ _ _ rfl]

theorem box_kept1 {w w2 : World} {cs : Array Value} {T : TypeId} {row : Option Nat} (g2 : (w.alloc (.cells cs T)).grownBy w2 row) (hr : ∀ k, row = some k → k < w.heap.size) (i : Nat) : w2.cell? ⟨w.heap.size, i, none⟩ = cs[i]? := by
  rw [World.cell?_of_block (a := ⟨w.heap.size, i, none⟩) (g2.block w.heap.size (by simp) (fun e => by have := hr _ e.symm; omega)), World.cell?_alloc_at _ _ _ _ rfl]

theorem box_at {w w0 w6 : World} {cs : Array Value} {T : TypeId} (hW : w.alloc (.cells cs T) = w0) (hb : Below w0.heap.size w0 w6) (i : Nat) : w6.cell? ⟨w.heap.size, i, none⟩ = cs[i]? ∧ w6.frozen? ⟨w.heap.size, i, none⟩ = false := by
  subst hW
  rw [hb.cell (by simp), hb.frozen (by simp), World.cell?_alloc_at _ _ _ _ rfl, World.frozen?_alloc_at _ _ _ _ rfl]
  exact ⟨rfl, rfl⟩

theorem own_made0 {w : World} {h : Hp} (hi : Imm h w) {B : Nat} (hB : B ≤ w.heap.size) (z : Array Value) (n k : Nat) (e : TypeId) (hn : n ≤ maxLen) :
    Ow (w.alloc (.cells (madeCells z (n * k)) e)) h B e k (.slice (some ⟨w.heap.size, 0, none⟩) 0 n) 0 [] :=
  ⟨⟨by simp, .inr ⟨w.heap.size, n, madeCells z (n * k), rfl, hB, heap_alloc_new w _, Nat.zero_le _, hn, by simp [size_madeCells], by simp⟩⟩, fun g hg => new_own hi g (by simp [Value.ownBlock] at hg; omega)⟩
theorem own_made {w : World} {h : Hp} (hi : Imm h w) {B : Nat} (hB : B ≤ w.heap.size) (z : Array Value) (n k : Nat) (e : TypeId) (hn : n ≤ maxLen) :
    Ow (w.alloc (.cells (madeCells z (n * k)) e)) h B e k (.slice (some ⟨w.heap.size, 0, none⟩) n n) n (madeCells z (n * k)).toList :=
  ⟨⟨by simp [size_madeCells], .inr ⟨w.heap.size, n, madeCells z (n * k), rfl, hB, heap_alloc_new w _, Nat.le_refl _, hn, by simp [size_madeCells], List.take_of_length_le (by simp [size_madeCells])⟩⟩, fun g hg => new_own hi g (by simp [Value.ownBlock] at hg; omega)⟩
theorem own_lit {w : World} {h : Hp} (hi : Imm h w) {B : Nat} (hB : B ≤ w.heap.size) (cs : List Value) (n k : Nat) (e : TypeId) (hn : n ≤ maxLen) (hc : cs.length = n * k) :
    Ow (w.alloc (.cells cs.toArray e)) h B e k (.slice (some ⟨w.heap.size, 0, none⟩) n n) n cs :=
  ⟨⟨hc, .inr ⟨w.heap.size, n, cs.toArray, rfl, hB, heap_alloc_new w _, Nat.le_refl _, hn, by simpa using hc, List.take_of_length_le (by simp; omega)⟩⟩, fun g hg => new_own hi g (by simp [Value.ownBlock] at hg; omega)⟩

def EncL {α : Type} (R : α → List Value → Prop) : List α → List Value → Prop
  | [], cs => cs = []
  | x :: xs, cs => ∃ a r, cs = a ++ r ∧ R x a ∧ EncL R xs r

theorem EncL.mono {α : Type} {R R' : α → List Value → Prop} (hR : ∀ x a, R x a → R' x a) : ∀ {l : List α} {cs : List Value}, EncL R l cs → EncL R' l cs
  | [], _, h => h
  | _ :: _, _, ⟨a, r, he, h1, h2⟩ => ⟨a, r, he, hR _ _ h1, EncL.mono hR h2⟩

theorem EncL.append {α : Type} {R : α → List Value → Prop} : ∀ {l m : List α} {cs ds : List Value}, EncL R l cs → EncL R m ds → EncL R (l ++ m) (cs ++ ds)
  | [], _, _, _, h, k => by simp only [EncL] at h; subst h; simpa using k
  | _ :: _, _, _, _, ⟨a, r, he, h1, h2⟩, k => ⟨a, r ++ _, by rw [he, List.append_assoc], h1, EncL.append h2 k⟩

theorem EncL.one {α : Type} {R : α → List Value → Prop} {x : α} {a : List Value} (h : R x a) : EncL R [x] a := ⟨a, [], by simp, h, rfl⟩

theorem EncL.length {α : Type} {R : α → List Value → Prop} (k : Nat) (hk : ∀ x a, R x a → a.length = k) : ∀ {l : List α} {cs : List Value}, EncL R l cs → cs.length = l.length * k
  | [], _, h => by simp only [EncL] at h; subst h; simp
  | _ :: l, _, ⟨a, r, he, h1, h2⟩ => by subst he; simp only [List.length_append, hk _ _ h1, EncL.length k hk h2, List.length_cons, Nat.add_mul]; omega

theorem EncL.at {α : Type} {R : α → List Value → Prop} (k : Nat) (hk : ∀ x a, R x a → a.length = k) : ∀ {l : List α} {cs : List Value}, EncL R l cs → ∀ i (hi : i < l.length), ∃ a, R l[i] a ∧ ∀ j, j < k → cs[i * k + j]? = a[j]?
  | x :: l, cs, ⟨a, r, he, h1, h2⟩, 0, _ => ⟨a, h1, fun j hj => by
      have := hk _ _ h1
      rw [he, Nat.zero_mul, Nat.zero_add, List.getElem?_append_left (by omega)]⟩
  | x :: l, cs, ⟨a, r, he, h1, h2⟩, i + 1, hi => by
      obtain ⟨a', h3, h4⟩ := EncL.at k hk h2 i (by simpa using hi)
      refine ⟨a', h3, fun j hj => ?_⟩
      have := hk _ _ h1
      rw [he, List.getElem?_append_right (by rw [this, Nat.add_mul]; omega), ← h4 j hj]
      congr 1
      rw [this, Nat.add_mul]; omega

theorem encI_at (l : List Int) (k : Nat) (hk : k < l.length) : (l.map (Value.int .i64))[k]? = some (.int .i64 l[k]) := by simp [hk]

def encP (p : Int × Int) : List Value := [.int .i64 p.1, .int .i64 p.2]
theorem encP_len (l : List (Int × Int)) : (l.flatMap encP).length = l.length * 2 := by
  induction l with
  | nil => rfl
  | cons p l ih => simp only [List.flatMap_cons, List.length_append, ih, encP, List.length_cons, List.length_nil]; omega
theorem encP_at (l : List (Int × Int)) (k : Nat) (hk : k < l.length) : (l.flatMap encP)[k * 2]? = some (.int .i64 l[k].1) ∧ (l.flatMap encP)[k * 2 + 1]? = some (.int .i64 l[k].2) := by
  induction l generalizing k with
  | nil => simp at hk
  | cons p l ih =>
    cases k with
    | zero => exact ⟨rfl, rfl⟩
    | succ k =>
      have := ih k (by simpa using hk)
      have e : (k + 1) * 2 = k * 2 + 2 := by omega
      rw [e]
      exact this

def I64 (x : Int) : Prop := -9223372036854775808 ≤ x ∧ x ≤ 9223372036854775807
def Ints (h : Hp) (v : Value) (l : List Int) : Prop := Sl h v l.length 1 (l.map (Value.int .i64)) ∧ ∀ x ∈ l, I64 x
def Prs (h : Hp) (v : Value) (l : List (Int × Int)) : Prop := Sl h v l.length 2 (l.flatMap encP) ∧ ∀ x ∈ l, I64 x.1 ∧ I64 x.2
theorem Ints.mono {h h' : Hp} (hle : h.le h') {v : Value} {l : List Int} (s : Ints h v l) : Ints h' v l := ⟨s.1.mono hle, s.2⟩
theorem Prs.mono {h h' : Hp} (hle : h.le h') {v : Value} {l : List (Int × Int)} (s : Prs h v l) : Prs h' v l := ⟨s.1.mono hle, s.2⟩

def RowC (h : Hp) (l : List Int) (a : List Value) : Prop := ∃ ad cap, a = [.slice ad l.length cap] ∧ Ints h (.slice ad l.length cap) l
def Rws (h : Hp) (v : Value) (ls : List (List Int)) : Prop := ∃ cs, Sl h v ls.length 1 cs ∧ EncL (RowC h) ls cs
theorem RowC.mono {h h' : Hp} (hle : h.le h') {l : List Int} {a : List Value} (s : RowC h l a) : RowC h' l a := by
  obtain ⟨ad, cap, e, i⟩ := s; exact ⟨ad, cap, e, i.mono hle⟩
theorem RowC.len {h : Hp} (l : List Int) (a : List Value) (s : RowC h l a) : a.length = 1 := by obtain ⟨ad, cap, rfl, _⟩ := s; rfl
theorem Rws.mono {h h' : Hp} (hle : h.le h') {v : Value} {ls : List (List Int)} (s : Rws h v ls) : Rws h' v ls := by
  obtain ⟨cs, h1, h2⟩ := s; exact ⟨cs, h1.mono hle, h2.mono fun _ _ r => r.mono hle⟩

theorem Ints.open {h : Hp} {v : Value} {l : List Int} (hv : Ints h v l) : ∃ a cap, v = .slice a l.length cap ∧ l.length ≤ 140737488355328 ∧
    ∀ w, Imm h w → 0 < l.length → ∃ b off, a = some ⟨b, off, none⟩ ∧ b < w.heap.size ∧ ∀ k (hk : k < l.length), w.cell? ⟨b, off + k, none⟩ = some (.int .i64 l[k]) := by
  obtain ⟨s, hr⟩ := hv
  obtain ⟨a, cap, rfl, hn⟩ := s.shape
  refine ⟨a, cap, rfl, hn, fun w hi h0 => ?_⟩
  obtain ⟨b, off, rfl, hb, hc⟩ := s.cells hi h0
  exact ⟨b, off, rfl, hb, fun k hk => hc _ _ (encI_at l k hk)⟩

theorem Prs.open {h : Hp} {v : Value} {l : List (Int × Int)} (hv : Prs h v l) : ∃ a cap, v = .slice a l.length cap ∧ l.length ≤ 140737488355328 ∧
    ∀ w, Imm h w → 0 < l.length → ∃ b off, a = some ⟨b, off, none⟩ ∧ b < w.heap.size ∧ ∀ k (hk : k < l.length), w.cell? ⟨b, off + k * 2, none⟩ = some (.int .i64 l[k].1) ∧ w.cell? ⟨b, off + k * 2 + 1, none⟩ = some (.int .i64 l[k].2) := by
  obtain ⟨s, hr⟩ := hv
  obtain ⟨a, cap, rfl, hn⟩ := s.shape
  refine ⟨a, cap, rfl, hn, fun w hi h0 => ?_⟩
  obtain ⟨b, off, rfl, hb, hc⟩ := s.cells hi h0
  refine ⟨b, off, rfl, hb, fun k hk => ⟨hc _ _ (encP_at l k hk).1, ?_⟩⟩
  rw [Nat.add_assoc]; exact hc _ _ (encP_at l k hk).2

theorem Rws.open {h : Hp} {v : Value} {ls : List (List Int)} (hv : Rws h v ls) : ∃ a cap, v = .slice a ls.length cap ∧ ls.length ≤ 140737488355328 ∧
    ∀ w, Imm h w → 0 < ls.length → ∃ b off, a = some ⟨b, off, none⟩ ∧ b < w.heap.size ∧ ∀ k (hk : k < ls.length), ∃ ad cap', w.cell? ⟨b, off + k, none⟩ = some (.slice ad ls[k].length cap') ∧ Ints h (.slice ad ls[k].length cap') ls[k] := by
  obtain ⟨cs, s, hr⟩ := hv
  obtain ⟨a, cap, rfl, hn⟩ := s.shape
  refine ⟨a, cap, rfl, hn, fun w hi h0 => ?_⟩
  obtain ⟨b, off, rfl, hb, hc⟩ := s.cells hi h0
  refine ⟨b, off, rfl, hb, fun k hk => ?_⟩
  obtain ⟨a1, ⟨ad, cap', rfl, hi'⟩, h3⟩ := hr.at 1 RowC.len k hk
  refine ⟨ad, cap', hc _ _ ?_, hi'⟩
  have := h3 0 (by omega)
  simpa using this
end Go.Proofs.Ytfifbadepebpeaa

/- The plain data: trees, flat nodes, alignments, matchings; and how they lie in memory. -/
namespace Go.Proofs.Ytfifbadepebpeaa
open Go.RowKit

inductive Tree where
  | node (kind : Int) (text : ByteArray) (leads : List ByteArray) (kids : List Tree)

def Tree.kind : Tree → Int | .node k _ _ _ => k
def Tree.text : Tree → ByteArray | .node _ s _ _ => s
def Tree.leads : Tree → List ByteArray | .node _ _ l _ => l
def Tree.kids : Tree → List Tree | .node _ _ _ ks => ks

mutual
def Tree.size : Tree → Nat
  | .node _ _ _ ks => sizes ks + 1
def sizes : List Tree → Nat
  | [] => 0
  | t :: ts => t.size + sizes ts
end
theorem Tree.size_eq (t : Tree) : t.size = sizes t.kids + 1 := by cases t; simp [Tree.size, Tree.kids]
theorem sizes_cons (t : Tree) (ts : List Tree) : sizes (t :: ts) = t.size + sizes ts := by rw [sizes]
mutual
def EncTree (h : Hp) : Tree → List Value → Prop
  | .node k s ls ks, cs => ∃ al cl ak ck xs, cs = [.int .i64 k, .string s, .slice al ls.length cl, .slice ak ks.length ck] ∧ I64 k ∧ Sl h (.slice al ls.length cl) ls.length 1 (ls.map Value.string) ∧ Sl h (.slice ak ks.length ck) ks.length 4 xs ∧ EncTrees h ks xs
def EncTrees (h : Hp) : List Tree → List Value → Prop
  | [], cs => cs = []
  | t :: ts, cs => ∃ a r, cs = a ++ r ∧ EncTree h t a ∧ EncTrees h ts r
end

theorem EncTrees.iff {h : Hp} : ∀ {ts : List Tree} {cs : List Value}, EncTrees h ts cs ↔ EncL (EncTree h) ts cs
  | [], cs => by rw [EncTrees, EncL]
  | t :: ts, cs => by
    rw [EncTrees, EncL]
    constructor
    · rintro ⟨a, r, e, h1, h2⟩; exact ⟨a, r, e, h1, EncTrees.iff.1 h2⟩
    · rintro ⟨a, r, e, h1, h2⟩; exact ⟨a, r, e, h1, EncTrees.iff.2 h2⟩

theorem EncTree.iff {h : Hp} {t : Tree} {cs : List Value} : EncTree h t cs ↔ ∃ al cl ak ck xs, cs = [.int .i64 t.kind, .string t.text, .slice al t.leads.length cl, .slice ak t.kids.length ck] ∧ I64 t.kind ∧ Sl h (.slice al t.leads.length cl) t.leads.length 1 (t.leads.map Value.string) ∧ Sl h (.slice ak t.kids.length ck) t.kids.length 4 xs ∧ EncL (EncTree h) t.kids xs := by
  cases t
  rw [EncTree]
  constructor
  · rintro ⟨al, cl, ak, ck, xs, e, h0, h1, h2, h3⟩; exact ⟨al, cl, ak, ck, xs, e, h0, h1, h2, EncTrees.iff.1 h3⟩
  · rintro ⟨al, cl, ak, ck, xs, e, h0, h1, h2, h3⟩; exact ⟨al, cl, ak, ck, xs, e, h0, h1, h2, EncTrees.iff.2 h3⟩

theorem EncTree.len {h : Hp} (t : Tree) (cs : List Value) (e : EncTree h t cs) : cs.length = 4 := by
  obtain ⟨al, cl, ak, ck, xs, rfl, _⟩ := EncTree.iff.1 e; rfl

mutual
theorem EncTree.mono {h h' : Hp} (hle : h.le h') : ∀ {t : Tree} {cs : List Value}, EncTree h t cs → EncTree h' t cs
  | .node k s ls ks, cs, e => by
    rw [EncTree] at e ⊢
    obtain ⟨al, cl, ak, ck, xs, e, h0, h1, h2, h3⟩ := e
    exact ⟨al, cl, ak, ck, xs, e, h0, h1.mono hle, h2.mono hle, EncTrees.mono hle h3⟩
theorem EncTrees.mono {h h' : Hp} (hle : h.le h') : ∀ {ts : List Tree} {cs : List Value}, EncTrees h ts cs → EncTrees h' ts cs
  | [], cs, e => by rw [EncTrees] at e ⊢; exact e
  | t :: ts, cs, e => by
    rw [EncTrees] at e ⊢
    obtain ⟨a, r, e, h1, h2⟩ := e
    exact ⟨a, r, e, EncTree.mono hle h1, EncTrees.mono hle h2⟩
end

def TreeV (h : Hp) (v : Value) (t : Tree) : Prop := ∃ cs, v = .agg cs.toArray ∧ EncTree h t cs
theorem TreeV.mono {h h' : Hp} (hle : h.le h') {v : Value} {t : Tree} (s : TreeV h v t) : TreeV h' v t := by obtain ⟨cs, e, i⟩ := s; exact ⟨cs, e, i.mono hle⟩

theorem TreeV.open {h : Hp} {v : Value} {t : Tree} (s : TreeV h v t) : ∃ al cl ak ck xs, v = .agg #[.int .i64 t.kind, .string t.text, .slice al t.leads.length cl, .slice ak t.kids.length ck] ∧ I64 t.kind ∧
    t.leads.length ≤ 140737488355328 ∧ t.kids.length ≤ 140737488355328 ∧ Sl h (.slice al t.leads.length cl) t.leads.length 1 (t.leads.map Value.string) ∧ Sl h (.slice ak t.kids.length ck) t.kids.length 4 xs ∧ EncL (EncTree h) t.kids xs := by
  obtain ⟨cs, rfl, e⟩ := s
  obtain ⟨al, cl, ak, ck, xs, rfl, h0, h1, h2, h3⟩ := EncTree.iff.1 e
  exact ⟨al, cl, ak, ck, xs, rfl, h0, h1.len.1, h2.len.1, h1, h2, h3⟩

def Trs (h : Hp) (v : Value) (ts : List Tree) : Prop := ∃ cs, Sl h v ts.length 4 cs ∧ EncL (EncTree h) ts cs
theorem Trs.mono {h h' : Hp} (hle : h.le h') {v : Value} {ts : List Tree} (s : Trs h v ts) : Trs h' v ts := by
  obtain ⟨cs, h1, h2⟩ := s; exact ⟨cs, h1.mono hle, h2.mono fun _ _ r => r.mono hle⟩

theorem trees_at {h : Hp} {a : Option Addr} {m cap : Nat} {ts : List Tree} {cs : List Value} (s : Sl h (.slice a m cap) ts.length 4 cs) (e : EncL (EncTree h) ts cs) {w : World} (hi : Imm h w) (i : Nat) (hlt : i < ts.length) :
    ∃ b off al cl ak ck, a = some ⟨b, off, none⟩ ∧ b < w.heap.size ∧ w.cell? ⟨b, off + i * 4, none⟩ = some (.int .i64 ts[i].kind) ∧ w.cell? ⟨b, off + i * 4 + 1, none⟩ = some (.string ts[i].text) ∧
      w.cell? ⟨b, off + i * 4 + 2, none⟩ = some (.slice al ts[i].leads.length cl) ∧ w.cell? ⟨b, off + i * 4 + 3, none⟩ = some (.slice ak ts[i].kids.length ck) ∧
      TreeV h (.agg #[.int .i64 ts[i].kind, .string ts[i].text, .slice al ts[i].leads.length cl, .slice ak ts[i].kids.length ck]) ts[i] := by
  obtain ⟨b, off, rfl, hb, hc⟩ := s.cells hi (by omega)
  obtain ⟨c4, h1, h2⟩ := e.at 4 EncTree.len i hlt
  obtain ⟨al, cl, ak, ck, xs, rfl, h3⟩ := EncTree.iff.1 h1
  refine ⟨b, off, al, cl, ak, ck, rfl, hb, ?_, ?_, ?_, ?_, ⟨_, rfl, h1⟩⟩
  · exact hc _ _ (h2 0 (by omega))
  · rw [Nat.add_assoc]; exact hc _ _ (h2 1 (by omega))
  · rw [Nat.add_assoc]; exact hc _ _ (h2 2 (by omega))
  · rw [Nat.add_assoc]; exact hc _ _ (h2 3 (by omega))

structure NodeP where
  kind : Int
  text : ByteArray
  parent : Int
  kids : List Int
  size : Int
instance : Inhabited NodeP := ⟨⟨0, ⟨#[]⟩, 0, [], 0⟩⟩

def EncNode (h : Hp) (n : NodeP) (cs : List Value) : Prop := ∃ a c, cs = [.int .i64 n.kind, .string n.text, .int .i64 n.parent, .slice a n.kids.length c, .int .i64 n.size] ∧ I64 n.kind ∧ I64 n.parent ∧ I64 n.size ∧ Ints h (.slice a n.kids.length c) n.kids
theorem EncNode.len {h : Hp} (n : NodeP) (cs : List Value) (e : EncNode h n cs) : cs.length = 5 := by obtain ⟨a, c, rfl, _⟩ := e; rfl
theorem EncNode.mono {h h' : Hp} (hle : h.le h') {n : NodeP} {cs : List Value} (e : EncNode h n cs) : EncNode h' n cs := by
  obtain ⟨a, c, rfl, h1, h2, h3, h4⟩ := e; exact ⟨a, c, rfl, h1, h2, h3, h4.mono hle⟩
def Nds (h : Hp) (v : Value) (l : List NodeP) : Prop := ∃ cs, Sl h v l.length 5 cs ∧ EncL (EncNode h) l cs
theorem Nds.mono {h h' : Hp} (hle : h.le h') {v : Value} {l : List NodeP} (s : Nds h v l) : Nds h' v l := by
  obtain ⟨cs, h1, h2⟩ := s; exact ⟨cs, h1.mono hle, h2.mono fun _ _ r => r.mono hle⟩

theorem Nds.open {h : Hp} {v : Value} {l : List NodeP} (hv : Nds h v l) : ∃ a cap, v = .slice a l.length cap ∧ l.length ≤ 140737488355328 ∧
    ∀ w, Imm h w → ∀ i (hlt : i < l.length), ∃ b off ak ck, a = some ⟨b, off, none⟩ ∧ b < w.heap.size ∧ w.cell? ⟨b, off + i * 5, none⟩ = some (.int .i64 l[i].kind) ∧ w.cell? ⟨b, off + i * 5 + 1, none⟩ = some (.string l[i].text) ∧
      w.cell? ⟨b, off + i * 5 + 2, none⟩ = some (.int .i64 l[i].parent) ∧ w.cell? ⟨b, off + i * 5 + 3, none⟩ = some (.slice ak l[i].kids.length ck) ∧ w.cell? ⟨b, off + i * 5 + 4, none⟩ = some (.int .i64 l[i].size) ∧
      Ints h (.slice ak l[i].kids.length ck) l[i].kids ∧ I64 l[i].kind ∧ I64 l[i].parent ∧ I64 l[i].size := by
  obtain ⟨cs, s, e⟩ := hv
  obtain ⟨a, cap, rfl, hn⟩ := s.shape
  refine ⟨a, cap, rfl, hn, fun w hi i hlt => ?_⟩
  obtain ⟨b, off, rfl, hb, hc⟩ := s.cells hi (by omega)
  obtain ⟨c5, h1, h2⟩ := e.at 5 EncNode.len i hlt
  obtain ⟨ak, ck, rfl, i1, i2, i3, h3⟩ := h1
  refine ⟨b, off, ak, ck, rfl, hb, ?_, ?_, ?_, ?_, ?_, h3, i1, i2, i3⟩
  · exact hc _ _ (h2 0 (by omega))
  · rw [Nat.add_assoc]; exact hc _ _ (h2 1 (by omega))
  · rw [Nat.add_assoc]; exact hc _ _ (h2 2 (by omega))
  · rw [Nat.add_assoc]; exact hc _ _ (h2 3 (by omega))
  · rw [Nat.add_assoc]; exact hc _ _ (h2 4 (by omega))

structure AlignP where
  pairs : List (Int × Int)
  cost : Int
  pot : List (List Int)
instance : Inhabited AlignP := ⟨⟨[], 0, []⟩⟩
def EncAlign (h : Hp) (x : AlignP) (cs : List Value) : Prop := ∃ ap cp ar cr, cs = [.slice ap x.pairs.length cp, .int .i64 x.cost, .slice ar x.pot.length cr] ∧ I64 x.cost ∧ Prs h (.slice ap x.pairs.length cp) x.pairs ∧ Rws h (.slice ar x.pot.length cr) x.pot
theorem EncAlign.mono {h h' : Hp} (hle : h.le h') {n : AlignP} {cs : List Value} (e : EncAlign h n cs) : EncAlign h' n cs := by
  obtain ⟨a, c, a', c', rfl, h1, h2, h3⟩ := e; exact ⟨a, c, a', c', rfl, h1, h2.mono hle, h3.mono hle⟩
theorem EncAlign.len {h : Hp} (n : AlignP) (cs : List Value) (e : EncAlign h n cs) : cs.length = 3 := by obtain ⟨a, c, a', c', rfl, _⟩ := e; rfl

structure CompP where
  a : Int
  b : Int
  cost : Int
  kids : AlignP
instance : Inhabited CompP := ⟨⟨0, 0, 0, default⟩⟩
def EncComp (h : Hp) (x : CompP) (cs : List Value) : Prop := ∃ r, cs = [.int .i64 x.a, .int .i64 x.b, .int .i64 x.cost] ++ r ∧ I64 x.a ∧ I64 x.b ∧ I64 x.cost ∧ EncAlign h x.kids r
theorem EncComp.mono {h h' : Hp} (hle : h.le h') {n : CompP} {cs : List Value} (e : EncComp h n cs) : EncComp h' n cs := by
  obtain ⟨r, rfl, h1, h2, h3, h4⟩ := e; exact ⟨r, rfl, h1, h2, h3, h4.mono hle⟩
theorem EncComp.len {h : Hp} (n : CompP) (cs : List Value) (e : EncComp h n cs) : cs.length = 6 := by
  obtain ⟨r, rfl, h1, h2, h3, h4⟩ := e; simp [EncAlign.len _ _ h4]
def Cmps (h : Hp) (v : Value) (l : List CompP) : Prop := ∃ cs, Sl h v l.length 6 cs ∧ EncL (EncComp h) l cs
theorem Cmps.mono {h h' : Hp} (hle : h.le h') {v : Value} {l : List CompP} (s : Cmps h v l) : Cmps h' v l := by
  obtain ⟨cs, h1, h2⟩ := s; exact ⟨cs, h1.mono hle, h2.mono fun _ _ r => r.mono hle⟩

theorem Cmps.open {h : Hp} {v : Value} {l : List CompP} (hv : Cmps h v l) : ∃ a cap, v = .slice a l.length cap ∧ l.length ≤ 140737488355328 ∧
    ∀ w, Imm h w → ∀ i (hlt : i < l.length), ∃ b off ap cp ar cr, a = some ⟨b, off, none⟩ ∧ b < w.heap.size ∧ w.cell? ⟨b, off + i * 6, none⟩ = some (.int .i64 l[i].a) ∧ w.cell? ⟨b, off + i * 6 + 1, none⟩ = some (.int .i64 l[i].b) ∧
      w.cell? ⟨b, off + i * 6 + 2, none⟩ = some (.int .i64 l[i].cost) ∧ w.cell? ⟨b, off + i * 6 + 3, none⟩ = some (.slice ap l[i].kids.pairs.length cp) ∧ w.cell? ⟨b, off + i * 6 + 4, none⟩ = some (.int .i64 l[i].kids.cost) ∧
      w.cell? ⟨b, off + i * 6 + 5, none⟩ = some (.slice ar l[i].kids.pot.length cr) ∧
      Prs h (.slice ap l[i].kids.pairs.length cp) l[i].kids.pairs ∧ Rws h (.slice ar l[i].kids.pot.length cr) l[i].kids.pot ∧ I64 l[i].a ∧ I64 l[i].b ∧ I64 l[i].cost ∧ I64 l[i].kids.cost := by
  obtain ⟨cs, s, e⟩ := hv
  obtain ⟨a, cap, rfl, hn⟩ := s.shape
  refine ⟨a, cap, rfl, hn, fun w hi i hlt => ?_⟩
  obtain ⟨b, off, rfl, hb, hc⟩ := s.cells hi (by omega)
  obtain ⟨c5, h1, h2⟩ := e.at 6 EncComp.len i hlt
  obtain ⟨r, rfl, i1, i2, i3, ap, cp, ar, cr, rfl, i4, h3, h4⟩ := h1
  refine ⟨b, off, ap, cp, ar, cr, rfl, hb, ?_, ?_, ?_, ?_, ?_, ?_, h3, h4, i1, i2, i3, i4⟩
  · exact hc _ _ (h2 0 (by omega))
  · rw [Nat.add_assoc]; exact hc _ _ (h2 1 (by omega))
  · rw [Nat.add_assoc]; exact hc _ _ (h2 2 (by omega))
  · rw [Nat.add_assoc]; exact hc _ _ (h2 3 (by omega))
  · rw [Nat.add_assoc]; exact hc _ _ (h2 4 (by omega))
  · rw [Nat.add_assoc]; exact hc _ _ (h2 5 (by omega))

structure MatchP where
  pairs : List (Int × Int)
  cost : Int
  proven : Bool
  bound : Int
  proof : List CompP
def MatchV (h : Hp) (v : Value) (x : MatchP) : Prop := ∃ ap cp ar cr, v = .agg #[.slice ap x.pairs.length cp, .int .i64 x.cost, .bool x.proven, .int .i64 x.bound, .slice ar x.proof.length cr] ∧ I64 x.cost ∧ I64 x.bound ∧ Prs h (.slice ap x.pairs.length cp) x.pairs ∧ Cmps h (.slice ar x.proof.length cr) x.proof
instance : Inhabited MatchP := ⟨⟨[], 0, false, 0, []⟩⟩
theorem MatchV.mono {h h' : Hp} (hle : h.le h') {v : Value} {x : MatchP} (s : MatchV h v x) : MatchV h' v x := by
  obtain ⟨a, c, a', c', rfl, h1, h2, h3, h4⟩ := s; exact ⟨a, c, a', c', rfl, h1, h2, h3.mono hle, h4.mono hle⟩
def AlignV (h : Hp) (v : Value) (x : AlignP) : Prop := ∃ cs, v = .agg cs.toArray ∧ EncAlign h x cs
theorem AlignV.mono {h h' : Hp} (hle : h.le h') {v : Value} {x : AlignP} (s : AlignV h v x) : AlignV h' v x := by obtain ⟨cs, e, i⟩ := s; exact ⟨cs, e, i.mono hle⟩
end Go.Proofs.Ytfifbadepebpeaa

/- The element types of the slices that are made. -/
namespace Go.Proofs.Ytfifbadepebpeaa
open Go.RowKit

theorem el_ints : ElemT Try.prog 35 3 1 8 [.int .i64 0] :=
  .mk' (zv := .int .i64 0) Try.underlying35 (by kernel_rfl) rfl rfl (by decide) (by decide)
theorem el_pairs : ElemT Try.prog 29 52 2 16 [.int .i64 0, .int .i64 0] :=
  .mk' (zv := .agg #[.int .i64 0, .int .i64 0]) Try.underlying29 (by kernel_rfl) rfl rfl (by decide) (by decide)
theorem el_rows : ElemT Try.prog 41 35 1 24 [.slice none 0 0] :=
  .mk' (zv := .slice none 0 0) Try.underlying41 (by kernel_rfl) rfl rfl (by decide) (by decide)
theorem el_nodes : ElemT Try.prog 62 65 5 64 [.int .i64 0, .string ⟨#[]⟩, .int .i64 0, .slice none 0 0, .int .i64 0] :=
  .mk' (zv := .agg #[.int .i64 0, .string ⟨#[]⟩, .int .i64 0, .slice none 0 0, .int .i64 0]) Try.underlying62 (by kernel_rfl) rfl rfl (by decide) (by decide)
theorem el_trees : ElemT Try.prog 23 25 4 72 [.int .i64 0, .string ⟨#[]⟩, .slice none 0 0, .slice none 0 0] :=
  .mk' (zv := .agg #[.int .i64 0, .string ⟨#[]⟩, .slice none 0 0, .slice none 0 0]) Try.underlying23 (by kernel_rfl) rfl rfl (by decide) (by decide)
theorem el_cmps : ElemT Try.prog 30 45 6 80 [.int .i64 0, .int .i64 0, .int .i64 0, .slice none 0 0, .int .i64 0, .slice none 0 0] :=
  .mk' (zv := .agg #[.int .i64 0, .int .i64 0, .int .i64 0, .slice none 0 0, .int .i64 0, .slice none 0 0]) Try.underlying30 (by kernel_rfl) rfl rfl (by decide) (by decide)

def Hp.add (h : Hp) (g : Nat) (c : Array Value) : Hp := fun b => if b = g then some c else h b
theorem Hp.le_add {h : Hp} {g : Nat} (c : Array Value) (hg : h g = none) : h.le (h.add g c) := fun b x hb => by
  unfold Hp.add; split
  · rename_i e; subst e; rw [hg] at hb; cases hb
  · exact hb
theorem Imm.add {h : Hp} {w : World} {g : Nat} {c : Array Value} (hi : Imm h w) (hc : blk w g = some c) : Imm (h.add g c) w := fun b x hb => by
  unfold Hp.add at hb; split at hb
  · rename_i e; subst e; simp only [Option.some.injEq] at hb; subst hb; exact hc
  · exact hi b x hb

theorem Ow.giveUp {w : World} {h : Hp} {B : Nat} {e : TypeId} {k : Nat} {v : Value} {n : Nat} {xs : List Value} (o : Ow w h B e k v n xs) (hi : Imm h w) (hn : n ≤ 140737488355328) :
    ∃ h', Imm h' w ∧ h.le h' ∧ (∀ b, (∀ g, v.ownBlock = some g → b ≠ g) → h' b = h b) ∧ Sl h' v n k xs := by
  have hf := o.free
  rcases o.row with ⟨h1, ⟨rfl, rfl⟩ | ⟨g', cap, cur, rfl, hb, hh, hnc, hcm, hcs, htake⟩⟩
  · exact ⟨h, hi, Hp.le_refl _, fun _ _ => rfl, ⟨_, _, rfl, hn, h1, .inl rfl⟩⟩
  · refine ⟨h.add g' cur, hi.add (by simp [blk, hh]), Hp.le_add _ (hf g' rfl), fun b hb => ?_, ⟨_, _, rfl, hn, h1, .inr ⟨g', 0, cur, rfl, ?_, ?_⟩⟩⟩
    · unfold Hp.add; rw [if_neg (hb g' rfl)]
    · unfold Hp.add; rw [if_pos rfl]
    · intro i hi
      rw [← htake, List.getElem?_take, if_pos hi, Nat.zero_add]
      simp
end Go.Proofs.Ytfifbadepebpeaa

/- '==' and '!=' of two arrays of two integers. -/
namespace Go.Proofs.Ytfifbadepebpeaa
open Go.RowKit

theorem run_equalIn_pair (w : World) (a b c d : Int) :
    (Op.equalIn 10000 52 (.agg #[.int .i64 a, .int .i64 b]) (.agg #[.int .i64 c, .int .i64 d])).run Try.prog w = .ok ((a == c) && (b == d)) w := by
  have hs : ∀ w, (sizeOf 3).run Try.prog w = .ok 1 w := fun _ => by kernel_rfl
  have p0 : ∀ (x y : Value) w, (part 3 #[x, y] 0).run Try.prog w = .ok x w := fun _ _ _ => by kernel_rfl
  have p1 : ∀ (x y : Value) w, (part 3 #[x, y] 1).run Try.prog w = .ok y w := fun _ _ _ => by kernel_rfl
  have he : ∀ (x y : Int) w, (Op.equalIn 9999 3 (.int .i64 x) (.int .i64 y)).run Try.prog w = .ok (x == y) w := fun x y w => run_equalIn_int w 9998 3 .i64 .i64 x y Try.underlying3
  rw [show (10000 : Nat) = 9999 + 1 from rfl, Op.equalIn]
  simp only [Sem.run_bind, run_underlying Try.underlying52, Result.andThen_ok, hs]
  rw [Std.Legacy.Range.forIn_eq_forIn_range']
  simp only [Std.Legacy.Range.size, Nat.sub_zero, Nat.add_sub_cancel, Nat.div_one, List.range', List.forIn_cons, List.forIn_nil, Sem.run_bind, p0, Nat.zero_add, Nat.mul_one, Result.andThen_ok, he]
  cases h1 : a == c <;> cases h2 : b == d <;> simp [Sem.run_bind, p1, he, h2, Sem.run_pure, Result.andThen]
attribute [go_sem] run_equalIn_pair
end Go.Proofs.Ytfifbadepebpeaa

/- A tree as a list of nodes in preorder. -/
namespace Go.Proofs.Ytfifbadepebpeaa

def kidNums : List Tree → Nat → List Int
  | [], _ => []
  | t :: ts, n => (n : Int) :: kidNums ts (n + t.size)

mutual
def flatAt : Tree → Int → Nat → List NodeP
  | .node k s _ ks, parent, at_ => ⟨k, s, parent, kidNums ks (at_ + 1), sizes ks + 1⟩ :: flatKids ks at_ (at_ + 1)
def flatKids : List Tree → Nat → Nat → List NodeP
  | [], _, _ => []
  | t :: ts, p, n => flatAt t p n ++ flatKids ts p (n + t.size)
end
def flatP (t : Tree) : List NodeP := flatAt t (-1) 0

theorem flatAt_eq (t : Tree) (p : Int) (n : Nat) : flatAt t p n = ⟨t.kind, t.text, p, kidNums t.kids (n + 1), t.size⟩ :: flatKids t.kids n (n + 1) := by
  cases t; simp [flatAt, Tree.kind, Tree.text, Tree.kids, Tree.size]
theorem flatKids_cons (t : Tree) (ts : List Tree) (p n : Nat) : flatKids (t :: ts) p n = flatAt t p n ++ flatKids ts p (n + t.size) := by rw [flatKids]

mutual
theorem flatAt_length : ∀ (t : Tree) (p : Int) (n : Nat), (flatAt t p n).length = t.size
  | .node k s l ks, p, n => by rw [flatAt, Tree.size, List.length_cons, flatKids_length]
theorem flatKids_length : ∀ (ts : List Tree) (p n : Nat), (flatKids ts p n).length = sizes ts
  | [], _, _ => by rw [flatKids, sizes]; rfl
  | t :: ts, p, n => by rw [flatKids, sizes, List.length_append, flatAt_length, flatKids_length]
end
theorem flatP_length (t : Tree) : (flatP t).length = t.size := flatAt_length t _ _

theorem kidNums_length (ts : List Tree) (n : Nat) : (kidNums ts n).length = ts.length := by
  induction ts generalizing n with
  | nil => rfl
  | cons t ts ih => simp [kidNums, ih]

theorem sizes_take (ts : List Tree) (k : Nat) (hk : k < ts.length) : sizes (ts.take (k + 1)) = sizes (ts.take k) + ts[k].size := by
  induction ts generalizing k with
  | nil => simp at hk
  | cons t ts ih =>
    cases k with
    | zero => simp [sizes]
    | succ k => simp only [List.take_succ_cons, sizes, List.getElem_cons_succ]; rw [ih k (by simpa using hk)]; omega
theorem sizes_take_le (ts : List Tree) (k : Nat) : sizes (ts.take k) ≤ sizes ts := by
  induction ts generalizing k with
  | nil => simp
  | cons t ts ih =>
    cases k with
    | zero => simp [sizes]
    | succ k => simp only [List.take_succ_cons, sizes]; have := ih k; omega

theorem length_le_sizes (ts : List Tree) : ts.length ≤ sizes ts := by
  induction ts with
  | nil => simp
  | cons t ts ih => rw [sizes_cons, List.length_cons]; have := t.size_eq; omega

theorem kidNums_take (ts : List Tree) (n j : Nat) (hj : j < ts.length) : kidNums (ts.take (j + 1)) n = kidNums (ts.take j) n ++ [((n + sizes (ts.take j) : Nat) : Int)] := by
  induction ts generalizing n j with
  | nil => simp at hj
  | cons t ts ih =>
    cases j with
    | zero => simp [kidNums, sizes]
    | succ j =>
      simp only [List.take_succ_cons, kidNums, sizes, List.cons_append]
      rw [ih (n + t.size) j (by simpa using hj)]
      simp only [Nat.add_assoc]
theorem flatKids_take (ts : List Tree) (p n j : Nat) (hj : j < ts.length) : flatKids (ts.take (j + 1)) p n = flatKids (ts.take j) p n ++ flatAt ts[j] p (n + sizes (ts.take j)) := by
  induction ts generalizing n j with
  | nil => simp at hj
  | cons t ts ih =>
    cases j with
    | zero => simp [flatKids, sizes]
    | succ j =>
      simp only [List.take_succ_cons, flatKids, sizes, List.getElem_cons_succ]
      rw [ih (n + t.size) j (by simpa using hj)]
      simp only [Nat.add_assoc, List.append_assoc]
theorem kidNums_mem (ts : List Tree) (n : Nat) (x : Int) (hx : x ∈ kidNums ts n) : (n : Int) ≤ x ∧ x < n + sizes ts := by
  induction ts generalizing n with
  | nil => simp [kidNums] at hx
  | cons t ts ih =>
    simp only [kidNums, List.mem_cons] at hx
    have hs : 0 < t.size := by have := t.size_eq; omega
    rw [sizes_cons]
    rcases hx with rfl | hx
    · omega
    · have := ih (n + t.size) hx; omega
end Go.Proofs.Ytfifbadepebpeaa

/- Flat trees are well formed: the kids of a node are the nodes whose parent it is. -/
namespace Go.Proofs.Ytfifbadepebpeaa

structure FW (x : List NodeP) (n : Nat) (roots : List Int) (P : Int) : Prop where
  kid : ∀ (i : Nat) (nd : NodeP) (c : Int), x[i]? = some nd → c ∈ nd.kids → ∃ (m : Nat) (md : NodeP), x[m]? = some md ∧ c = ((n + m : Nat) : Int) ∧ i < m ∧ md.parent = ((n + i : Nat) : Int)
  par : ∀ (i : Nat) (nd : NodeP), x[i]? = some nd → (nd.parent = P ∧ ((n + i : Nat) : Int) ∈ roots) ∨ ∃ (j : Nat) (jd : NodeP), x[j]? = some jd ∧ j < i ∧ nd.parent = ((n + j : Nat) : Int) ∧ ((n + i : Nat) : Int) ∈ jd.kids
  asc : ∀ (i : Nat) (nd : NodeP), x[i]? = some nd → nd.kids.Pairwise (· < ·)
  root : ∀ r ∈ roots, ∃ (m : Nat) (md : NodeP), x[m]? = some md ∧ r = ((n + m : Nat) : Int) ∧ md.parent = P
  sz : ∀ (i : Nat) (nd : NodeP), x[i]? = some nd → nd.size = 1 + (nd.kids.map fun c : Int => (x.getD (c - (n : Int)).toNat default).size).sum
  rsz : (roots.map fun c : Int => (x.getD (c - (n : Int)).toNat default).size).sum = (x.length : Int)

theorem getD_left {x y : List NodeP} {n m : Nat} (h : m < x.length) : (x ++ y).getD (((n + m : Nat) : Int) - n).toNat default = x.getD (((n + m : Nat) : Int) - n).toNat default := by
  have e : (((n + m : Nat) : Int) - n).toNat = m := by omega
  rw [e, List.getD_eq_getElem?_getD, List.getD_eq_getElem?_getD, List.getElem?_append_left h]
theorem getD_right {x y : List NodeP} {n m : Nat} : (x ++ y).getD (((n + x.length + m : Nat) : Int) - n).toNat default = y.getD (((n + x.length + m : Nat) : Int) - ((n + x.length : Nat) : Int)).toNat default := by
  have e1 : (((n + x.length + m : Nat) : Int) - n).toNat = x.length + m := by omega
  have e2 : (((n + x.length + m : Nat) : Int) - ((n + x.length : Nat) : Int)).toNat = m := by omega
  rw [e1, e2, List.getD_eq_getElem?_getD, List.getD_eq_getElem?_getD, List.getElem?_append_right (by omega)]
  congr 2
  omega

theorem lt_of_some {x : List NodeP} {m : Nat} {md : NodeP} (h : x[m]? = some md) : m < x.length := by
  rcases Nat.lt_or_ge m x.length with hl | hl
  · exact hl
  · rw [List.getElem?_eq_none hl] at h; cases h

theorem FW.append {x y : List NodeP} {n : Nat} {r s : List Int} {P : Int} (a : FW x n r P) (b : FW y (n + x.length) s P) : FW (x ++ y) n (r ++ s) P := by
  have key : ∀ (i : Nat) (nd : NodeP), (x ++ y)[i]? = some nd → (x[i]? = some nd ∧ i < x.length) ∨ (∃ k : Nat, i = x.length + k ∧ y[k]? = some nd) := by
    intro i nd h
    rcases Nat.lt_or_ge i x.length with hi | hi
    · rw [List.getElem?_append_left hi] at h; exact .inl ⟨h, hi⟩
    · rw [List.getElem?_append_right hi] at h; exact .inr ⟨i - x.length, by omega, h⟩
  have left : ∀ (i : Nat) (nd : NodeP), x[i]? = some nd → (x ++ y)[i]? = some nd := fun i nd h => by
    have hi : i < x.length := by
      rcases Nat.lt_or_ge i x.length with hi | hi
      · exact hi
      · rw [List.getElem?_eq_none hi] at h; cases h
    rw [List.getElem?_append_left hi]; exact h
  have right : ∀ (i : Nat) (nd : NodeP), y[i]? = some nd → (x ++ y)[x.length + i]? = some nd := fun i nd h => by
    rw [List.getElem?_append_right (by omega), show x.length + i - x.length = i by omega]; exact h
  refine ⟨?_, ?_, ?_, ?_, ?_, ?_⟩
  · intro i nd c h hc
    rcases key i nd h with ⟨h, _⟩ | ⟨k, rfl, h'⟩
    · obtain ⟨m, md, h1, h2, h3, h4⟩ := a.kid i nd c h hc
      exact ⟨m, md, left m md h1, h2, h3, h4⟩
    · obtain ⟨m, md, h1, h2, h3, h4⟩ := b.kid k nd c h' hc
      exact ⟨x.length + m, md, right m md h1, by rw [h2]; simp only [Nat.add_assoc], by omega, by rw [h4]; simp only [Nat.add_assoc]⟩
  · intro i nd h
    rcases key i nd h with ⟨h, _⟩ | ⟨k, rfl, h'⟩
    · rcases a.par i nd h with ⟨h1, h2⟩ | ⟨j, jd, h1, h2, h3, h4⟩
      · exact .inl ⟨h1, List.mem_append_left _ h2⟩
      · exact .inr ⟨j, jd, left j jd h1, h2, h3, h4⟩
    · rcases b.par k nd h' with ⟨h1, h2⟩ | ⟨j, jd, h1, h2, h3, h4⟩
      · exact .inl ⟨h1, List.mem_append_right _ (by simpa only [Nat.add_assoc] using h2)⟩
      · exact .inr ⟨x.length + j, jd, right j jd h1, by omega, by rw [h3]; simp only [Nat.add_assoc], by simpa only [Nat.add_assoc] using h4⟩
  · intro i nd h
    rcases key i nd h with ⟨h, _⟩ | ⟨k, rfl, h'⟩
    · exact a.asc i nd h
    · exact b.asc k nd h'
  · intro q hq
    rcases List.mem_append.1 hq with hq | hq
    · obtain ⟨m, md, h1, h2, h3⟩ := a.root q hq
      exact ⟨m, md, left m md h1, h2, h3⟩
    · obtain ⟨m, md, h1, h2, h3⟩ := b.root q hq
      exact ⟨x.length + m, md, right m md h1, by rw [h2]; simp only [Nat.add_assoc], h3⟩
  · intro i nd h
    rcases key i nd h with ⟨h, _⟩ | ⟨k, rfl, h'⟩
    · rw [a.sz i nd h]
      congr 2
      apply List.map_congr_left
      intro c hc
      obtain ⟨m, md, h1, rfl, _⟩ := a.kid i nd c h hc
      rw [getD_left (lt_of_some h1)]
    · rw [b.sz k nd h']
      congr 2
      apply List.map_congr_left
      intro c hc
      obtain ⟨m, md, h1, rfl, _⟩ := b.kid k nd c h' hc
      rw [getD_right]
  · rw [List.map_append, List.sum_append]
    have e1 : (r.map fun c : Int => ((x ++ y).getD (c - (n : Int)).toNat default).size) = r.map fun c : Int => (x.getD (c - (n : Int)).toNat default).size := by
      apply List.map_congr_left
      intro c hc
      obtain ⟨m, md, h1, rfl, _⟩ := a.root c hc
      rw [getD_left (lt_of_some h1)]
    have e2 : (s.map fun c : Int => ((x ++ y).getD (c - (n : Int)).toNat default).size) = s.map fun c => (y.getD (c - ((n + x.length : Nat) : Int)).toNat default).size := by
      apply List.map_congr_left
      intro c hc
      obtain ⟨m, md, h1, rfl, _⟩ := b.root c hc
      rw [getD_right]
    rw [e1, e2, a.rsz, b.rsz, List.length_append]
    omega

theorem FW.cons {x : List NodeP} {n : Nat} {P : Int} (r : NodeP) (a : FW x (n + 1) r.kids (n : Int)) (hp : r.parent = P) (hasc : r.kids.Pairwise (· < ·)) (hs : r.size = (x.length : Int) + 1) : FW (r :: x) n [(n : Int)] P := by
  have sh : ∀ m : Nat, (r :: x).getD (((n + 1 + m : Nat) : Int) - n).toNat default = x.getD (((n + 1 + m : Nat) : Int) - ((n + 1 : Nat) : Int)).toNat default := fun m => by
    have e1 : (((n + 1 + m : Nat) : Int) - n).toNat = m + 1 := by omega
    have e2 : (((n + 1 + m : Nat) : Int) - ((n + 1 : Nat) : Int)).toNat = m := by omega
    rw [e1, e2]; rfl
  refine ⟨?_, ?_, ?_, ?_, ?_, ?_⟩
  · intro i nd c h hc
    cases i with
    | zero =>
      simp only [List.getElem?_cons_zero, Option.some.injEq] at h
      subst h
      obtain ⟨m, md, h1, h2, h3⟩ := a.root c hc
      exact ⟨m + 1, md, by simpa using h1, by rw [h2]; omega, by omega, by rw [h3]; simp⟩
    | succ i =>
      obtain ⟨m, md, h1, h2, h3, h4⟩ := a.kid i nd c (by simpa using h) hc
      exact ⟨m + 1, md, by simpa using h1, by rw [h2]; omega, by omega, by rw [h4]; omega⟩
  · intro i nd h
    cases i with
    | zero =>
      simp only [List.getElem?_cons_zero, Option.some.injEq] at h
      subst h
      exact .inl ⟨hp, by simp⟩
    | succ i =>
      right
      rcases a.par i nd (by simpa using h) with ⟨h1, h2⟩ | ⟨j, jd, h1, h2, h3, h4⟩
      · exact ⟨0, r, rfl, by omega, by rw [h1]; simp, by rw [show n + (i + 1) = n + 1 + i by omega]; exact h2⟩
      · exact ⟨j + 1, jd, by simpa using h1, by omega, by rw [h3]; omega, by rw [show n + (i + 1) = n + 1 + i by omega]; exact h4⟩
  · intro i nd h
    cases i with
    | zero =>
      simp only [List.getElem?_cons_zero, Option.some.injEq] at h
      subst h; exact hasc
    | succ i => exact a.asc i nd (by simpa using h)
  · intro q hq
    simp only [List.mem_singleton] at hq
    exact ⟨0, r, rfl, by rw [hq]; simp, hp⟩
  · intro i nd h
    cases i with
    | zero =>
      simp only [List.getElem?_cons_zero, Option.some.injEq] at h
      subst h
      have e : (r.kids.map fun c : Int => ((r :: x).getD (c - (n : Int)).toNat default).size) = r.kids.map fun c => (x.getD (c - ((n + 1 : Nat) : Int)).toNat default).size := by
        apply List.map_congr_left
        intro c hc
        obtain ⟨m, md, h1, rfl, _⟩ := a.root c hc
        rw [sh]
      rw [e, a.rsz, hs]
      omega
    | succ i =>
      have h' : x[i]? = some nd := by simpa using h
      rw [a.sz i nd h']
      congr 2
      apply List.map_congr_left
      intro c hc
      obtain ⟨m, md, h1, rfl, _⟩ := a.kid i nd c h' hc
      rw [sh]
  · simp [hs]

theorem kidNums_asc (ts : List Tree) (n : Nat) : (kidNums ts n).Pairwise (· < ·) := by
  induction ts generalizing n with
  | nil => simp [kidNums]
  | cons t ts ih =>
    simp only [kidNums, List.pairwise_cons]
    refine ⟨fun x hx => ?_, ih _⟩
    have := kidNums_mem ts _ x hx
    have hs : 0 < t.size := by have := t.size_eq; omega
    omega

mutual
theorem flatAt_fw : ∀ (t : Tree) (P : Int) (n : Nat), FW (flatAt t P n) n [(n : Int)] P
  | .node k s l ks, P, n => by
    rw [flatAt]
    exact FW.cons _ (flatKids_fw ks n (n + 1)) rfl (kidNums_asc _ _) (by rw [flatKids_length])
theorem flatKids_fw : ∀ (ts : List Tree) (p n : Nat), FW (flatKids ts p n) n (kidNums ts n) (p : Int)
  | [], p, n => by
    rw [flatKids, kidNums]
    exact ⟨fun i nd c h => by simp at h, fun i nd h => by simp at h, fun i nd h => by simp at h, fun r h => by simp at h, fun i nd h => by simp at h, by simp⟩
  | t :: ts, p, n => by
    rw [flatKids, kidNums]
    have h2 := flatKids_fw ts p (n + t.size)
    have := FW.append (flatAt_fw t (p : Int) n) (by rw [flatAt_length]; exact h2)
    simpa using this
end

structure WF (x : List NodeP) : Prop where
  pos : 0 < x.length
  root : ∀ (nd : NodeP), x[0]? = some nd → nd.parent = -1
  kid : ∀ (i : Nat) (nd : NodeP) (c : Int), x[i]? = some nd → c ∈ nd.kids → ∃ (m : Nat) (md : NodeP), x[m]? = some md ∧ c = (m : Int) ∧ i < m ∧ md.parent = (i : Int)
  par : ∀ (i : Nat) (nd : NodeP), x[i]? = some nd → 0 < i → ∃ (j : Nat) (jd : NodeP), x[j]? = some jd ∧ j < i ∧ nd.parent = (j : Int) ∧ (i : Int) ∈ jd.kids
  asc : ∀ (i : Nat) (nd : NodeP), x[i]? = some nd → nd.kids.Pairwise (· < ·)
  sz : ∀ (i : Nat) (nd : NodeP), x[i]? = some nd → nd.size = 1 + (nd.kids.map fun c => (x.getD c.toNat default).size).sum
  rsz : (x.getD 0 default).size = (x.length : Int)

theorem flatP_wf (t : Tree) : WF (flatP t) := by
  have f := flatAt_fw t (-1) 0
  have hpos : 0 < (flatP t).length := by rw [flatP_length]; have := t.size_eq; omega
  refine ⟨hpos, ?_, ?_, ?_, f.asc, fun i nd h => by have := f.sz i nd h; simpa [flatP] using this, by have := f.rsz; simpa [flatP] using this⟩
  · intro nd h
    rcases f.par 0 nd h with ⟨h1, _⟩ | ⟨j, _, _, h2, _⟩
    · exact h1
    · omega
  · intro i nd c h hc
    obtain ⟨m, md, h1, h2, h3, h4⟩ := f.kid i nd c h hc
    exact ⟨m, md, h1, by rw [h2]; simp, h3, by rw [h4]; simp⟩
  · intro i nd h hi
    rcases f.par i nd h with ⟨_, h2⟩ | ⟨j, jd, h1, h2, h3, h4⟩
    · simp at h2; omega
    · exact ⟨j, jd, h1, h2, by rw [h3]; simp, by simpa using h4⟩
end Go.Proofs.Ytfifbadepebpeaa

/- The pairs that are reached from the roots, level by level. -/
namespace Go.Proofs.Ytfifbadepebpeaa

theorem nodup_lt (n : Nat) : ∀ (l : List Nat), l.Nodup → (∀ a ∈ l, a < n) → l.length ≤ n := by
  induction n with
  | zero => intro l _ h; cases l with | nil => simp | cons a l => have := h a (by simp); omega
  | succ n ih =>
    intro l hn h
    by_cases hm : n ∈ l
    · have h1 := ih (l.erase n) (hn.erase n) (fun a ha => by
        have := (hn.mem_erase_iff).1 ha
        have := h a this.2
        omega)
      rw [List.length_erase_of_mem hm] at h1
      omega
    · have := ih l hn (fun a ha => by
        have := h a ha
        have : a ≠ n := fun e => hm (e ▸ ha)
        omega)
      omega

theorem nodup_flatMap' {α β : Type} {f : α → List β} : ∀ {l : List α}, (∀ a ∈ l, (f a).Nodup) → l.Pairwise (fun a b => ∀ q, q ∈ f a → q ∈ f b → False) → (l.flatMap f).Nodup
  | [], _, _ => by simp
  | a :: l, h1, h2 => by
    rw [List.pairwise_cons] at h2
    rw [List.flatMap_cons, List.nodup_append]
    refine ⟨h1 a (by simp), nodup_flatMap' (fun b hb => h1 b (by simp [hb])) h2.2, ?_⟩
    intro q hq r hr e
    subst e
    obtain ⟨b, hb, hqb⟩ := List.mem_flatMap.1 hr
    exact h2.1 b hb q hq hqb

def nd (x : List NodeP) (i : Int) : NodeP := x.getD i.toNat default
theorem nd_of {x : List NodeP} {m : Nat} {md : NodeP} (h : x[m]? = some md) : nd x (m : Int) = md := by simp [nd, h]
theorem nd_get {x : List NodeP} {i : Int} (h0 : 0 ≤ i) (h1 : i < x.length) : x[i.toNat]? = some (nd x i) := by
  have : i.toNat < x.length := by omega
  simp [nd, List.getElem?_eq_getElem this]

def InR (x y : List NodeP) (p : Int × Int) : Prop := 0 ≤ p.1 ∧ p.1 < x.length ∧ 0 ≤ p.2 ∧ p.2 < y.length

structure KF (x y : List NodeP) (k : Int × Int → List (Int × Int)) : Prop where
  inr : ∀ p, InR x y p → ∀ q ∈ k p, InR x y q ∧ p.1 < q.1 ∧ (nd x q.1).parent = p.1 ∧ (nd y q.2).parent = p.2
  nodup : ∀ p, InR x y p → (k p).Nodup

structure Good (x y : List NodeP) (k : Int × Int → List (Int × Int)) (l : List (Int × Int)) (i : Nat) : Prop where
  nodup : l.Nodup
  inr : ∀ p ∈ l, InR x y p
  eq : l = (0, 0) :: (l.take i).flatMap k
  le : i ≤ l.length

theorem Good.len {x y : List NodeP} {k : Int × Int → List (Int × Int)} {l : List (Int × Int)} {i : Nat} (g : Good x y k l i) : l.length ≤ x.length * y.length := by
  have h := nodup_lt (x.length * y.length) (l.map fun p => p.1.toNat * y.length + p.2.toNat) ?_ ?_
  · simpa using h
  · rw [List.Nodup, List.pairwise_map]
    refine List.Pairwise.imp_of_mem ?_ g.nodup
    intro a b ha hb hne e
    have h1 := g.inr a ha
    have h2 := g.inr b hb
    apply hne
    have e1 : a.1.toNat = b.1.toNat := by
      have := congrArg (fun z => z / y.length) e
      rw [Nat.mul_comm a.1.toNat, Nat.mul_comm b.1.toNat, Nat.mul_add_div (by unfold InR at *; omega), Nat.mul_add_div (by unfold InR at *; omega), Nat.div_eq_of_lt (by unfold InR at *; omega), Nat.div_eq_of_lt (by unfold InR at *; omega)] at this
      omega
    have e2 : a.2.toNat = b.2.toNat := by rw [e1] at e; omega
    unfold InR at *
    exact Prod.ext (by omega) (by omega)
  · intro n hn
    obtain ⟨p, hp, rfl⟩ := List.mem_map.1 hn
    have h1 := g.inr p hp
    unfold InR at h1
    calc p.1.toNat * y.length + p.2.toNat < p.1.toNat * y.length + y.length := by omega
      _ = (p.1.toNat + 1) * y.length := by rw [Nat.add_mul]; omega
      _ ≤ x.length * y.length := Nat.mul_le_mul_right _ (by omega)

theorem good_start {x y : List NodeP} {k : Int × Int → List (Int × Int)} (hx : 0 < x.length) (hy : 0 < y.length) : Good x y k [(0, 0)] 0 :=
  ⟨by simp, fun p hp => by simp only [List.mem_singleton] at hp; subst hp; exact ⟨by simp, by simpa using hx, by simp, by simpa using hy⟩, by simp, by simp⟩

theorem good_step {x y : List NodeP} {k : Int × Int → List (Int × Int)} (K : KF x y k) {l : List (Int × Int)} {i : Nat} (g : Good x y k l i) (hi : i < l.length) : Good x y k (l ++ k l[i]) (i + 1) := by
  have hir := g.inr l[i] (by simp)
  refine ⟨?_, ?_, ?_, by simp; omega⟩
  · rw [List.nodup_append]
    refine ⟨g.nodup, K.nodup _ hir, ?_⟩
    intro a ha b hb e
    subst e
    obtain ⟨h1, h2, h3, h4⟩ := K.inr _ hir a hb
    rw [g.eq] at ha
    rcases List.mem_cons.1 ha with rfl | ha
    · unfold InR at hir; simp only at h2; omega
    · obtain ⟨p, hp, hap⟩ := List.mem_flatMap.1 ha
      obtain ⟨j, hj, hpj⟩ := List.mem_iff_getElem.1 hp
      rw [List.getElem_take] at hpj
      rw [List.length_take] at hj
      have hjl : j < l.length := by omega
      obtain ⟨h5, h6, h7, h8⟩ := K.inr p (g.inr p (by rw [← hpj]; simp)) a hap
      have : l[j] = l[i] := by rw [hpj]; exact Prod.ext (by rw [← h7, h3]) (by rw [← h8, h4])
      have := (List.getElem_inj g.nodup).1 this
      omega
  · intro p hp
    rcases List.mem_append.1 hp with hp | hp
    · exact g.inr p hp
    · exact (K.inr _ hir p hp).1
  · rw [List.take_append_of_le_length (by omega), List.take_add_one, List.getElem?_eq_getElem hi]
    simp only [Option.toList_some, List.flatMap_append, List.flatMap_cons, List.flatMap_nil, List.append_nil]
    rw [← List.cons_append, ← g.eq]

def bfs (k : Int × Int → List (Int × Int)) (budget : Nat) : Nat → List (Int × Int) → Nat → Option (List (Int × Int))
  | 0, _, _ => none
  | f + 1, l, i => if h : i < l.length then (if (l ++ k l[i]).length ≤ budget then bfs k budget f (l ++ k l[i]) (i + 1) else none) else some l

theorem bfs_go {k : Int × Int → List (Int × Int)} {budget f : Nat} {l : List (Int × Int)} {i : Nat} (h : i < l.length) (hb : (l ++ k l[i]).length ≤ budget) (hf : 0 < f) : bfs k budget f l i = bfs k budget (f - 1) (l ++ k l[i]) (i + 1) := by
  obtain ⟨f, rfl⟩ : ∃ g, f = g + 1 := ⟨f - 1, by omega⟩
  rw [bfs, dif_pos h, if_pos hb]; rfl
theorem bfs_stop {k : Int × Int → List (Int × Int)} {budget f : Nat} {l : List (Int × Int)} {i : Nat} (h : i < l.length) (hb : budget < (l ++ k l[i]).length) : bfs k budget f l i = none := by
  cases f with
  | zero => rfl
  | succ f => rw [bfs, dif_pos h, if_neg (by omega)]
theorem bfs_end {k : Int × Int → List (Int × Int)} {budget f : Nat} {l : List (Int × Int)} {i : Nat} (h : l.length ≤ i) (hf : 0 < f) : bfs k budget f l i = some l := by
  obtain ⟨f, rfl⟩ : ∃ g, f = g + 1 := ⟨f - 1, by omega⟩
  rw [bfs, dif_neg (by omega)]

theorem bfs_spec {x y : List NodeP} {k : Int × Int → List (Int × Int)} (K : KF x y k) (budget : Nat) : ∀ (f : Nat) (l : List (Int × Int)) (i : Nat), Good x y k l i → l.length ≤ budget → budget < f + i →
    (∃ r, bfs k budget f l i = some r ∧ Good x y k r r.length ∧ r.length ≤ budget) ∨ (bfs k budget f l i = none ∧ ∃ r j, Good x y k r j ∧ budget < r.length)
  | 0, l, i, g, hl, hf => by have := g.le; omega
  | f + 1, l, i, g, hl, hf => by
    by_cases h : i < l.length
    · by_cases hb : (l ++ k l[i]).length ≤ budget
      · rw [bfs_go h hb (by omega)]
        exact bfs_spec K budget f _ _ (good_step K g h) hb (by omega)
      · exact .inr ⟨bfs_stop h (by omega), _, _, good_step K g h, by omega⟩
    · have hi : i = l.length := by have := g.le; omega
      subst hi
      exact .inl ⟨l, bfs_end (Nat.le_refl _) (by omega), g, hl⟩

def kpC (x y : List NodeP) (c : Int) (ds : List Int) : List (Int × Int) := (ds.filter fun d => decide ((nd x c).kind = (nd y d).kind)).map fun d => (c, d)
def kp (x y : List NodeP) (p : Int × Int) : List (Int × Int) := (nd x p.1).kids.flatMap fun c => kpC x y c (nd y p.2).kids

theorem kid_inr {x : List NodeP} (hx : WF x) {i c : Int} (h0 : 0 ≤ i) (h1 : i < x.length) (hc : c ∈ (nd x i).kids) : 0 ≤ c ∧ c < x.length ∧ i < c ∧ (nd x c).parent = i := by
  obtain ⟨m, md, h2, rfl, h4, h5⟩ := hx.kid i.toNat (nd x i) c (nd_get h0 h1) hc
  have hm : m < x.length := by
    rcases Nat.lt_or_ge m x.length with h | h
    · exact h
    · rw [List.getElem?_eq_none h] at h2; cases h2
  refine ⟨by omega, by omega, by omega, ?_⟩
  rw [nd_of h2, h5]; omega

theorem kids_len {x : List NodeP} (hx : WF x) {i : Int} (h0 : 0 ≤ i) (h1 : i < x.length) : (nd x i).kids.length ≤ x.length := by
  have h := nodup_lt x.length ((nd x i).kids.map Int.toNat) ?_ ?_
  · simpa using h
  · rw [List.Nodup, List.pairwise_map]
    refine List.Pairwise.imp_of_mem ?_ (hx.asc i.toNat _ (nd_get h0 h1))
    intro a b ha hb hab e
    have := kid_inr hx h0 h1 ha
    have := kid_inr hx h0 h1 hb
    omega
  · intro n hn
    obtain ⟨c, hc, rfl⟩ := List.mem_map.1 hn
    have := kid_inr hx h0 h1 hc
    omega

theorem kp_kf {x y : List NodeP} (hx : WF x) (hy : WF y) : KF x y (kp x y) := by
  refine ⟨?_, ?_⟩
  · intro p hp q hq
    obtain ⟨c, hc, hq⟩ := List.mem_flatMap.1 hq
    obtain ⟨d, hd, rfl⟩ := List.mem_map.1 hq
    have hd := (List.mem_filter.1 hd).1
    obtain ⟨a1, a2, a3, a4⟩ := kid_inr hx hp.1 hp.2.1 hc
    obtain ⟨b1, b2, b3, b4⟩ := kid_inr hy hp.2.2.1 hp.2.2.2 hd
    exact ⟨⟨a1, a2, b1, b2⟩, a3, a4, b4⟩
  · intro p hp
    have ax := hx.asc p.1.toNat _ (nd_get hp.1 hp.2.1)
    have ay := hy.asc p.2.toNat _ (nd_get hp.2.2.1 hp.2.2.2)
    unfold kp
    refine nodup_flatMap' (fun c _ => ?_) ?_
    · unfold kpC
      rw [List.Nodup, List.pairwise_map]
      refine List.Pairwise.imp ?_ (List.Pairwise.filter _ ay)
      intro a b hab e
      simp only [Prod.mk.injEq, true_and] at e
      omega
    · refine List.Pairwise.imp ?_ ax
      intro a b hab q hq1 hq2
      simp only [kpC, List.mem_map, List.mem_filter] at hq1 hq2
      obtain ⟨d, _, rfl⟩ := hq1
      obtain ⟨d', _, e⟩ := hq2
      simp only [Prod.mk.injEq] at e
      omega
end Go.Proofs.Ytfifbadepebpeaa

/- The cells of a certificate. -/
namespace Go.Proofs.Ytfifbadepebpeaa
open Go.RowKit

theorem Cmps.openI {h : Hp} {v : Value} {l : List CompP} (hv : Cmps h v l) (h0 : 0 < l.length) : ∃ b off cap, v = .slice (some ⟨b, off, none⟩) l.length cap ∧ l.length ≤ 140737488355328 ∧
    ∀ w, Imm h w → b < w.heap.size ∧ ∀ i (hlt : i < l.length), ∃ ap cp ar cr, w.cell? ⟨b, off + i * 6, none⟩ = some (.int .i64 l[i].a) ∧ w.cell? ⟨b, off + i * 6 + 1, none⟩ = some (.int .i64 l[i].b) ∧
      w.cell? ⟨b, off + i * 6 + 2, none⟩ = some (.int .i64 l[i].cost) ∧ w.cell? ⟨b, off + i * 6 + 3, none⟩ = some (.slice ap l[i].kids.pairs.length cp) ∧ w.cell? ⟨b, off + i * 6 + 4, none⟩ = some (.int .i64 l[i].kids.cost) ∧
      w.cell? ⟨b, off + i * 6 + 5, none⟩ = some (.slice ar l[i].kids.pot.length cr) ∧
      AlignV h (.agg #[.slice ap l[i].kids.pairs.length cp, .int .i64 l[i].kids.cost, .slice ar l[i].kids.pot.length cr]) l[i].kids ∧ I64 l[i].a ∧ I64 l[i].b ∧ I64 l[i].cost ∧ I64 l[i].kids.cost := by
  obtain ⟨cs, s, e⟩ := hv
  obtain ⟨a, cap, rfl, hn⟩ := s.shape
  have hs := s
  obtain ⟨a', cap', he, h1, h2, h3⟩ := hs
  simp only [Value.slice.injEq, true_and] at he
  obtain ⟨rfl, rfl⟩ := he
  rcases h3 with h3 | ⟨b, off, c, rfl, hb, hc⟩
  · omega
  refine ⟨b, off, cap, rfl, hn, fun w hi => ⟨blk_lt (hi b c hb), fun i hlt => ?_⟩⟩
  obtain ⟨b', off', hab, hb', hc'⟩ := s.cells hi h0
  simp only [Option.some.injEq, Addr.mk.injEq, and_true] at hab
  obtain ⟨rfl, rfl⟩ := hab
  obtain ⟨c5, g1, g2⟩ := e.at 6 EncComp.len i hlt
  obtain ⟨r, rfl, i1, i2, i3, ap, cp, ar, cr, rfl, i4, g3, g4⟩ := g1
  refine ⟨ap, cp, ar, cr, ?_, ?_, ?_, ?_, ?_, ?_, ⟨_, rfl, ap, cp, ar, cr, rfl, i4, g3, g4⟩, i1, i2, i3, i4⟩
  · exact hc' _ _ (g2 0 (by omega))
  · rw [Nat.add_assoc]; exact hc' _ _ (g2 1 (by omega))
  · rw [Nat.add_assoc]; exact hc' _ _ (g2 2 (by omega))
  · rw [Nat.add_assoc]; exact hc' _ _ (g2 3 (by omega))
  · rw [Nat.add_assoc]; exact hc' _ _ (g2 4 (by omega))
  · rw [Nat.add_assoc]; exact hc' _ _ (g2 5 (by omega))

end Go.Proofs.Ytfifbadepebpeaa

/- Blocks whose cells are known. -/
namespace Go.Proofs.Ytfifbadepebpeaa
open Go.RowKit

structure Has (w : World) (b : Nat) (c : Array Value) : Prop where
  lt : b < w.heap.size
  cl : ∀ o, w.cell? ⟨b, o, none⟩ = c[o]?
  fz : ∀ o, w.frozen? ⟨b, o, none⟩ = false
theorem Has.drew {w : World} {b : Nat} {c : Array Value} (h : Has w b c) : Has w.drew b c := ⟨h.lt, h.cl, h.fz⟩
theorem Has.alloc {w : World} {b : Nat} {c : Array Value} (h : Has w b c) (o : Obj) : Has (w.alloc o) b c := by
  refine ⟨by have := h.lt; simp; omega, fun q => ?_, fun q => ?_⟩
  · rw [World.cell?_alloc_past _ _ _ h.lt]; exact h.cl q
  · rw [World.frozen?_alloc_past _ _ _ h.lt]; exact h.fz q
theorem Has.below {W w : World} {b : Nat} {c : Array Value} (h : Has W b c) (hb : Below W.heap.size W w) : Has w b c :=
  ⟨Nat.lt_of_lt_of_le h.lt hb.size, fun q => (hb.cell (p := ⟨b, q, none⟩) h.lt).trans (h.cl q), fun q => (hb.frozen (p := ⟨b, q, none⟩) h.lt).trans (h.fz q)⟩
theorem Has.new (w : World) (c : Array Value) (t : TypeId) : Has (w.alloc (.cells c t)) w.heap.size c :=
  ⟨by simp, fun q => by rw [World.cell?_alloc_at _ _ _ _ rfl], fun q => World.frozen?_alloc_at _ _ _ _ rfl⟩
theorem Has.new1 (w : World) (o : Obj) (c : Array Value) (t : TypeId) : Has ((w.alloc o).alloc (.cells c t)) (w.heap.size + 1) c := by
  have := Has.new (w.alloc o) c t
  simpa using this
theorem Has.ne {w : World} {b g : Nat} {c : Array Value} (h : Has w b c) (hg : g ≠ b) (i : Nat) (v : Value) : Has (w.setCell ⟨g, i, none⟩ v) b c := by
  refine ⟨by simpa [World.setCell] using h.lt, fun q => ?_, fun q => ?_⟩
  · rw [World.cell?_of_block (a := ⟨b, q, none⟩) (Below.heap_setCell _ _ _ _ (by exact fun e => hg e.symm))]; exact h.cl q
  · rw [World.frozen?_of_block (a := ⟨b, q, none⟩) (Below.heap_setCell _ _ _ _ (by exact fun e => hg e.symm))]; exact h.fz q

end Go.Proofs.Ytfifbadepebpeaa

/- A cell is written in a block of one's own. -/
namespace Go.Proofs.Ytfifbadepebpeaa
open Go.RowKit

theorem imm1 {h : Hp} {w : World} (hi : Imm h w) {g : Nat} (hn : h g = none) (i : Nat) (v : Value) : Imm h (w.setCell ⟨g, i, none⟩ v) :=
  hi.keep fun b c hc => Below.heap_setCell _ _ _ _ (fun e => by have e' : b = g := e; rw [e', hn] at hc; cases hc)
end Go.Proofs.Ytfifbadepebpeaa
