/- The plain data: trees, flat nodes, alignments, matchings; and how they lie in memory. -/
import Derived.Test.YtlgdojkmbfbnjaaGreatDoorMem
namespace Go.Proofs.YtlgdojkmbfbnjaaGreatDoor
open Go.RowKit

inductive Tree where
  | node (kind : Int) (text : ByteArray) (leads : List ByteArray) (kids : List Tree)

def Tree.kind : Tree → Int | .node k _ _ _ => k
def Tree.text : Tree → ByteArray | .node _ s _ _ => s
def Tree.leads : Tree → List ByteArray | .node _ _ l _ => l
def Tree.kids : Tree → List Tree | .node _ _ _ ks => ks

mutual
def Tree.size : Tree → Nat
  | .node _ _ _ ks => sizes ks + 1
def sizes : List Tree → Nat
  | [] => 0
  | t :: ts => t.size + sizes ts
end
theorem Tree.size_eq (t : Tree) : t.size = sizes t.kids + 1 := by cases t; simp [Tree.size, Tree.kids]
theorem sizes_cons (t : Tree) (ts : List Tree) : sizes (t :: ts) = t.size + sizes ts := by rw [sizes]
theorem sizes_mem {t : Tree} {ts : List Tree} (h : t ∈ ts) : t.size ≤ sizes ts := by
  induction ts with
  | nil => simp at h
  | cons a ts ih =>
    rw [sizes_cons]
    rcases List.mem_cons.1 h with rfl | h
    · omega
    · have := ih h; omega

mutual
def EncTree (h : Hp) : Tree → List Value → Prop
  | .node k s ls ks, cs => ∃ al cl ak ck xs, cs = [.int .i64 k, .string s, .slice al ls.length cl, .slice ak ks.length ck] ∧ I64 k ∧ Sl h (.slice al ls.length cl) ls.length 1 (ls.map Value.string) ∧ Sl h (.slice ak ks.length ck) ks.length 4 xs ∧ EncTrees h ks xs
def EncTrees (h : Hp) : List Tree → List Value → Prop
  | [], cs => cs = []
  | t :: ts, cs => ∃ a r, cs = a ++ r ∧ EncTree h t a ∧ EncTrees h ts r
end

theorem EncTrees.iff {h : Hp} : ∀ {ts : List Tree} {cs : List Value}, EncTrees h ts cs ↔ EncL (EncTree h) ts cs
  | [], cs => by rw [EncTrees, EncL]
  | t :: ts, cs => by
    rw [EncTrees, EncL]
    constructor
    · rintro ⟨a, r, e, h1, h2⟩; exact ⟨a, r, e, h1, EncTrees.iff.1 h2⟩
    · rintro ⟨a, r, e, h1, h2⟩; exact ⟨a, r, e, h1, EncTrees.iff.2 h2⟩

theorem EncTree.iff {h : Hp} {t : Tree} {cs : List Value} : EncTree h t cs ↔ ∃ al cl ak ck xs, cs = [.int .i64 t.kind, .string t.text, .slice al t.leads.length cl, .slice ak t.kids.length ck] ∧ I64 t.kind ∧ Sl h (.slice al t.leads.length cl) t.leads.length 1 (t.leads.map Value.string) ∧ Sl h (.slice ak t.kids.length ck) t.kids.length 4 xs ∧ EncL (EncTree h) t.kids xs := by
  cases t
  rw [EncTree]
  constructor
  · rintro ⟨al, cl, ak, ck, xs, e, h0, h1, h2, h3⟩; exact ⟨al, cl, ak, ck, xs, e, h0, h1, h2, EncTrees.iff.1 h3⟩
  · rintro ⟨al, cl, ak, ck, xs, e, h0, h1, h2, h3⟩; exact ⟨al, cl, ak, ck, xs, e, h0, h1, h2, EncTrees.iff.2 h3⟩

theorem EncTree.len {h : Hp} (t : Tree) (cs : List Value) (e : EncTree h t cs) : cs.length = 4 := by
  obtain ⟨al, cl, ak, ck, xs, rfl, _⟩ := EncTree.iff.1 e; rfl

mutual
theorem EncTree.mono {h h' : Hp} (hle : h.le h') : ∀ {t : Tree} {cs : List Value}, EncTree h t cs → EncTree h' t cs
  | .node k s ls ks, cs, e => by
    rw [EncTree] at e ⊢
    obtain ⟨al, cl, ak, ck, xs, e, h0, h1, h2, h3⟩ := e
    exact ⟨al, cl, ak, ck, xs, e, h0, h1.mono hle, h2.mono hle, EncTrees.mono hle h3⟩
theorem EncTrees.mono {h h' : Hp} (hle : h.le h') : ∀ {ts : List Tree} {cs : List Value}, EncTrees h ts cs → EncTrees h' ts cs
  | [], cs, e => by rw [EncTrees] at e ⊢; exact e
  | t :: ts, cs, e => by
    rw [EncTrees] at e ⊢
    obtain ⟨a, r, e, h1, h2⟩ := e
    exact ⟨a, r, e, EncTree.mono hle h1, EncTrees.mono hle h2⟩
end

/-- A tree, by value. -/
def TreeV (h : Hp) (v : Value) (t : Tree) : Prop := ∃ cs, v = .agg cs.toArray ∧ EncTree h t cs
theorem TreeV.mono {h h' : Hp} (hle : h.le h') {v : Value} {t : Tree} (s : TreeV h v t) : TreeV h' v t := by obtain ⟨cs, e, i⟩ := s; exact ⟨cs, e, i.mono hle⟩

theorem TreeV.open {h : Hp} {v : Value} {t : Tree} (s : TreeV h v t) : ∃ al cl ak ck xs, v = .agg #[.int .i64 t.kind, .string t.text, .slice al t.leads.length cl, .slice ak t.kids.length ck] ∧ I64 t.kind ∧
    t.leads.length ≤ 140737488355328 ∧ t.kids.length ≤ 140737488355328 ∧ Sl h (.slice al t.leads.length cl) t.leads.length 1 (t.leads.map Value.string) ∧ Sl h (.slice ak t.kids.length ck) t.kids.length 4 xs ∧ EncL (EncTree h) t.kids xs := by
  obtain ⟨cs, rfl, e⟩ := s
  obtain ⟨al, cl, ak, ck, xs, rfl, h0, h1, h2, h3⟩ := EncTree.iff.1 e
  exact ⟨al, cl, ak, ck, xs, rfl, h0, h1.len.1, h2.len.1, h1, h2, h3⟩

def Trs (h : Hp) (v : Value) (ts : List Tree) : Prop := ∃ cs, Sl h v ts.length 4 cs ∧ EncL (EncTree h) ts cs
theorem Trs.mono {h h' : Hp} (hle : h.le h') {v : Value} {ts : List Tree} (s : Trs h v ts) : Trs h' v ts := by
  obtain ⟨cs, h1, h2⟩ := s; exact ⟨cs, h1.mono hle, h2.mono fun _ _ r => r.mono hle⟩

/-- One tree of a row of trees. -/
theorem trees_at {h : Hp} {a : Option Addr} {m cap : Nat} {ts : List Tree} {cs : List Value} (s : Sl h (.slice a m cap) ts.length 4 cs) (e : EncL (EncTree h) ts cs) {w : World} (hi : Imm h w) (i : Nat) (hlt : i < ts.length) :
    ∃ b off al cl ak ck, a = some ⟨b, off, none⟩ ∧ b < w.heap.size ∧ w.cell? ⟨b, off + i * 4, none⟩ = some (.int .i64 ts[i].kind) ∧ w.cell? ⟨b, off + i * 4 + 1, none⟩ = some (.string ts[i].text) ∧
      w.cell? ⟨b, off + i * 4 + 2, none⟩ = some (.slice al ts[i].leads.length cl) ∧ w.cell? ⟨b, off + i * 4 + 3, none⟩ = some (.slice ak ts[i].kids.length ck) ∧
      TreeV h (.agg #[.int .i64 ts[i].kind, .string ts[i].text, .slice al ts[i].leads.length cl, .slice ak ts[i].kids.length ck]) ts[i] := by
  obtain ⟨b, off, rfl, hb, hc⟩ := s.cells hi (by omega)
  obtain ⟨c4, h1, h2⟩ := e.at 4 EncTree.len i hlt
  obtain ⟨al, cl, ak, ck, xs, rfl, h3⟩ := EncTree.iff.1 h1
  refine ⟨b, off, al, cl, ak, ck, rfl, hb, ?_, ?_, ?_, ?_, ⟨_, rfl, h1⟩⟩
  · exact hc _ _ (h2 0 (by omega))
  · rw [Nat.add_assoc]; exact hc _ _ (h2 1 (by omega))
  · rw [Nat.add_assoc]; exact hc _ _ (h2 2 (by omega))
  · rw [Nat.add_assoc]; exact hc _ _ (h2 3 (by omega))

/-- A node of a flat tree. -/
structure NodeP where
  kind : Int
  text : ByteArray
  parent : Int
  kids : List Int
  size : Int
instance : Inhabited NodeP := ⟨⟨0, ⟨#[]⟩, 0, [], 0⟩⟩

def EncNode (h : Hp) (n : NodeP) (cs : List Value) : Prop := ∃ a c, cs = [.int .i64 n.kind, .string n.text, .int .i64 n.parent, .slice a n.kids.length c, .int .i64 n.size] ∧ I64 n.kind ∧ I64 n.parent ∧ I64 n.size ∧ Ints h (.slice a n.kids.length c) n.kids
theorem EncNode.len {h : Hp} (n : NodeP) (cs : List Value) (e : EncNode h n cs) : cs.length = 5 := by obtain ⟨a, c, rfl, _⟩ := e; rfl
theorem EncNode.mono {h h' : Hp} (hle : h.le h') {n : NodeP} {cs : List Value} (e : EncNode h n cs) : EncNode h' n cs := by
  obtain ⟨a, c, rfl, h1, h2, h3, h4⟩ := e; exact ⟨a, c, rfl, h1, h2, h3, h4.mono hle⟩
def Nds (h : Hp) (v : Value) (l : List NodeP) : Prop := ∃ cs, Sl h v l.length 5 cs ∧ EncL (EncNode h) l cs
theorem Nds.mono {h h' : Hp} (hle : h.le h') {v : Value} {l : List NodeP} (s : Nds h v l) : Nds h' v l := by
  obtain ⟨cs, h1, h2⟩ := s; exact ⟨cs, h1.mono hle, h2.mono fun _ _ r => r.mono hle⟩

theorem Nds.open {h : Hp} {v : Value} {l : List NodeP} (hv : Nds h v l) : ∃ a cap, v = .slice a l.length cap ∧ l.length ≤ 140737488355328 ∧
    ∀ w, Imm h w → ∀ i (hlt : i < l.length), ∃ b off ak ck, a = some ⟨b, off, none⟩ ∧ b < w.heap.size ∧ w.cell? ⟨b, off + i * 5, none⟩ = some (.int .i64 l[i].kind) ∧ w.cell? ⟨b, off + i * 5 + 1, none⟩ = some (.string l[i].text) ∧
      w.cell? ⟨b, off + i * 5 + 2, none⟩ = some (.int .i64 l[i].parent) ∧ w.cell? ⟨b, off + i * 5 + 3, none⟩ = some (.slice ak l[i].kids.length ck) ∧ w.cell? ⟨b, off + i * 5 + 4, none⟩ = some (.int .i64 l[i].size) ∧
      Ints h (.slice ak l[i].kids.length ck) l[i].kids ∧ I64 l[i].kind ∧ I64 l[i].parent ∧ I64 l[i].size := by
  obtain ⟨cs, s, e⟩ := hv
  obtain ⟨a, cap, rfl, hn⟩ := s.shape
  refine ⟨a, cap, rfl, hn, fun w hi i hlt => ?_⟩
  obtain ⟨b, off, rfl, hb, hc⟩ := s.cells hi (by omega)
  obtain ⟨c5, h1, h2⟩ := e.at 5 EncNode.len i hlt
  obtain ⟨ak, ck, rfl, i1, i2, i3, h3⟩ := h1
  refine ⟨b, off, ak, ck, rfl, hb, ?_, ?_, ?_, ?_, ?_, h3, i1, i2, i3⟩
  · exact hc _ _ (h2 0 (by omega))
  · rw [Nat.add_assoc]; exact hc _ _ (h2 1 (by omega))
  · rw [Nat.add_assoc]; exact hc _ _ (h2 2 (by omega))
  · rw [Nat.add_assoc]; exact hc _ _ (h2 3 (by omega))
  · rw [Nat.add_assoc]; exact hc _ _ (h2 4 (by omega))

/-- An alignment. -/
structure AlignP where
  pairs : List (Int × Int)
  cost : Int
  pot : List (List Int)
instance : Inhabited AlignP := ⟨⟨[], 0, []⟩⟩
def EncAlign (h : Hp) (x : AlignP) (cs : List Value) : Prop := ∃ ap cp ar cr, cs = [.slice ap x.pairs.length cp, .int .i64 x.cost, .slice ar x.pot.length cr] ∧ I64 x.cost ∧ Prs h (.slice ap x.pairs.length cp) x.pairs ∧ Rws h (.slice ar x.pot.length cr) x.pot
theorem EncAlign.mono {h h' : Hp} (hle : h.le h') {n : AlignP} {cs : List Value} (e : EncAlign h n cs) : EncAlign h' n cs := by
  obtain ⟨a, c, a', c', rfl, h1, h2, h3⟩ := e; exact ⟨a, c, a', c', rfl, h1, h2.mono hle, h3.mono hle⟩
theorem EncAlign.len {h : Hp} (n : AlignP) (cs : List Value) (e : EncAlign h n cs) : cs.length = 3 := by obtain ⟨a, c, a', c', rfl, _⟩ := e; rfl

/-- An entry of a certificate. -/
structure CompP where
  a : Int
  b : Int
  cost : Int
  kids : AlignP
instance : Inhabited CompP := ⟨⟨0, 0, 0, default⟩⟩
def EncComp (h : Hp) (x : CompP) (cs : List Value) : Prop := ∃ r, cs = [.int .i64 x.a, .int .i64 x.b, .int .i64 x.cost] ++ r ∧ I64 x.a ∧ I64 x.b ∧ I64 x.cost ∧ EncAlign h x.kids r
theorem EncComp.mono {h h' : Hp} (hle : h.le h') {n : CompP} {cs : List Value} (e : EncComp h n cs) : EncComp h' n cs := by
  obtain ⟨r, rfl, h1, h2, h3, h4⟩ := e; exact ⟨r, rfl, h1, h2, h3, h4.mono hle⟩
theorem EncComp.len {h : Hp} (n : CompP) (cs : List Value) (e : EncComp h n cs) : cs.length = 6 := by
  obtain ⟨r, rfl, h1, h2, h3, h4⟩ := e; simp [EncAlign.len _ _ h4]
def Cmps (h : Hp) (v : Value) (l : List CompP) : Prop := ∃ cs, Sl h v l.length 6 cs ∧ EncL (EncComp h) l cs
theorem Cmps.mono {h h' : Hp} (hle : h.le h') {v : Value} {l : List CompP} (s : Cmps h v l) : Cmps h' v l := by
  obtain ⟨cs, h1, h2⟩ := s; exact ⟨cs, h1.mono hle, h2.mono fun _ _ r => r.mono hle⟩

theorem Cmps.open {h : Hp} {v : Value} {l : List CompP} (hv : Cmps h v l) : ∃ a cap, v = .slice a l.length cap ∧ l.length ≤ 140737488355328 ∧
    ∀ w, Imm h w → ∀ i (hlt : i < l.length), ∃ b off ap cp ar cr, a = some ⟨b, off, none⟩ ∧ b < w.heap.size ∧ w.cell? ⟨b, off + i * 6, none⟩ = some (.int .i64 l[i].a) ∧ w.cell? ⟨b, off + i * 6 + 1, none⟩ = some (.int .i64 l[i].b) ∧
      w.cell? ⟨b, off + i * 6 + 2, none⟩ = some (.int .i64 l[i].cost) ∧ w.cell? ⟨b, off + i * 6 + 3, none⟩ = some (.slice ap l[i].kids.pairs.length cp) ∧ w.cell? ⟨b, off + i * 6 + 4, none⟩ = some (.int .i64 l[i].kids.cost) ∧
      w.cell? ⟨b, off + i * 6 + 5, none⟩ = some (.slice ar l[i].kids.pot.length cr) ∧
      Prs h (.slice ap l[i].kids.pairs.length cp) l[i].kids.pairs ∧ Rws h (.slice ar l[i].kids.pot.length cr) l[i].kids.pot ∧ I64 l[i].a ∧ I64 l[i].b ∧ I64 l[i].cost ∧ I64 l[i].kids.cost := by
  obtain ⟨cs, s, e⟩ := hv
  obtain ⟨a, cap, rfl, hn⟩ := s.shape
  refine ⟨a, cap, rfl, hn, fun w hi i hlt => ?_⟩
  obtain ⟨b, off, rfl, hb, hc⟩ := s.cells hi (by omega)
  obtain ⟨c5, h1, h2⟩ := e.at 6 EncComp.len i hlt
  obtain ⟨r, rfl, i1, i2, i3, ap, cp, ar, cr, rfl, i4, h3, h4⟩ := h1
  refine ⟨b, off, ap, cp, ar, cr, rfl, hb, ?_, ?_, ?_, ?_, ?_, ?_, h3, h4, i1, i2, i3, i4⟩
  · exact hc _ _ (h2 0 (by omega))
  · rw [Nat.add_assoc]; exact hc _ _ (h2 1 (by omega))
  · rw [Nat.add_assoc]; exact hc _ _ (h2 2 (by omega))
  · rw [Nat.add_assoc]; exact hc _ _ (h2 3 (by omega))
  · rw [Nat.add_assoc]; exact hc _ _ (h2 4 (by omega))
  · rw [Nat.add_assoc]; exact hc _ _ (h2 5 (by omega))

/-- A matching. -/
structure MatchP where
  pairs : List (Int × Int)
  cost : Int
  proven : Bool
  bound : Int
  proof : List CompP
def MatchV (h : Hp) (v : Value) (x : MatchP) : Prop := ∃ ap cp ar cr, v = .agg #[.slice ap x.pairs.length cp, .int .i64 x.cost, .bool x.proven, .int .i64 x.bound, .slice ar x.proof.length cr] ∧ I64 x.cost ∧ I64 x.bound ∧ Prs h (.slice ap x.pairs.length cp) x.pairs ∧ Cmps h (.slice ar x.proof.length cr) x.proof
instance : Inhabited MatchP := ⟨⟨[], 0, false, 0, []⟩⟩
theorem MatchV.mono {h h' : Hp} (hle : h.le h') {v : Value} {x : MatchP} (s : MatchV h v x) : MatchV h' v x := by
  obtain ⟨a, c, a', c', rfl, h1, h2, h3, h4⟩ := s; exact ⟨a, c, a', c', rfl, h1, h2, h3.mono hle, h4.mono hle⟩
def AlignV (h : Hp) (v : Value) (x : AlignP) : Prop := ∃ cs, v = .agg cs.toArray ∧ EncAlign h x cs
theorem AlignV.mono {h h' : Hp} (hle : h.le h') {v : Value} {x : AlignP} (s : AlignV h v x) : AlignV h' v x := by obtain ⟨cs, e, i⟩ := s; exact ⟨cs, e, i.mono hle⟩
end Go.Proofs.YtlgdojkmbfbnjaaGreatDoor
