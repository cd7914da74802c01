/- An abstract machine for calls of Go: what a value says of a value of the model, objects, loads, stores and appends, for every program. -/
import Derived.Test.YtlgdojkmbfbnjaaGreatDoorTu
import Derived.Deep.MidRow
import Derived.Great.BuildSlice
import Derived.Test.YtlgdojkmbfbnjaaGreatDoorLa
namespace Go.Proofs.YtlgdojkmbfbnjaaGreatDoor
open Go.RowKit

/-- Abstract values: c cells an element, k the object, r its version. -/
inductive AV where
  | top
  | vl (v : Value)
  | ag (l : List AV)
  | tu (l : List AV)
  | im (c : Nat) (l : List AV)
  | rf (c k r off n : Nat)
  | pt (c k r i j : Nat)
  | pi (e : AV) (j : Nat)
  | fn (f : FuncId) (l : List AV)
  | fb (f : FuncId) (l : List AV)
  | rl (c k r off n : Nat)
  | mr (k : Nat)
  | it (k : Nat)
  deriving Inhabited
def AV.cells : AV → List AV
  | .ag l => l
  | v => [v]
inductive AO where
  | row (T : TypeId) (c : Nat) (l : List AV) (live hf : Bool)
  | no
  | mp (es : List (AV × AV))
  | ir (m : Option Nat) (n : Nat) (cur : Option Nat)
  deriving Inhabited
abbrev AS := List AO
structure Gh where
  h : Hp
  s : Nat → Nat → Option Nat
  cp : Nat → Nat → Nat
  sn : Nat → Nat
def Gh.z (g : Gh) : Gh := ⟨g.h, fun _ _ => none, g.cp, g.sn⟩
mutual
def V : AV → Gh → Value → Prop
  | .top, _, _ => True
  | .vl x, _, v => v = x
  | .ag l, g, v => ∃ vs : List Value, v = .agg vs.toArray ∧ Vs l g vs
  | .tu l, g, v => ∃ vs : List Value, v = .tuple vs.toArray ∧ Vs l g vs
  | .im c l, g, v => ∃ cs, (∃ a cap, v = .slice a l.length cap ∧ l.length ≤ cap) ∧ Sl g.h v l.length c cs ∧ Vc c l g.z cs
  | .rf c k r off n, g, v => (n = 0 ∧ off = 0 ∧ r = 0 ∧ v = .slice none 0 0) ∨ ∃ b cap, g.s k r = some b ∧ (∃ o, v = .slice (some ⟨b, o, none⟩) n cap ∧ (n = 0 ∧ 0 < off ∨ o = off * c)) ∧ off + cap = g.cp k r ∧ n ≤ cap
  | .pt c k r i j, g, v => ∃ b, g.s k r = some b ∧ v = .pointer (some ⟨b, i * c + j, none⟩)
  | .pi e j, g, v => ∃ b o c u, v = .pointer (some ⟨b, o + j, none⟩) ∧ g.h b = some c ∧ V e g.z u ∧ ∀ i, i < u.cells.size → c[o + i]? = u.cells[i]?
  | .fn f l, g, v => ∃ vs : List Value, v = .func (.func f) #[] vs.toArray ∧ Vs l g vs
  | .fb f l, g, v => ∃ vs : List Value, v = .func (.func f) vs.toArray #[] ∧ Vs l g vs
  | .rl c k r off n, g, v => ∃ b o, g.s k r = some b ∧ v = .slice (some ⟨b, o, none⟩) n n ∧ (n = 0 ∨ o = off * c)
  | .mr k, g, v => ∃ b, g.s k 0 = some b ∧ v = .map (some b)
  | .it k, g, v => ∃ b, g.s k 0 = some b ∧ v = .pointer (some ⟨b, 0, none⟩)
/-- One by one. -/
def Vs : List AV → Gh → List Value → Prop
  | [], _, vs => vs = []
  | x :: l, g, vs => ∃ v r, vs = v :: r ∧ V x g v ∧ Vs l g r
/-- Elements of c cells each, one behind the other. -/
def Vc (c : Nat) : List AV → Gh → List Value → Prop
  | [], _, cs => cs = []
  | x :: l, g, cs => ∃ v r, cs = v.cells.toList ++ r ∧ v.cells.size = c ∧ V x g v ∧ Vc c l g r
end
structure Gh.le (g g' : Gh) : Prop where
  h : g.h.le g'.h
  s : ∀ k r b, g.s k r = some b → g'.s k r = some b ∧ g'.cp k r = g.cp k r
  n : ∀ k r b, g.s k r = some b → g.sn k ≤ g'.sn k
theorem Gh.le.rfl {g : Gh} : g.le g := ⟨Hp.le_refl _, fun _ _ _ e => ⟨e, Eq.refl _⟩, fun _ _ _ _ => Nat.le_refl _⟩
theorem Gh.le.trans {a b c : Gh} (x : a.le b) (y : b.le c) : a.le c := ⟨Hp.le_trans x.h y.h, fun k r q e => by
  obtain ⟨e1, e2⟩ := x.s k r q e
  obtain ⟨e3, e4⟩ := y.s k r q e1
  exact ⟨e3, e4.trans e2⟩, fun k r b e => Nat.le_trans (x.n k r b e) (y.n k r b (x.s k r b e).1)⟩
theorem Gh.le.z {g g' : Gh} (x : g.le g') : g.z.le g'.z := ⟨x.h, fun _ _ _ e => (by cases e), fun _ _ _ e => (by cases e)⟩
theorem Gh.z_le (g : Gh) : g.z.le g := ⟨Hp.le_refl _, fun _ _ _ e => (by cases e), fun _ _ _ e => (by cases e)⟩
mutual
theorem V.mono : ∀ (x : AV) (g g' : Gh) (v : Value), g.le g' → V x g v → V x g' v
  | .top, _, _, _, _, _ => by rw [V]; trivial
  | .vl x, g, g', v, q, h => by rw [V] at h ⊢; exact h
  | .ag l, g, g', v, q, h => by rw [V] at h ⊢; obtain ⟨vs, e, s⟩ := h; exact ⟨vs, e, Vs.mono l g g' vs q s⟩
  | .tu l, g, g', v, q, h => by rw [V] at h ⊢; obtain ⟨vs, e, s⟩ := h; exact ⟨vs, e, Vs.mono l g g' vs q s⟩
  | .im c l, g, g', v, q, h => by rw [V] at h ⊢; obtain ⟨cs, k, e, s⟩ := h; exact ⟨cs, k, e.mono q.h, Vc.mono c l g.z g'.z cs q.z s⟩
  | .rf c k r off n, g, g', v, q, h => by
    rw [V] at h ⊢
    rcases h with h | ⟨b, cap, e, e2, e3, e4⟩
    · exact .inl h
    · obtain ⟨e5, e6⟩ := q.s _ _ _ e
      exact .inr ⟨b, cap, e5, e2, by rw [e6]; exact e3, e4⟩
  | .pt c k r i j, g, g', v, q, h => by rw [V] at h ⊢; obtain ⟨b, e, e2⟩ := h; exact ⟨b, (q.s _ _ _ e).1, e2⟩
  | .pi e j, g, g', v, q, h => by rw [V] at h ⊢; obtain ⟨b, o, c, u, e1, e2, e3, e4⟩ := h; exact ⟨b, o, c, u, e1, q.h _ _ e2, V.mono e g.z g'.z u q.z e3, e4⟩
  | .fn f l, g, g', v, q, h => by rw [V] at h ⊢; obtain ⟨vs, e, s⟩ := h; exact ⟨vs, e, Vs.mono l g g' vs q s⟩
  | .fb f l, g, g', v, q, h => by rw [V] at h ⊢; obtain ⟨vs, e, s⟩ := h; exact ⟨vs, e, Vs.mono l g g' vs q s⟩
  | .rl c k r off n, g, g', v, q, h => by rw [V] at h ⊢; obtain ⟨b, o, e, e2⟩ := h; exact ⟨b, o, (q.s _ _ _ e).1, e2⟩
  | .mr k, g, g', v, q, h => by rw [V] at h ⊢; obtain ⟨b, e, e2⟩ := h; exact ⟨b, (q.s _ _ _ e).1, e2⟩
  | .it k, g, g', v, q, h => by rw [V] at h ⊢; obtain ⟨b, e, e2⟩ := h; exact ⟨b, (q.s _ _ _ e).1, e2⟩
theorem Vs.mono : ∀ (l : List AV) (g g' : Gh) (vs : List Value), g.le g' → Vs l g vs → Vs l g' vs
  | [], _, _, _, _, h => by rw [Vs] at h ⊢; exact h
  | x :: l, g, g', vs, q, h => by rw [Vs] at h ⊢; obtain ⟨v, r, e, a, b⟩ := h; exact ⟨v, r, e, V.mono x g g' v q a, Vs.mono l g g' r q b⟩
theorem Vc.mono (c : Nat) : ∀ (l : List AV) (g g' : Gh) (cs : List Value), g.le g' → Vc c l g cs → Vc c l g' cs
  | [], _, _, _, _, h => by rw [Vc] at h ⊢; exact h
  | x :: l, g, g', vs, q, h => by rw [Vc] at h ⊢; obtain ⟨v, r, e, e2, a, b⟩ := h; exact ⟨v, r, e, e2, V.mono x g g' v q a, Vc.mono c l g g' r q b⟩
end
/-- Entries of a map, one by one; each was born at its place. -/
def Ve : List (AV × AV) → Nat → Gh → List MapEntry → Prop
  | [], _, _, es => es = []
  | x :: l, i, g, es => ∃ e r, es = e :: r ∧ e.born = i ∧ V x.1 g e.key ∧ V x.2 g e.val ∧ Ve l (i + 1) g r
theorem Ve.mono : ∀ {l : List (AV × AV)} {i : Nat} {g g' : Gh} {es : List MapEntry}, g.le g' → Ve l i g es → Ve l i g' es
  | [], _, _, _, _, _, h => by rw [Ve] at h ⊢; exact h
  | x :: l, i, g, g', es, q, h => by rw [Ve] at h ⊢; obtain ⟨e, r, a, b, c, d, f⟩ := h; exact ⟨e, r, a, b, V.mono _ _ _ _ q c, V.mono _ _ _ _ q d, f.mono q⟩
theorem Ve.len : ∀ {l : List (AV × AV)} {i : Nat} {g : Gh} {es : List MapEntry}, Ve l i g es → es.length = l.length
  | [], _, _, _, h => by rw [Ve] at h; rw [h]; rfl
  | x :: l, i, g, es, h => by rw [Ve] at h; obtain ⟨e, r, rfl, _, _, _, f⟩ := h; rw [List.length_cons, f.len, List.length_cons]
theorem Vs.len : ∀ {l : List AV} {g : Gh} {vs : List Value}, Vs l g vs → vs.length = l.length
  | [], _, _, h => by rw [Vs] at h; rw [h]; rfl
  | x :: l, g, vs, h => by rw [Vs] at h; obtain ⟨v, r, rfl, _, b⟩ := h; rw [List.length_cons, b.len, List.length_cons]
theorem Vs.at : ∀ {l : List AV} {g : Gh} {vs : List Value}, Vs l g vs → ∀ (i : Nat) (x : AV), l[i]? = some x → ∃ v, vs[i]? = some v ∧ V x g v
  | [], _, _, h, i, x, e => by simp at e
  | y :: l, g, vs, h, 0, x, e => by rw [Vs] at h; obtain ⟨v, r, rfl, a, b⟩ := h; simp at e; subst e; exact ⟨v, rfl, a⟩
  | y :: l, g, vs, h, i + 1, x, e => by rw [Vs] at h; obtain ⟨v, r, rfl, a, b⟩ := h; simpa using b.at i x (by simpa using e)
theorem Vs.drop : ∀ {l : List AV} {g : Gh} {vs : List Value}, Vs l g vs → ∀ i, Vs (l.drop i) g (vs.drop i)
  | [], _, _, h, i => by rw [Vs] at h; subst h; simp [Vs]
  | y :: l, g, vs, h, 0 => h
  | y :: l, g, vs, h, i + 1 => by rw [Vs] at h; obtain ⟨v, r, rfl, a, b⟩ := h; simpa using b.drop i
theorem Vs.take : ∀ {l : List AV} {g : Gh} {vs : List Value}, Vs l g vs → ∀ i, Vs (l.take i) g (vs.take i)
  | [], _, _, h, i => by rw [Vs] at h; subst h; simp [Vs]
  | y :: l, g, vs, h, 0 => by simp [Vs]
  | y :: l, g, vs, h, i + 1 => by rw [Vs] at h; obtain ⟨v, r, rfl, a, b⟩ := h; simp only [List.take_succ_cons]; rw [Vs]; exact ⟨v, _, rfl, a, b.take i⟩
theorem Vs.app : ∀ {l m : List AV} {g : Gh} {vs us : List Value}, Vs l g vs → Vs m g us → Vs (l ++ m) g (vs ++ us)
  | [], _, _, _, _, h, k => by rw [Vs] at h; subst h; exact k
  | y :: l, m, g, vs, us, h, k => by rw [Vs] at h; obtain ⟨v, r, rfl, a, b⟩ := h; rw [List.cons_append, Vs]; exact ⟨v, _, rfl, a, b.app k⟩
theorem Vs.set : ∀ {l : List AV} {g : Gh} {vs : List Value}, Vs l g vs → ∀ i x v, V x g v → Vs (l.set i x) g (vs.set i v)
  | [], _, _, h, i, x, v, k => by rw [Vs] at h; subst h; simp [Vs]
  | y :: l, g, vs, h, 0, x, v, k => by rw [Vs] at h; obtain ⟨v', r, rfl, a, b⟩ := h; simp only [List.set_cons_zero]; rw [Vs]; exact ⟨v, _, rfl, k, b⟩
  | y :: l, g, vs, h, i + 1, x, v, k => by rw [Vs] at h; obtain ⟨v', r, rfl, a, b⟩ := h; simp only [List.set_cons_succ]; rw [Vs]; exact ⟨v', _, rfl, a, b.set i x v k⟩
theorem Vc.len {c : Nat} : ∀ {l : List AV} {g : Gh} {vs : List Value}, Vc c l g vs → vs.length = l.length * c
  | [], _, _, h => by rw [Vc] at h; rw [h]; simp
  | x :: l, g, vs, h => by rw [Vc] at h; obtain ⟨v, r, rfl, e, _, b⟩ := h; rw [List.length_append, b.len, List.length_cons, Nat.succ_mul, Array.length_toList, e, Nat.add_comm]
/-- An element, and its cells. -/
theorem Vc.at {c : Nat} : ∀ {l : List AV} {g : Gh} {cs : List Value}, Vc c l g cs → ∀ (i : Nat) (x : AV), l[i]? = some x → ∃ v, V x g v ∧ v.cells.size = c ∧ ∀ j, j < c → cs[i * c + j]? = v.cells[j]?
  | [], _, _, h, i, x, e => by simp at e
  | y :: l, g, vs, h, 0, x, e => by
    rw [Vc] at h; obtain ⟨v, r, rfl, z, a, b⟩ := h; simp at e; subst e
    refine ⟨v, a, z, fun j hj => ?_⟩
    rw [Nat.zero_mul, Nat.zero_add, List.getElem?_append_left (by simp; omega)]; simp
  | y :: l, g, vs, h, i + 1, x, e => by
    rw [Vc] at h; obtain ⟨v, r, rfl, z, a, b⟩ := h
    obtain ⟨u, h1, h2, h3⟩ := b.at i x (by simpa using e)
    refine ⟨u, h1, h2, fun j hj => ?_⟩
    rw [← h3 j hj, List.getElem?_append_right (by simp [z, Nat.succ_mul]; omega)]
    congr 1
    simp [z, Nat.succ_mul]; omega
theorem Vc.app {c : Nat} : ∀ {l m : List AV} {g : Gh} {cs ds : List Value}, Vc c l g cs → Vc c m g ds → Vc c (l ++ m) g (cs ++ ds)
  | [], _, _, _, _, h, k => by rw [Vc] at h; subst h; exact k
  | y :: l, m, g, vs, us, h, k => by rw [Vc] at h; obtain ⟨v, r, rfl, z, a, b⟩ := h; rw [List.cons_append, Vc]; exact ⟨v, _, by rw [List.append_assoc], z, a, b.app k⟩
theorem Vc.drop {c : Nat} : ∀ {l : List AV} {g : Gh} {cs : List Value}, Vc c l g cs → ∀ i, Vc c (l.drop i) g (cs.drop (i * c))
  | [], _, _, h, i => by rw [Vc] at h; subst h; simp [Vc]
  | y :: l, g, vs, h, 0 => by simpa using h
  | y :: l, g, vs, h, i + 1 => by
    rw [Vc] at h; obtain ⟨v, r, rfl, z, a, b⟩ := h
    have z2 : v.cells.toList.length = c := by rw [Array.length_toList, z]
    rw [List.drop_succ_cons, Nat.succ_mul, List.drop_append, List.drop_of_length_le (l := v.cells.toList) (by omega), List.nil_append, show i * c + c - v.cells.toList.length = i * c by omega]
    exact b.drop i
theorem Vc.take {c : Nat} : ∀ {l : List AV} {g : Gh} {cs : List Value}, Vc c l g cs → ∀ i, Vc c (l.take i) g (cs.take (i * c))
  | [], _, _, h, i => by rw [Vc] at h; subst h; simp [Vc]
  | y :: l, g, vs, h, 0 => by simp [Vc]
  | y :: l, g, vs, h, i + 1 => by
    rw [Vc] at h; obtain ⟨v, r, rfl, z, a, b⟩ := h
    rw [List.take_succ_cons, Vc]
    refine ⟨v, r.take (i * c), ?_, z, a, b.take i⟩
    have z2 : v.cells.toList.length = c := by rw [Array.length_toList, z]
    rw [Nat.succ_mul, List.take_append, List.take_of_length_le (l := v.cells.toList) (by omega), show i * c + c - v.cells.toList.length = i * c by omega]
end Go.Proofs.YtlgdojkmbfbnjaaGreatDoor

namespace Go.Proofs.YtlgdojkmbfbnjaaGreatDoor
open Go.RowKit

/-- The package's variables that are laid, by number. -/
def gv : Nat → Option AV
  | 0 => some (.ag [.vl (.int .i64 5), .vl (.int .i64 0)])
  | 1 => some (.ag [.vl (.int .i64 6), .vl (.int .i64 0)])
  | 2 => some (.ag [.vl (.int .i64 7), .vl (.int .i64 0)])
  | _ => none
end Go.Proofs.YtlgdojkmbfbnjaaGreatDoor

namespace Go.Proofs.YtlgdojkmbfbnjaaGreatDoor
open Go.RowKit

/-- The value of a row that stands at the head of a block. -/
def hd (b n cp : Nat) : Value := .slice (some ⟨b, 0, none⟩) n cp
def RowA (g : Gh) (w : World) (k b : Nat) (T : TypeId) (c : Nat) (l : List AV) (live hf : Bool) : Prop :=
  ∃ cs, Vc c l (if hf then g.z else g) cs ∧ l.length ≤ g.cp k l.length ∧ l.length ≤ 140737488355328 ∧ if live then Ow w g.h 0 T c (hd b l.length (g.cp k l.length)) l.length cs else Sl g.h (hd b l.length (g.cp k l.length)) l.length c cs
/-- A map's block. -/
def MapA (g : Gh) (w : World) (b : Nat) (es : List (AV × AV)) : Prop := ∃ l : Array MapEntry, w.heap[b]? = some (.map l es.length) ∧ Ve es 0 g l.toList
/-- An iterator's block: over which map, as it was with n entries; which entry came last. -/
def ItA (g : Gh) (w : World) (k b : Nat) (m : Option Nat) (n : Nat) (cur : Option Nat) : Prop := match m with
  | none => ∃ a s c, w.heap[b]? = some (.mapIter none a s c)
  | some q => ∃ bm s, g.s q 0 = some bm ∧ w.heap[b]? = some (.mapIter (some bm) n s n) ∧ s.size = g.sn k ∧ s.toList.Nodup ∧ (∀ x ∈ s, x < n) ∧ ∀ i, cur = some i → s.back? = some i
def ObjM (g : Gh) (w : World) (k b : Nat) : AO → Prop
  | .mp es => MapA g w b es
  | .ir m n cur => ItA g w k b m n cur
  | _ => True
theorem ObjM.mono {g g' : Gh} {w w' : World} {k b : Nat} {o : AO} (h : ObjM g w k b o) (q : g.le g') (hb : w'.heap[b]? = w.heap[b]?) (hn : g'.sn k = g.sn k) : ObjM g' w' k b o := by
  cases o with
  | mp es => obtain ⟨l, h1, h2⟩ := h; exact ⟨l, hb.trans h1, h2.mono q⟩
  | ir m n cur =>
    cases m with
    | none => obtain ⟨a, s, c, h⟩ := h; exact ⟨a, s, c, hb.trans h⟩
    | some m => obtain ⟨bm, s, h1, h2, h3, h4⟩ := h; exact ⟨bm, s, (q.s _ _ _ h1).1, hb.trans h2, h3.trans hn.symm, h4⟩
  | _ => trivial
structure RelH (g : Gh) (H : AS) (w : World) : Prop where
  im : Imm g.h w
  ob : ∀ (k : Nat) T c l live hf, H[k]? = some (.row T c l live hf) → ∀ b, g.s k l.length = some b → RowA g w k b T c l live hf
  ver : ∀ (k : Nat) T c l live hf, H[k]? = some (.row T c l live hf) → ∀ r', l.length < r' → g.s k r' = none
  inj : ∀ k r k' r' b, g.s k r = some b → g.s k' r' = some b → k = k'
  lo : ∀ k r b, g.s k r = some b → k < H.length ∧ b < w.heap.size
  mb : ∀ (k : Nat) o, H[k]? = some o → ∀ b, g.s k 0 = some b → ObjM g w k b o
def isM : AO → Bool
  | .mp _ | .ir .. => true
  | _ => false
theorem ObjM.triv {g : Gh} {w : World} {k b : Nat} {o : AO} (h : isM o = false) : ObjM g w k b o := by cases o <;> first | trivial | cases h
/-- Maps and iterators that stay as they are. -/
theorem RelH.mbK {g g' : Gh} {H H' : AS} {w w' : World} (R : RelH g H w) (q : g.le g') (h : ∀ (k : Nat) o, H'[k]? = some o → isM o = true → H[k]? = some o ∧ ∀ b, g'.s k 0 = some b → g.s k 0 = some b ∧ w'.heap[b]? = w.heap[b]? ∧ g'.sn k = g.sn k) : ∀ (k : Nat) o, H'[k]? = some o → ∀ b, g'.s k 0 = some b → ObjM g' w' k b o := fun k o e b hb => by
  cases hm : isM o with
  | false => exact .triv hm
  | true =>
    obtain ⟨h1, h2⟩ := h k o e hm
    obtain ⟨h3, h4, h5⟩ := h2 b hb
    exact (R.mb k o h1 b h3).mono q h4 h5
def img (g : Gh) (b : Nat) : Prop := ∃ k r, g.s k r = some b
/-- From (g, w) to (g', w'): old blocks have turned only if they were known; what is known now was, or is new. -/
structure TX (g : Gh) (w : World) (g' : Gh) (w' : World) : Prop where
  tu : Tu (img g) w w'
  nb : ∀ b, img g' b → img g b ∨ w.heap.size ≤ b
  fz : ∀ b, g'.h b = g.h b ∨ img g b ∨ w.heap.size ≤ b
/-- Blocks may have come to stand for good. -/
structure Gz (g g' : Gh) : Prop where
  s : ∀ k r, g'.s k r = g.s k r
  h : ∀ b, g'.h b = g.h b ∨ img g b
theorem Gz.rfl {g : Gh} : Gz g g := ⟨fun _ _ => Eq.refl _, fun _ => .inl (Eq.refl _)⟩
theorem Gz.trans {a b c : Gh} (x : Gz a b) (y : Gz b c) : Gz a c := ⟨fun k r => (y.s k r).trans (x.s k r), fun q => by
  rcases y.h q with h | ⟨k, r, h⟩
  · rw [h]; exact x.h q
  · exact .inr ⟨k, r, by rw [← x.s]; exact h⟩⟩
theorem TX.rfl {g : Gh} {w : World} : TX g w g w := ⟨Tu.refl _ _, fun _ h => .inl h, fun _ => .inl (Eq.refl _)⟩
theorem TX.trans {g g1 g2 : Gh} {w w1 w2 : World} (a : TX g w g1 w1) (b : TX g1 w1 g2 w2) : TX g w g2 w2 :=
  ⟨a.tu.step b.tu a.nb, fun q h => by
    rcases b.nb q h with h | h
    · exact a.nb q h
    · exact .inr (Nat.le_trans a.tu.size h), fun q => by
    rcases b.fz q with h | h | h
    · rw [h]; exact a.fz q
    · exact .inr (a.nb q h)
    · exact .inr (.inr (Nat.le_trans a.tu.size h))⟩
theorem TX.ghost {g g' : Gh} {w : World} (h : Gz g g') : TX g w g' w := ⟨Tu.refl _ _, fun q ⟨k, r, e⟩ => .inl ⟨k, r, by rw [← h.s]; exact e⟩, fun b => (h.h b).imp id .inl⟩
theorem RowA.mono {g g' : Gh} {w w' : World} {k b : Nat} {T : TypeId} {c : Nat} {l : List AV} {live hf : Bool} (o : RowA g w k b T c l live hf) (q : g.le g') (hs : g.s k l.length = some b) (hw : w'.heap[b]? = w.heap[b]?) (hh : live = true → g'.h b = g.h b) : RowA g' w' k b T c l live hf := by
  obtain ⟨cs, h1, h2, h3, h4⟩ := o
  have hc := (q.s _ _ _ hs).2
  refine ⟨cs, ?_, by rw [hc]; exact h2, h3, ?_⟩
  · cases hf
    · exact Vc.mono c l _ _ cs q h1
    · exact Vc.mono c l _ _ cs q.z h1
  · rw [hc]
    cases live
    · exact Sl.mono q.h h4
    · refine Ow.keep h4 (fun g0 hg => ?_) fun g0 hg => ?_
      · simp only [hd, Value.ownBlock, Option.some.injEq] at hg; subst hg; exact hw
      · simp only [hd, Value.ownBlock, Option.some.injEq] at hg; subst hg; exact hh rfl
/-- Nothing that is kept has turned. -/
theorem RelH.keep {g : Gh} {H : AS} {w w' : World} (R : RelH g H w) (hi : Imm g.h w') (hw : ∀ b, img g b → w'.heap[b]? = w.heap[b]?) (hz : w.heap.size ≤ w'.heap.size) : RelH g H w' :=
  ⟨hi, fun k T c l live hf e b hb => (R.ob k T c l live hf e b hb).mono .rfl hb (hw b ⟨k, _, hb⟩) fun _ => rfl, R.ver, R.inj, fun k r b e => ⟨(R.lo k r b e).1, Nat.lt_of_lt_of_le (R.lo k r b e).2 hz⟩, R.mbK .rfl fun k _ e _ => ⟨e, fun b hb => ⟨hb, hw b ⟨k, _, hb⟩, rfl⟩⟩⟩
theorem RelH.below {g : Gh} {H : AS} {w w' : World} (R : RelH g H w) (b : Below w.heap.size w w') : RelH g H w' :=
  R.keep (R.im.below b) (fun k ⟨_, _, e⟩ => b.block k (R.lo _ _ _ e).2) b.size
theorem RelH.free {g : Gh} {H : AS} {w : World} (R : RelH g H w) {k : Nat} {T : TypeId} {c : Nat} {l : List AV} {hf : Bool} (e : H[k]? = some (.row T c l true hf)) {b : Nat} (hb : g.s k l.length = some b) : g.h b = none := by
  obtain ⟨cs, _, _, _, o⟩ := R.ob _ _ _ _ _ _ e b hb
  exact Ow.free o b rfl
/-- What is read of an object. -/
theorem RelH.cell {g : Gh} {H : AS} {w : World} (R : RelH g H w) {k : Nat} {T : TypeId} {c : Nat} {l : List AV} {live hf : Bool} (e : H[k]? = some (.row T c l live hf)) {b : Nat} (hb : g.s k l.length = some b) {i : Nat} {x : AV} (hx : l[i]? = some x) :
    ∃ u, V x (if hf then g.z else g) u ∧ u.cells.size = c ∧ (∀ j, j < c → w.cell? ⟨b, i * c + j, none⟩ = u.cells[j]?) ∧ (live = true → ∀ j, w.frozen? ⟨b, j, none⟩ = false) := by
  obtain ⟨cs, h1, h2, h3, h4⟩ := R.ob _ _ _ _ _ _ e b hb
  obtain ⟨u, v1, v2, v3⟩ := h1.at i x hx
  have hi : i < l.length := (List.getElem?_eq_some_iff.1 hx).1
  have hl := h1.len
  have hj : ∀ j, j < c → i * c + j < cs.length := fun j hj => by
    rw [hl]
    have : (i + 1) * c ≤ l.length * c := Nat.mul_le_mul_right _ hi
    rw [Nat.succ_mul] at this; omega
  refine ⟨u, v1, v2, fun j h => ?_, fun hlive => ?_⟩
  · rw [← v3 j h, List.getElem?_eq_getElem (hj j h)]
    cases live
    · obtain ⟨b', off, e1, -, q⟩ := Sl.cells h4 R.im (by omega)
      simp only [Option.some.injEq, Addr.mk.injEq, and_true] at e1
      obtain ⟨rfl, rfl⟩ := e1
      have := q (i * c + j) _ (List.getElem?_eq_getElem (hj j h))
      simpa using this
    · obtain ⟨g', e1, -, -, -, q, -⟩ := Ow.cell h4 (by omega)
      simp only [Option.some.injEq, Addr.mk.injEq, and_true] at e1
      subst e1
      exact q _ _ (List.getElem?_eq_getElem (hj j h))
  · subst hlive
    obtain ⟨g', e1, -, -, -, -, q⟩ := Ow.cell h4 (by omega)
    simp only [Option.some.injEq, Addr.mk.injEq, and_true] at e1
    subst e1
    exact q
/-- A new object. -/
def Gh.put (g : Gh) (k r b cp : Nat) : Gh := ⟨g.h, fun k' r' => if k' = k ∧ r' = r then some b else g.s k' r', fun k' r' => if k' = k ∧ r' = r then cp else g.cp k' r', g.sn⟩
theorem Gh.le_put {g : Gh} {k r b cp : Nat} (hk : g.s k r = none) : g.le (g.put k r b cp) :=
  ⟨Hp.le_refl _, fun k' r' b' e => by
    refine ⟨?_, ?_⟩
    · show (if _ then _ else _) = _
      rw [if_neg]; exact e
      rintro ⟨rfl, rfl⟩; rw [hk] at e; cases e
    · show (if _ then _ else _) = _
      rw [if_neg]
      rintro ⟨rfl, rfl⟩; rw [hk] at e; (cases e), fun _ _ _ _ => Nat.le_refl _⟩
/-- How objects go on: they keep their form and do not shrink; one that has not grown has no new block. -/
def EX (g : Gh) (H : AS) (g' : Gh) (H' : AS) : Prop := H.length ≤ H'.length ∧ ∀ (k : Nat) T c l live hf, H[k]? = some (.row T c l live hf) → ∃ l' live', H'[k]? = some (.row T c l' live' hf) ∧ l.length ≤ l'.length ∧ (l'.length = l.length → ∀ r, g'.s k r = g.s k r)
theorem EX.rfl {g : Gh} {H : AS} : EX g H g H := ⟨Nat.le_refl _, fun _ _ _ l live _ e => ⟨l, live, e, Nat.le_refl _, fun _ _ => Eq.refl _⟩⟩
theorem EX.trans {g g1 g2 : Gh} {H H1 H2 : AS} (a : EX g H g1 H1) (b : EX g1 H1 g2 H2) : EX g H g2 H2 := ⟨Nat.le_trans a.1 b.1, fun k T c l live hf e => by
  obtain ⟨l1, v1, e1, n1, s1⟩ := a.2 k T c l live hf e
  obtain ⟨l2, v2, e2, n2, s2⟩ := b.2 k T c l1 v1 hf e1
  exact ⟨l2, v2, e2, Nat.le_trans n1 n2, fun h r => (s2 (by omega) r).trans (s1 (by omega) r)⟩⟩
theorem EX.set {g g' : Gh} {H : AS} {k : Nat} {T : TypeId} {c : Nat} {l l' : List AV} {live live' hf : Bool} (e : H[k]? = some (.row T c l live hf)) (hl : l'.length = l.length) (hs : ∀ k r, g'.s k r = g.s k r) : EX g H g' (H.set k (.row T c l' live' hf)) := ⟨by simp, fun k1 T1 c1 l1 live1 hf1 e1 => by
  have hk : k < H.length := (List.getElem?_eq_some_iff.1 e).1
  by_cases h : k1 = k
  · subst h
    rw [e] at e1
    simp only [Option.some.injEq, AO.row.injEq] at e1
    obtain ⟨rfl, rfl, rfl, rfl, rfl⟩ := e1
    exact ⟨l', live', by rw [List.getElem?_set_self hk], by omega, fun _ r => hs _ r⟩
  · exact ⟨l1, live1, by rw [List.getElem?_set_ne (fun q => h q.symm)]; exact e1, Nat.le_refl _, fun _ r => hs _ r⟩⟩
theorem RelH.new {g : Gh} {H : AS} {w : World} (R : RelH g H w) (T : TypeId) (c : Nat) (l : List AV) (hf : Bool) (cs : List Value) (hl : Vc c l (if hf then g.z else g) cs) (hn : l.length ≤ 140737488355328) :
    RelH (g.put H.length l.length w.heap.size l.length) (H ++ [.row T c l true hf]) (w.alloc (.cells cs.toArray T)) ∧ g.le (g.put H.length l.length w.heap.size l.length) ∧ TX g w (g.put H.length l.length w.heap.size l.length) (w.alloc (.cells cs.toArray T)) ∧ EX g H (g.put H.length l.length w.heap.size l.length) (H ++ [.row T c l true hf]) := by
  have hk : ∀ r', g.s H.length r' = none := fun r' => by
    cases e : g.s H.length r' with
    | none => rfl
    | some b => have := (R.lo _ _ _ e).1; omega
  have q : g.le (g.put H.length l.length w.heap.size l.length) := Gh.le_put (hk _)
  have hst : ∀ k r' b, (g.put H.length l.length w.heap.size l.length).s k r' = some b → (k = H.length ∧ r' = l.length ∧ b = w.heap.size) ∨ g.s k r' = some b := fun k r' b e => by
    have e : (if k = H.length ∧ r' = l.length then some w.heap.size else g.s k r') = some b := e
    split at e
    · rename_i h; exact .inl ⟨h.1, h.2, (Option.some.inj e).symm⟩
    · exact .inr e
  refine ⟨⟨R.im.alloc _, fun k T' c' l' live' hf' e b hb => ?_, fun k T' c' l' live' hf' e r2 h2 => ?_, fun k r1 k' r2 b e1 e2 => ?_, fun k r' b e => ?_, R.mbK q fun k o e hm => ?_⟩, q, ⟨(Tu.refl _ _).alloc _, fun b ⟨k, r', e⟩ => (hst _ _ _ e).elim (fun h => .inr (Nat.le_of_eq h.2.2.symm)) fun h => .inl ⟨k, r', h⟩, fun _ => .inl rfl⟩, by simp, fun k T' c' l' live' hf' e => ?_⟩
  rotate_right
  · have hlt := (List.getElem?_eq_some_iff.1 e).1
    refine ⟨l', live', by rw [List.getElem?_append_left hlt]; exact e, Nat.le_refl _, fun _ r => ?_⟩
    show (if _ then _ else _) = _
    rw [if_neg (by omega)]
  · rcases hst _ _ _ hb with ⟨rfl, -, rfl⟩ | hb
    · rw [List.getElem?_append_right (Nat.le_refl _), Nat.sub_self] at e
      simp only [List.getElem?_cons_zero, Option.some.injEq, AO.row.injEq] at e
      obtain ⟨rfl, rfl, rfl, rfl, rfl⟩ := e
      refine ⟨cs, ?_, ?_, hn, ?_⟩
      · cases hf
        · exact Vc.mono c l _ _ cs q hl
        · exact Vc.mono c l _ _ cs q.z hl
      · show _ ≤ if _ then _ else _
        rw [if_pos ⟨rfl, rfl⟩]; exact Nat.le_refl _
      · show Ow _ _ _ _ _ (hd _ _ (if _ then _ else _)) _ _
        rw [if_pos ⟨rfl, rfl⟩]
        exact own_lit R.im (Nat.zero_le _) cs l.length c T (by unfold maxLen; omega) hl.len
    · have hlt := R.lo _ _ _ hb
      rw [List.getElem?_append_left hlt.1] at e
      exact (R.ob _ _ _ _ _ _ e b hb).mono q hb (Below.heap_alloc _ _ _ hlt.2) fun _ => rfl
  · cases e3 : (g.put H.length l.length w.heap.size l.length).s k r2 with
    | none => rfl
    | some b =>
      rcases hst _ _ _ e3 with ⟨rfl, rfl, rfl⟩ | hb
      · rw [List.getElem?_append_right (Nat.le_refl _), Nat.sub_self] at e
        simp only [List.getElem?_cons_zero, Option.some.injEq, AO.row.injEq] at e
        obtain ⟨-, -, rfl, -, -⟩ := e
        omega
      · have hlt := R.lo _ _ _ hb
        rw [List.getElem?_append_left hlt.1] at e
        rw [R.ver _ _ _ _ _ _ e r2 h2] at hb; cases hb
  · rcases hst _ _ _ e1 with ⟨rfl, rfl, rfl⟩ | h1 <;> rcases hst _ _ _ e2 with ⟨rfl, rfl, h⟩ | h2
    · rfl
    · have := (R.lo _ _ _ h2).2; omega
    · subst h; have := (R.lo _ _ _ h1).2; omega
    · exact R.inj _ _ _ _ _ h1 h2
  · rw [List.length_append, List.length_singleton]
    rcases hst _ _ _ e with ⟨rfl, rfl, rfl⟩ | h
    · simp
    · have := R.lo _ _ _ h; simp; omega
  · have hlt : k < H.length := by
      rcases Nat.lt_or_ge k H.length with h | h
      · exact h
      · rw [List.getElem?_append_right h] at e
        rcases Nat.eq_zero_or_pos (k - H.length) with h0 | h0
        · rw [h0] at e; simp at e; subst e; cases hm
        · rw [List.getElem?_eq_none (by simp; omega)] at e; cases e
    rw [List.getElem?_append_left hlt] at e
    refine ⟨e, fun b hb => ?_⟩
    rcases hst _ _ _ hb with ⟨rfl, _⟩ | hb
    · omega
    · exact ⟨hb, Below.heap_alloc _ _ _ (R.lo _ _ _ hb).2, rfl⟩
/-- A row is turned: maps stay. -/
theorem RelH.mbS {g g' : Gh} {H : AS} {w w' : World} (R : RelH g H w) (q : g.le g') {k : Nat} {T T' : TypeId} {c c' : Nat} {l l' : List AV} {live hf live' hf' : Bool} (e : H[k]? = some (.row T c l live hf)) (h : ∀ (k1 : Nat) b, k1 ≠ k → g'.s k1 0 = some b → g.s k1 0 = some b ∧ w'.heap[b]? = w.heap[b]? ∧ g'.sn k1 = g.sn k1) : ∀ (k1 : Nat) o, (H.set k (.row T' c' l' live' hf'))[k1]? = some o → ∀ b, g'.s k1 0 = some b → ObjM g' w' k1 b o :=
  R.mbK q fun k1 o e1 hm => by
    by_cases hk : k1 = k
    · subst hk
      rw [List.getElem?_set_self (List.getElem?_eq_some_iff.1 e).1] at e1
      obtain rfl := Option.some.inj e1
      cases hm
    · rw [List.getElem?_set_ne (fun e2 => hk e2.symm)] at e1
      exact ⟨e1, fun b hb => h k1 b hk hb⟩
/-- A row comes, without a block. -/
theorem RelH.mbV {g : Gh} {H : AS} {w : World} (R : RelH g H w) (x : AO) : ∀ (k : Nat) o, (H ++ [x])[k]? = some o → ∀ b, g.s k 0 = some b → ObjM g w k b o := fun k o e b hb => by
  rw [List.getElem?_append_left (R.lo _ _ _ hb).1] at e
  exact R.mb k o e b hb
theorem Gh.put_s (g : Gh) (k r b cp : Nat) : (g.put k r b cp).s k r = some b ∧ (g.put k r b cp).cp k r = cp := by
  constructor
  · show (if _ then _ else _) = _
    rw [if_pos ⟨rfl, rfl⟩]
  · show (if _ then _ else _) = _
    rw [if_pos ⟨rfl, rfl⟩]
end Go.Proofs.YtlgdojkmbfbnjaaGreatDoor

namespace Go.Proofs.YtlgdojkmbfbnjaaGreatDoor
open Go.RowKit

def wrL {α : Type} : List α → Nat → List α → List α
  | l, _, [] => l
  | l, o, v :: r => wrL (l.set o v) (o + 1) r
theorem wrL_len {α : Type} : ∀ (vs l : List α) (o : Nat), (wrL l o vs).length = l.length
  | [], l, o => rfl
  | v :: r, l, o => by rw [wrL, wrL_len r]; simp
theorem wrL_left {α : Type} : ∀ (vs a r : List α) (o : Nat), o + vs.length ≤ a.length → wrL (a ++ r) o vs = wrL a o vs ++ r
  | [], a, r, o, _ => rfl
  | v :: vs, a, r, o, h => by
    simp only [List.length_cons] at h
    rw [wrL, wrL, List.set_append_left _ _ (by omega), wrL_left vs _ _ _ (by simp; omega)]
theorem wrL_right {α : Type} : ∀ (vs a r : List α) (o : Nat), wrL (a ++ r) (a.length + o) vs = a ++ wrL r o vs
  | [], a, r, o => rfl
  | v :: vs, a, r, o => by
    rw [wrL, wrL, List.set_append_right _ _ (by omega), Nat.add_sub_cancel_left, Nat.add_assoc, wrL_right vs]
theorem Vs.setL : ∀ {vs : List Value} {ys : List AV} {l : List AV} {us : List Value} {g : Gh} {o : Nat}, Vs l g us → Vs ys g vs → Vs (wrL l o ys) g (wrL us o vs)
  | vs, [], l, us, g, o, h, k => by rw [Vs] at k; subst k; exact h
  | vs, y :: ys, l, us, g, o, h, k => by
    rw [Vs] at k; obtain ⟨v, r, rfl, a, b⟩ := k
    exact (h.set o y v a).setL b
theorem Vc.setL {c : Nat} {g : Gh} {vs : List Value} {x' : AV} {j : Nat} : ∀ {l : List AV} {cs : List Value}, Vc c l g cs → ∀ (i : Nat) (x : AV), l[i]? = some x → (∀ u, V x g u → u.cells.size = c → ∃ u', V x' g u' ∧ u'.cells.toList = wrL u.cells.toList j vs) → j + vs.length ≤ c →
    Vc c (l.set i x') g (wrL cs (i * c + j) vs)
  | [], _, _, i, x, e, _, _ => by simp at e
  | y :: l, cs, h, 0, x, e, hx, hj => by
    rw [Vc] at h; obtain ⟨v, r, rfl, z, a, b⟩ := h; simp at e; subst e
    obtain ⟨u', q1, q2⟩ := hx v a z
    rw [List.set_cons_zero, Vc, Nat.zero_mul, Nat.zero_add, wrL_left _ _ _ _ (by simp; omega)]
    refine ⟨u', r, by rw [q2], ?_, q1, b⟩
    rw [← Array.length_toList, q2, wrL_len]; simpa using z
  | y :: l, cs, h, i + 1, x, e, hx, hj => by
    rw [Vc] at h; obtain ⟨v, r, rfl, z, a, b⟩ := h
    have z2 : v.cells.toList.length = c := by rw [Array.length_toList, z]
    rw [List.set_cons_succ, Vc, show (i + 1) * c + j = v.cells.toList.length + (i * c + j) by rw [z2, Nat.succ_mul]; omega, wrL_right]
    exact ⟨v, _, rfl, z, a, b.setL i x (by simpa using e) hx hj⟩
/-- One cell. -/
def AV.ok1 : AV → Bool
  | .vl v => v.oneCell'
  | .top | .ag _ | .tu _ => false
  | _ => true
theorem V.ok1 {x : AV} {g : Gh} {v : Value} (h : V x g v) (o : x.ok1 = true) : v.oneCell' = true := by
  cases x <;> simp only [AV.ok1, reduceCtorEq] at o <;> rw [V] at h
  · subst h; exact o
  · obtain ⟨cs, ⟨a, n, e, _⟩, _⟩ := h; subst e; rfl
  · rcases h with ⟨_, _, _, e⟩ | ⟨b, cap, _, ⟨o, e, _⟩, _⟩ <;> subst e <;> rfl
  · obtain ⟨b, _, e⟩ := h; subst e; rfl
  · obtain ⟨b, o, c, u, e, _⟩ := h; subst e; rfl
  · obtain ⟨vs, e, _⟩ := h; subst e; rfl
  · obtain ⟨vs, e, _⟩ := h; subst e; rfl
  · obtain ⟨b, o, _, e, _⟩ := h; subst e; rfl
  · obtain ⟨b, _, e⟩ := h; subst e; rfl
  · obtain ⟨b, _, e⟩ := h; subst e; rfl
def AV.okc (x : AV) : Bool := x.cells.all AV.ok1
/-- The cells of a value. -/
theorem V.cells {x : AV} {g : Gh} {v : Value} (h : V x g v) (o : x.okc = true) : Vs x.cells g v.cells.toList := by
  cases x with
  | ag l => rw [V] at h; obtain ⟨vs, rfl, s⟩ := h; simpa [AV.cells, Value.cells] using s
  | _ =>
    have h1 := h.ok1 (by simpa [AV.okc, AV.cells] using o)
    have : v.cells = #[v] := by cases v <;> simp_all [Value.cells, Value.oneCell']
    simp only [AV.cells, this]
    rw [Vs]
    exact ⟨v, [], rfl, h, by rw [Vs]⟩
theorem Vs.ok1 : ∀ {l : List AV} {g : Gh} {vs : List Value}, Vs l g vs → l.all AV.ok1 = true → ∀ v ∈ vs, v.oneCell' = true
  | [], _, _, h, _, v, hv => by rw [Vs] at h; subst h; cases hv
  | x :: l, g, vs, h, o, v, hv => by
    rw [Vs] at h; obtain ⟨u, r, rfl, a, b⟩ := h
    simp only [List.all_cons, Bool.and_eq_true] at o
    rcases List.mem_cons.1 hv with rfl | hv
    · exact a.ok1 o.1
    · exact b.ok1 o.2 v hv
/-- Without objects. -/
def AV.hf : AV → Bool
  | .top | .vl _ | .im _ _ | .pi _ _ => true
  | _ => false
def AV.hfc : AV → Bool
  | .ag l => l.all AV.hf
  | x => x.hf
theorem V.hf {x : AV} {g : Gh} {v : Value} (h : V x g v) (o : x.hf = true) : V x g.z v := by
  cases x <;> simp only [AV.hf, reduceCtorEq] at o <;> rw [V] at h ⊢ <;> exact h
theorem Vs.hf : ∀ {l : List AV} {g : Gh} {vs : List Value}, Vs l g vs → l.all AV.hf = true → Vs l g.z vs
  | [], _, _, h, _ => by rw [Vs] at h ⊢; exact h
  | x :: l, g, vs, h, o => by
    rw [Vs] at h ⊢; obtain ⟨u, r, e, a, b⟩ := h
    simp only [List.all_cons, Bool.and_eq_true] at o
    exact ⟨u, r, e, a.hf o.1, b.hf o.2⟩
theorem V.hfc {x : AV} {g : Gh} {v : Value} (h : V x g v) (o : x.hfc = true) : V x g.z v := by
  cases x with
  | ag l => rw [V] at h ⊢; obtain ⟨vs, e, s⟩ := h; exact ⟨vs, e, s.hf o⟩
  | _ => exact h.hf o
/-- y is stored into element x, from cell j on. -/
def AV.put (x : AV) (j : Nat) (y : AV) : AV :=
  match x with
  | .ag l => .ag (wrL l j y.cells)
  | _ => y
theorem AV.put_ok {x y : AV} {j c : Nat} {g : Gh} {v u : Value} (hx : V x g u) (hu : u.cells.size = c) (hv : V y g v) (o : y.okc = true) (hag : (∃ l, x = .ag l) ∨ (c = 1 ∧ j = 0 ∧ y.ok1 = true)) : ∃ u', V (x.put j y) g u' ∧ u'.cells.toList = wrL u.cells.toList j v.cells.toList := by
  by_cases hl : ∃ l, x = .ag l
  · obtain ⟨l, rfl⟩ := hl
    rw [V] at hx
    obtain ⟨us, rfl, s⟩ := hx
    have := s.setL (hv.cells o) (o := j)
    refine ⟨.agg (wrL us j v.cells.toList).toArray, ?_, by simp [Value.cells]⟩
    simp only [AV.put]
    rw [V]
    exact ⟨_, rfl, this⟩
  · rcases hag with h | ⟨rfl, rfl, h⟩
    · exact absurd h hl
    · have e : x.put 0 y = y := by cases x <;> first | rfl | exact absurd ⟨_, rfl⟩ hl
      have hc : v.cells = #[v] := by have := hv.ok1 h; cases v <;> simp_all [Value.cells, Value.oneCell']
      refine ⟨v, by rw [e]; exact hv, ?_⟩
      rw [hc]
      have : ∃ q, u.cells.toList = [q] := List.length_eq_one_iff.1 (by simpa using hu)
      obtain ⟨q, hq⟩ := this
      rw [hq]; rfl
theorem Ow.setCells {B : Nat} {e : TypeId} {k g n cap : Nat} {h : Hp} : ∀ (vs : List Value) {w : World} {xs : List Value} (_ : Ow w h B e k (.slice (some ⟨g, 0, none⟩) n cap) n xs) (i : Nat) (_ : i + vs.length ≤ n * k), Ow (w.setCells g i vs) h B e k (.slice (some ⟨g, 0, none⟩) n cap) n (wrL xs i vs)
  | [], _, _, o, _, _ => o
  | v :: r, w, xs, o, i, hi => Ow.setCells r (o.set i v (by simp at hi; omega)) (i + 1) (by simp at hi; omega)
theorem setCells_heap (b : Nat) : ∀ (vs : List Value) (o : Nat) (w : World) (k : Nat), k ≠ b → (w.setCells b o vs).heap[k]? = w.heap[k]?
  | [], _, _, _, _ => rfl
  | v :: r, o, w, k, h => by
    rw [World.setCells, setCells_heap b r _ _ k h]
    exact Below.heap_setCell _ _ _ _ fun e => h e
theorem setCells_tu {S : Nat → Prop} {b : Nat} (hb : S b) : ∀ (vs : List Value) (o : Nat) (w w0 : World), Tu S w0 w → Tu S w0 (w.setCells b o vs)
  | [], _, _, _, t => t
  | v :: r, o, _, w0, t => setCells_tu hb r (o + 1) _ w0 (t.set (p := ⟨b, o, none⟩) (.inl hb) v)
/-- Behind a store. -/
theorem RelH.store {g : Gh} {H : AS} {w : World} (R : RelH g H w) {k : Nat} {T : TypeId} {c : Nat} {l : List AV} {hf : Bool} (e : H[k]? = some (.row T c l true hf)) {b : Nat} (hb : g.s k l.length = some b) {i j : Nat} {x y : AV} (hx : l[i]? = some x) {v : Value} (hv : V y g v) (o : y.okc = true) (hh : hf = true → y.hfc = true)
    (hag : (∃ l, x = .ag l) ∨ (c = 1 ∧ j = 0 ∧ y.ok1 = true)) (hj : j + v.cells.size ≤ c) :
    RelH g (H.set k (.row T c (l.set i (x.put j y)) true hf)) (w.setCells b (i * c + j) v.cells.toList) ∧ TX g w g (w.setCells b (i * c + j) v.cells.toList) ∧ EX g H g (H.set k (.row T c (l.set i (x.put j y)) true hf)) := by
  have T0 := setCells_tu (S := img g) ⟨k, _, hb⟩ v.cells.toList (i * c + j) w w (Tu.refl _ _)
  have hfr := R.free e hb
  have hk : k < H.length := (List.getElem?_eq_some_iff.1 e).1
  have nb : ∀ q, q ≠ b → (w.setCells b (i * c + j) v.cells.toList).heap[q]? = w.heap[q]? := fun q h => setCells_heap b _ _ _ _ h
  refine ⟨⟨R.im.keep fun q cc hq => nb q fun e2 => (by subst e2; rw [hfr] at hq; cases hq), fun k' T' c' l' live' hf' e' b' hb' => ?_, fun k' T' c' l' live' hf' e' => ?_, R.inj, fun k' r' b' e' => ?_, R.mbS .rfl e fun k1 b1 hk1 hb1 => ⟨hb1, nb b1 fun e2 => hk1 (by subst e2; exact R.inj _ _ _ _ _ hb1 hb), rfl⟩⟩, ⟨T0, fun _ h => .inl h, fun _ => .inl rfl⟩, EX.set e (by simp) fun _ _ => rfl⟩
  · by_cases hkk : k' = k
    · subst hkk
      rw [List.getElem?_set_self hk] at e'
      simp only [Option.some.injEq, AO.row.injEq] at e'
      obtain ⟨rfl, rfl, rfl, rfl, rfl⟩ := e'
      rw [List.length_set, hb] at hb'
      obtain rfl := Option.some.inj hb'
      obtain ⟨cs, h1, h2, h3, h4⟩ := R.ob _ _ _ _ _ _ e b hb
      have hil : i < l.length := (List.getElem?_eq_some_iff.1 hx).1
      have hmul : (i + 1) * c ≤ l.length * c := Nat.mul_le_mul_right _ hil
      rw [Nat.succ_mul] at hmul
      have hvl : v.cells.toList.length = v.cells.size := Array.length_toList
      refine ⟨wrL cs (i * c + j) v.cells.toList, h1.setL i x hx (fun u hu hz => ?_) (by rw [hvl]; exact hj), by simpa using h2, by simpa using h3, ?_⟩
      · cases hf
        · exact AV.put_ok hu hz hv o hag
        · exact AV.put_ok hu hz (hv.hfc (hh rfl)) o hag
      · rw [List.length_set]
        exact Ow.setCells _ h4 _ (by rw [hvl]; omega)
    · rw [List.getElem?_set_ne (fun e2 => hkk e2.symm)] at e'
      refine (R.ob _ _ _ _ _ _ e' b' hb').mono .rfl hb' (nb b' fun e2 => ?_) fun _ => rfl
      subst e2
      exact hkk (R.inj _ _ _ _ _ hb' hb)
  · by_cases hkk : k' = k
    · subst hkk
      rw [List.getElem?_set_self hk] at e'
      simp only [Option.some.injEq, AO.row.injEq] at e'
      obtain ⟨rfl, rfl, rfl, rfl, rfl⟩ := e'
      rw [List.length_set]
      exact R.ver _ _ _ _ _ _ e
    · rw [List.getElem?_set_ne (fun e2 => hkk e2.symm)] at e'
      exact R.ver _ _ _ _ _ _ e'
  · have := R.lo _ _ _ e'
    rw [List.length_set]
    exact ⟨this.1, Nat.lt_of_lt_of_le this.2 T0.size⟩
end Go.Proofs.YtlgdojkmbfbnjaaGreatDoor

namespace Go.Proofs.YtlgdojkmbfbnjaaGreatDoor
open Go.RowKit

/-- The row behind a whole slice. -/
theorem RelH.ow {g : Gh} {H : AS} {w : World} (R : RelH g H w) {k : Nat} {T : TypeId} {c : Nat} {l : List AV} {hf : Bool} (e : H[k]? = some (.row T c l true hf)) {v : Value} (hv : V (.rf c k l.length 0 l.length) g v) :
    ∃ cs, Vc c l (if hf then g.z else g) cs ∧ Ow w g.h 0 T c v l.length cs ∧ ∀ b, v.ownBlock = some b → g.s k l.length = some b := by
  rw [V] at hv
  rcases hv with ⟨h1, -, -, rfl⟩ | ⟨b, cap, hb, ⟨o, rfl, ho⟩, h2, h3⟩
  · obtain rfl := List.eq_nil_of_length_eq_zero h1
    exact ⟨[], by rw [Vc], Ow.nil _ _ _ _ _, fun b hb => by simp [Value.ownBlock] at hb⟩
  · obtain ⟨cs, q1, -, -, q4⟩ := R.ob _ _ _ _ _ _ e b hb
    rw [Nat.zero_add] at h2
    subst h2
    have ho : o = 0 := by
      rcases ho with h | h
      · omega
      · rw [h, Nat.zero_mul]
    subst ho
    refine ⟨cs, q1, q4, fun b' hb' => ?_⟩
    simp only [Value.ownBlock, Option.some.injEq] at hb'
    rw [← hb']; exact hb
theorem RelH.append {g : Gh} {H : AS} {w w' : World} (R : RelH g H w) {k : Nat} {T : TypeId} {c : Nat} {l ys : List AV} {hf : Bool} (e : H[k]? = some (.row T c l true hf)) {v v' : Value} {cs news : List Value} (h1 : Vc c l (if hf then g.z else g) cs)
    (hb : ∀ b, v.ownBlock = some b → g.s k l.length = some b) (hy : Vc c ys (if hf then g.z else g) news) (hm : 0 < ys.length) (hz : l.length + ys.length ≤ 140737488355328) (o : Ow w' g.h 0 T c v' (l.length + ys.length) (cs ++ news)) (gr : w.grownBy w' v.ownBlock)
    (bk : v'.ownBlock = v.ownBlock ∨ v'.ownBlock = some w.heap.size) :
    ∃ g', g.le g' ∧ RelH g' (H.set k (.row T c (l ++ ys) true hf)) w' ∧ TX g w g' w' ∧ V (.rf c k (l.length + ys.length) 0 (l.length + ys.length)) g' v' ∧ EX g H g' (H.set k (.row T c (l ++ ys) true hf)) := by
  have hk : k < H.length := (List.getElem?_eq_some_iff.1 e).1
  obtain ⟨b', cap', rfl, hcap⟩ : ∃ b' cap', v' = .slice (some ⟨b', 0, none⟩) (l.length + ys.length) cap' ∧ l.length + ys.length ≤ cap' := by
    rcases o.row.2 with ⟨_, h⟩ | ⟨b', cap', cur, e1, -, -, q, -⟩
    · omega
    · exact ⟨b', cap', e1, q⟩
  have hbk : b' = w.heap.size ∨ g.s k l.length = some b' := by
    rcases bk with bk | bk
    · exact .inr (hb b' bk.symm)
    · exact .inl (Option.some.inj bk)
  have hnone : g.s k (l.length + ys.length) = none := R.ver _ _ _ _ _ _ e _ (by omega)
  have q : g.le (g.put k (l.length + ys.length) b' cap') := Gh.le_put hnone
  have hst : ∀ k1 r1 b1, (g.put k (l.length + ys.length) b' cap').s k1 r1 = some b1 → (k1 = k ∧ r1 = l.length + ys.length ∧ b1 = b') ∨ g.s k1 r1 = some b1 := fun k1 r1 b1 e1 => by
    have e1 : (if k1 = k ∧ r1 = l.length + ys.length then some b' else g.s k1 r1) = some b1 := e1
    split at e1
    · rename_i h; exact .inl ⟨h.1, h.2, (Option.some.inj e1).symm⟩
    · exact .inr e1
  have own : ∀ b0, v.ownBlock = some b0 → g.h b0 = none := fun b0 h => R.free e (hb b0 h)
  have far : ∀ k1 r1 b1, k1 ≠ k → g.s k1 r1 = some b1 → w'.heap[b1]? = w.heap[b1]? ∧ b1 ≠ b' := fun k1 r1 b1 hne h => by
    have hlo := (R.lo _ _ _ h).2
    refine ⟨gr.block b1 hlo fun e2 => hne (R.inj _ _ _ _ _ h (hb b1 e2.symm)), fun e2 => ?_⟩
    subst e2
    rcases hbk with h2 | h2
    · omega
    · exact hne (R.inj _ _ _ _ _ h h2)
  have hsz : b' < w'.heap.size := (o.lt b' rfl).2
  refine ⟨_, q, ⟨R.im.keep fun b1 cc hc => gr.block b1 (blk_lt (R.im b1 cc hc)) fun e2 => (by rw [own b1 e2.symm] at hc; cases hc), fun k1 T1 c1 l1 live1 hf1 e1 b1 hb1 => ?_, fun k1 T1 c1 l1 live1 hf1 e1 r1 hr1 => ?_, fun k1 r1 k2 r2 b1 e1 e2 => ?_, fun k1 r1 b1 e1 => ?_, R.mbS q e fun k1 b1 hk1 hb1 => (hst _ _ _ hb1).elim (fun h => absurd h.1 hk1) fun h => ⟨h, (far _ _ _ hk1 h).1, rfl⟩⟩, ⟨⟨gr.os, gr.tape, gr.output, gr.size, fun b1 h2 hn => gr.block b1 h2 fun e2 => hn ⟨k, _, hb b1 e2.symm⟩⟩, fun b1 ⟨k1, r1, e1⟩ => (hst _ _ _ e1).elim (fun h => hbk.elim (fun h2 => .inr (by rw [h.2.2, h2]; exact Nat.le_refl _)) fun h2 => .inl ⟨k, l.length, h2.trans (congrArg some h.2.2.symm)⟩) fun h => .inl ⟨k1, r1, h⟩, fun _ => .inl rfl⟩, ?_, by simp, fun k1 T1 c1 l1 live1 hf1 e1 => ?_⟩
  rotate_right
  · by_cases hkk : k1 = k
    · subst hkk
      rw [e] at e1
      simp only [Option.some.injEq, AO.row.injEq] at e1
      obtain ⟨rfl, rfl, rfl, rfl, rfl⟩ := e1
      exact ⟨l ++ ys, true, by rw [List.getElem?_set_self hk], by simp, fun h => by rw [List.length_append] at h; omega⟩
    · refine ⟨l1, live1, by rw [List.getElem?_set_ne (fun q => hkk q.symm)]; exact e1, Nat.le_refl _, fun _ r => ?_⟩
      show (if _ then _ else _) = _
      rw [if_neg (fun q => hkk q.1)]
  · by_cases hkk : k1 = k
    · subst hkk
      rw [List.getElem?_set_self hk] at e1
      simp only [Option.some.injEq, AO.row.injEq] at e1
      obtain ⟨rfl, rfl, rfl, rfl, rfl⟩ := e1
      rw [List.length_append, (Gh.put_s _ _ _ _ _).1] at hb1
      obtain rfl := Option.some.inj hb1
      refine ⟨cs ++ news, ?_, ?_, by rw [List.length_append]; exact hz, ?_⟩
      · cases hf
        · exact (Vc.mono c l _ _ cs q h1).app (Vc.mono c ys _ _ news q hy)
        · exact (Vc.mono c l _ _ cs q.z h1).app (Vc.mono c ys _ _ news q.z hy)
      · rw [List.length_append, (Gh.put_s _ _ _ _ _).2]; exact hcap
      · rw [List.length_append, (Gh.put_s _ _ _ _ _).2]; exact o
    · rw [List.getElem?_set_ne (fun e2 => hkk e2.symm)] at e1
      rcases hst _ _ _ hb1 with ⟨h, -, -⟩ | h
      · exact absurd h hkk
      · exact (R.ob _ _ _ _ _ _ e1 b1 h).mono q h (far _ _ _ hkk h).1 fun _ => rfl
  · by_cases hkk : k1 = k
    · subst hkk
      rw [List.getElem?_set_self hk] at e1
      simp only [Option.some.injEq, AO.row.injEq] at e1
      obtain ⟨rfl, rfl, rfl, rfl, rfl⟩ := e1
      rw [List.length_append] at hr1
      cases e3 : (g.put k1 (l.length + ys.length) b' cap').s k1 r1 with
      | none => rfl
      | some b2 =>
        rcases hst _ _ _ e3 with ⟨_, h, _⟩ | h
        · omega
        · rw [R.ver _ _ _ _ _ _ e r1 (by omega)] at h; cases h
    · rw [List.getElem?_set_ne (fun e2 => hkk e2.symm)] at e1
      cases e3 : (g.put k (l.length + ys.length) b' cap').s k1 r1 with
      | none => rfl
      | some b2 =>
        rcases hst _ _ _ e3 with ⟨h, _, _⟩ | h
        · exact absurd h hkk
        · rw [R.ver _ _ _ _ _ _ e1 r1 hr1] at h; cases h
  · rcases hst _ _ _ e1 with ⟨h1, h2, h3⟩ | h1 <;> rcases hst _ _ _ e2 with ⟨h4, h5, h6⟩ | h4
    · rw [h1, h4]
    · subst h3
      rcases hbk with h7 | h7
      · have := (R.lo _ _ _ h4).2; omega
      · rw [h1]; exact R.inj _ _ _ _ _ h7 h4
    · subst h6
      rcases hbk with h7 | h7
      · have := (R.lo _ _ _ h1).2; omega
      · rw [h4]; exact R.inj _ _ _ _ _ h1 h7
    · exact R.inj _ _ _ _ _ h1 h4
  · rw [List.length_set]
    rcases hst _ _ _ e1 with ⟨rfl, rfl, rfl⟩ | h
    · exact ⟨hk, hsz⟩
    · have := R.lo _ _ _ h
      exact ⟨this.1, Nat.lt_of_lt_of_le this.2 gr.size⟩
  · rw [V]
    exact .inr ⟨b', cap', (Gh.put_s _ _ _ _ _).1, ⟨0, rfl, .inr (by rw [Nat.zero_mul])⟩, by rw [(Gh.put_s _ _ _ _ _).2, Nat.zero_add], hcap⟩
theorem sl_sub {h : Hp} {b N c : Nat} {cc : Array Value} {cs : List Value} (hb : h b = some cc) (hl : cs.length = N * c) (hN : N ≤ 140737488355328) (hc : ∀ i, i < N * c → cc[i]? = cs[i]?) {off n cap : Nat} (hn : off + n ≤ N) : Sl h (.slice (some ⟨b, off * c, none⟩) n cap) n c ((cs.drop (off * c)).take (n * c)) := by
  have h1 : (off + n) * c ≤ N * c := Nat.mul_le_mul_right _ hn
  rw [Nat.add_mul] at h1
  refine ⟨_, _, rfl, by omega, by rw [List.length_take, List.length_drop]; omega, .inr ⟨b, off * c, cc, rfl, hb, fun i hi => ?_⟩⟩
  rw [hc _ (by omega), List.getElem?_take, if_pos hi, List.getElem?_drop]
/-- A row is given up. -/
def Gh.fz (g : Gh) (w : World) (b : Nat) : Gh := ⟨fun q => if q = b then blk w b else g.h q, g.s, g.cp, g.sn⟩
theorem RelH.same {g : Gh} {H : AS} {w : World} (R : RelH g H w) {k : Nat} {T : TypeId} {c : Nat} {l : List AV} {live live' : Bool} (e : H[k]? = some (.row T c l live true)) (ho : ∀ b, g.s k l.length = some b → RowA g w k b T c l live' true) : RelH g (H.set k (.row T c l live' true)) w := by
  have hk : k < H.length := (List.getElem?_eq_some_iff.1 e).1
  refine ⟨R.im, fun k1 T1 c1 l1 live1 hf1 e1 b1 hb1 => ?_, fun k1 T1 c1 l1 live1 hf1 e1 => ?_, R.inj, fun k1 r1 b1 e1 => by rw [List.length_set]; exact R.lo _ _ _ e1, R.mbS .rfl e fun k1 b1 _ hb1 => ⟨hb1, rfl, rfl⟩⟩
  · by_cases hkk : k1 = k
    · subst hkk
      rw [List.getElem?_set_self hk] at e1
      simp only [Option.some.injEq, AO.row.injEq] at e1
      obtain ⟨rfl, rfl, rfl, rfl, rfl⟩ := e1
      exact ho b1 hb1
    · rw [List.getElem?_set_ne (fun e2 => hkk e2.symm)] at e1
      exact R.ob _ _ _ _ _ _ e1 b1 hb1
  · by_cases hkk : k1 = k
    · subst hkk
      rw [List.getElem?_set_self hk] at e1
      simp only [Option.some.injEq, AO.row.injEq] at e1
      obtain ⟨rfl, rfl, rfl, rfl, rfl⟩ := e1
      exact R.ver _ _ _ _ _ _ e
    · rw [List.getElem?_set_ne (fun e2 => hkk e2.symm)] at e1
      exact R.ver _ _ _ _ _ _ e1
/-- The block of a row is taken for unchanging. -/
theorem RelH.gr {g : Gh} {H : AS} {w : World} (R : RelH g H w) {k : Nat} {T : TypeId} {c : Nat} {l : List AV} {hf : Bool} (e : H[k]? = some (.row T c l true hf)) {b : Nat} (hb : g.s k l.length = some b) : g.le (g.fz w b) ∧ RelH (g.fz w b) (H.set k (.row T c l false hf)) w ∧ ∃ cs cc, Vc c l (if hf then (g.fz w b).z else g.fz w b) cs ∧ (g.fz w b).h b = some cc ∧ ∀ i, i < l.length * c → cc[i]? = cs[i]? := by
  have hk : k < H.length := (List.getElem?_eq_some_iff.1 e).1
  obtain ⟨cs, q1, q2, q3, q4⟩ := R.ob _ _ _ _ _ _ e b hb
  have q4 : Ow w g.h 0 T c (hd b l.length (g.cp k l.length)) l.length cs := q4
  have hfr := R.free e hb
  have q : g.le (g.fz w b) := ⟨fun b1 c1 h => by
    show (if _ then _ else _) = _
    rw [if_neg fun e2 => by subst e2; rw [hfr] at h; cases h]; exact h, fun _ _ _ h => ⟨h, rfl⟩, fun _ _ _ _ => Nat.le_refl _⟩
  obtain ⟨cc, h1, h2⟩ : ∃ cc, blk w b = some cc ∧ ∀ i, i < l.length * c → cc[i]? = cs[i]? := by
    rcases q4.row.2 with ⟨h, _⟩ | ⟨b', cap, cur, h, -, hh, -, -, -, ht⟩
    · cases h
    · simp only [hd, Value.slice.injEq, Option.some.injEq, Addr.mk.injEq, and_true, true_and] at h
      obtain ⟨rfl, -⟩ := h
      refine ⟨cur, by simp [blk, hh], fun i hi => ?_⟩
      rw [← ht, List.getElem?_take, if_pos hi]; simp
  have q1' : Vc c l (if hf then (g.fz w b).z else g.fz w b) cs := by
    cases hf
    · exact Vc.mono c l _ _ cs q q1
    · exact Vc.mono c l _ _ cs q.z q1
  have hbb : (g.fz w b).h b = some cc := by show (if _ then _ else _) = _; rw [if_pos rfl]; exact h1
  refine ⟨q, ⟨fun b1 c1 h => ?_, fun k1 T1 c1 l1 live1 hf1 e1 b1 hb1 => ?_, fun k1 T1 c1 l1 live1 hf1 e1 => ?_, R.inj, fun k1 r1 b1 e1 => by rw [List.length_set]; exact R.lo _ _ _ e1, R.mbS q e fun k1 b1 _ hb1 => ⟨hb1, rfl, rfl⟩⟩, cs, cc, q1', hbb, h2⟩
  · have h : (if b1 = b then blk w b else g.h b1) = some c1 := h
    split at h
    · rename_i e2; rw [e2]; exact h
    · exact R.im b1 c1 h
  · by_cases hkk : k1 = k
    · subst hkk
      rw [List.getElem?_set_self hk] at e1
      simp only [Option.some.injEq, AO.row.injEq] at e1
      obtain ⟨rfl, rfl, rfl, rfl, rfl⟩ := e1
      have hb1 : g.s k1 l.length = some b1 := hb1
      rw [hb] at hb1
      obtain rfl := Option.some.inj hb1
      refine ⟨cs, q1', q2, q3, ?_⟩
      exact ⟨_, _, rfl, q3, q1.len, .inr ⟨b, 0, cc, rfl, hbb, fun i hi => by rw [Nat.zero_add]; exact h2 i hi⟩⟩
    · rw [List.getElem?_set_ne (fun e2 => hkk e2.symm)] at e1
      refine (R.ob _ _ _ _ _ _ e1 b1 hb1).mono q hb1 rfl fun _ => ?_
      show (if _ then _ else _) = _
      rw [if_neg fun e2 => hkk (by subst e2; exact R.inj _ _ _ _ _ hb1 hb)]
  · by_cases hkk : k1 = k
    · subst hkk
      rw [List.getElem?_set_self hk] at e1
      simp only [Option.some.injEq, AO.row.injEq] at e1
      obtain ⟨rfl, rfl, rfl, rfl, rfl⟩ := e1
      exact R.ver _ _ _ _ _ _ e
    · rw [List.getElem?_set_ne (fun e2 => hkk e2.symm)] at e1
      exact R.ver _ _ _ _ _ _ e1
theorem RelH.freeze {g : Gh} {H : AS} {w : World} (R : RelH g H w) {k : Nat} {T : TypeId} {c : Nat} {l : List AV} {live : Bool} (e : H[k]? = some (.row T c l live true)) :
    ∃ g', g.le g' ∧ RelH g' (H.set k (.row T c l false true)) w ∧ Gz g g' ∧ ∀ off n v, V (.rf c k l.length off n) g v → off + n ≤ l.length → V (.im c ((l.drop off).take n)) g' v := by
  have nilc : ∀ (g' : Gh) off n (v : Value), n = 0 → V (.rf c k l.length off n) g v → V (.im c ((l.drop off).take n)) g' v := fun g' off n v h1 h2 => by
    subst h1
    rw [V] at h2; rw [V]
    obtain ⟨a, cap, rfl⟩ : ∃ a cap, v = .slice a 0 cap := by
      rcases h2 with ⟨_, _, _, h⟩ | ⟨b, cap, _, ⟨o, h, _⟩, _⟩
      · exact ⟨_, _, h⟩
      · exact ⟨_, _, h⟩
    exact ⟨[], ⟨a, cap, by simp, by simp⟩, by simpa using Sl.nil g'.h c a cap, by simp [Vc]⟩
  cases hb : g.s k l.length with
  | none =>
    refine ⟨g, .rfl, R.same e (fun b h => by rw [hb] at h; cases h), Gz.rfl, fun off n v hv _ => ?_⟩
    have hv2 := hv
    rw [V] at hv2
    rcases hv2 with ⟨h1, _⟩ | ⟨b, cap, h, _⟩
    · exact nilc g off n v h1 hv
    · rw [hb] at h; cases h
  | some b =>
    have fin : ∀ (g' : Gh) cs cc, g.s k l.length = some b → Vc c l g'.z cs → g'.h b = some cc → (∀ i, i < l.length * c → cc[i]? = cs[i]?) → l.length ≤ 140737488355328 → ∀ off n v, V (.rf c k l.length off n) g v → off + n ≤ l.length → V (.im c ((l.drop off).take n)) g' v := fun g' cs cc hb h1 h2 h3 h4 off n v hv hn => by
      have hv2 := hv
      rw [V] at hv2; rw [V]
      rcases hv2 with ⟨h5, _⟩ | ⟨b', cap, h, ⟨o, rfl, ho⟩, _, hcp⟩
      · have := nilc g' off n v h5 hv
        rw [V] at this; exact this
      · by_cases hn0 : n = 0
        · have := nilc g' off n _ hn0 hv
          rw [V] at this; exact this
        obtain rfl : o = off * c := by omega
        rw [hb] at h
        obtain rfl := Option.some.inj h
        have hll : ((l.drop off).take n).length = n := by rw [List.length_take, List.length_drop, Nat.min_eq_left (by omega)]
        refine ⟨_, ⟨_, cap, by rw [hll], by rw [hll]; exact hcp⟩, ?_, (h1.drop off).take n⟩
        have := sl_sub (cap := cap) h2 h1.len h4 h3 hn
        rwa [hll]
    obtain ⟨cs0, p1, p2, p3, p4⟩ := R.ob _ _ _ _ _ _ e b hb
    cases live
    · refine ⟨g, .rfl, R.same e (fun b' h => by rw [hb] at h; obtain rfl := Option.some.inj h; exact ⟨cs0, p1, p2, p3, p4⟩), Gz.rfl, fun off n v hv hn => ?_⟩
      obtain ⟨a, cap, e1, -, e3, e4⟩ := (p4 : Sl _ _ _ _ _)
      simp only [hd, Value.slice.injEq] at e1
      rcases e4 with e4 | ⟨b', o', cc, e5, e6, e7⟩
      · exact nilc g off n v (by omega) hv
      · obtain ⟨e1, -, -⟩ := e1
        rw [e5] at e1
        simp only [Option.some.injEq, Addr.mk.injEq, and_true] at e1
        obtain ⟨rfl, rfl⟩ := e1
        exact fin g cs0 cc hb p1 e6 (fun i hi => by have := e7 i hi; rwa [Nat.zero_add] at this) p3 off n v hv hn
    · obtain ⟨q1, q2, cs, cc, q3, q4, q5⟩ := R.gr e hb
      exact ⟨_, q1, q2, ⟨fun _ _ => rfl, fun b1 => by
        show (if _ then _ else _) = _ ∨ _
        split
        · subst_vars; exact .inr ⟨k, _, hb⟩
        · exact .inl rfl⟩, fin _ cs cc hb q3 q4 q5 p3⟩
end Go.Proofs.YtlgdojkmbfbnjaaGreatDoor

namespace Go.Proofs.YtlgdojkmbfbnjaaGreatDoor
open Go.RowKit

mutual
/-- Objects from N on are forgotten. -/
def AV.kill (N : Nat) : AV → AV
  | .rf c k r off n => if k < N then .rf c k r off n else .top
  | .pt c k r i j => if k < N then .pt c k r i j else .top
  | .ag l => .ag (killL N l)
  | .tu l => .tu (killL N l)
  | .fn f l => .fn f (killL N l)
  | .fb f l => .fb f (killL N l)
  | .rl c k r off n => if k < N then .rl c k r off n else .top
  | .mr k => if k < N then .mr k else .top
  | .it k => if k < N then .it k else .top
  | x => x
def killL (N : Nat) : List AV → List AV
  | [] => []
  | x :: l => x.kill N :: killL N l
end
def AO.kill (N : Nat) : AO → AO
  | .row T c l live hf => .row T c (if hf then l else killL N l) live hf
  | .mp es => .mp (es.map fun p => (p.1.kill N, p.2.kill N))
  | .ir m n cur => match m with
    | some q => if q < N then .ir m n cur else .no
    | none => .ir none n cur
  | x => x
def cutH (N : Nat) (H : AS) : AS := (H.take N).map (AO.kill N)
def Gh.cut (g : Gh) (N : Nat) : Gh := ⟨g.h, fun k r => if k < N then g.s k r else none, g.cp, g.sn⟩
theorem Gh.cut_z (g : Gh) (N : Nat) : (g.cut N).z = g.z := rfl
theorem killL_len (N : Nat) : ∀ l : List AV, (killL N l).length = l.length
  | [] => rfl
  | x :: l => by rw [killL, List.length_cons, killL_len N l, List.length_cons]
mutual
theorem V.kill (N : Nat) : ∀ (x : AV) (g : Gh) (v : Value), V x g v → V (x.kill N) (g.cut N) v
  | .top, g, v, h => by rw [AV.kill, V]; trivial; all_goals simp
  | .vl x, g, v, h => by rw [AV.kill]; rw [V] at h ⊢; exact h; all_goals simp
  | .ag l, g, v, h => by rw [AV.kill]; rw [V] at h ⊢; obtain ⟨vs, e, s⟩ := h; exact ⟨vs, e, Vs.kill N l g vs s⟩
  | .tu l, g, v, h => by rw [AV.kill]; rw [V] at h ⊢; obtain ⟨vs, e, s⟩ := h; exact ⟨vs, e, Vs.kill N l g vs s⟩
  | .im c l, g, v, h => by rw [AV.kill]; rw [V] at h ⊢; exact h; all_goals simp
  | .rf c k r off n, g, v, h => by
    rw [AV.kill]
    split
    · rename_i hk
      rw [V] at h ⊢
      rcases h with h | ⟨b, cap, e, h⟩
      · exact .inl h
      · exact .inr ⟨b, cap, (if_pos hk).trans e, h⟩
    · rw [V]; trivial
  | .pt c k r i j, g, v, h => by
    rw [AV.kill]
    split
    · rename_i hk
      rw [V] at h ⊢
      obtain ⟨b, e, h⟩ := h
      exact ⟨b, (if_pos hk).trans e, h⟩
    · rw [V]; trivial
  | .pi e j, g, v, h => by rw [AV.kill]; rw [V] at h ⊢; exact h; all_goals simp
  | .fn f l, g, v, h => by rw [AV.kill]; rw [V] at h ⊢; obtain ⟨vs, e, s⟩ := h; exact ⟨vs, e, Vs.kill N l g vs s⟩
  | .fb f l, g, v, h => by rw [AV.kill]; rw [V] at h ⊢; obtain ⟨vs, e, s⟩ := h; exact ⟨vs, e, Vs.kill N l g vs s⟩
  | .rl c k r off n, g, v, h => by
    rw [AV.kill]
    split
    · rename_i hk
      rw [V] at h ⊢
      obtain ⟨b, o, e, h⟩ := h
      exact ⟨b, o, (if_pos hk).trans e, h⟩
    · rw [V]; trivial
  | .mr k, g, v, h => by
    rw [AV.kill]
    split
    · rename_i hk
      rw [V] at h ⊢
      obtain ⟨b, e, h⟩ := h
      exact ⟨b, (if_pos hk).trans e, h⟩
    · rw [V]; trivial
  | .it k, g, v, h => by
    rw [AV.kill]
    split
    · rename_i hk
      rw [V] at h ⊢
      obtain ⟨b, e, h⟩ := h
      exact ⟨b, (if_pos hk).trans e, h⟩
    · rw [V]; trivial
theorem Vs.kill (N : Nat) : ∀ (l : List AV) (g : Gh) (vs : List Value), Vs l g vs → Vs (killL N l) (g.cut N) vs
  | [], g, vs, h => by rw [killL]; rw [Vs] at h ⊢; exact h
  | x :: l, g, vs, h => by rw [killL]; rw [Vs] at h ⊢; obtain ⟨v, r, e, a, b⟩ := h; exact ⟨v, r, e, V.kill N x g v a, Vs.kill N l g r b⟩
theorem Vc.kill (N c : Nat) : ∀ (l : List AV) (g : Gh) (vs : List Value), Vc c l g vs → Vc c (killL N l) (g.cut N) vs
  | [], g, vs, h => by rw [killL]; rw [Vc] at h ⊢; exact h
  | x :: l, g, vs, h => by rw [killL]; rw [Vc] at h ⊢; obtain ⟨v, r, e, z, a, b⟩ := h; exact ⟨v, r, e, z, V.kill N x g v a, Vc.kill N c l g r b⟩
end
theorem Ve.kill (N : Nat) : ∀ {l : List (AV × AV)} {i : Nat} {g : Gh} {es : List MapEntry}, Ve l i g es → Ve (l.map fun p => (p.1.kill N, p.2.kill N)) i (g.cut N) es
  | [], _, _, _, h => by rw [Ve] at h; rw [List.map_nil, Ve]; exact h
  | x :: l, i, g, es, h => by rw [Ve] at h; obtain ⟨e, r, a, b, c, d, f⟩ := h; rw [List.map_cons, Ve]; exact ⟨e, r, a, b, V.kill N _ _ _ c, V.kill N _ _ _ d, f.kill N⟩
theorem RelH.cut {g : Gh} {H : AS} {w : World} (R : RelH g H w) (N : Nat) : RelH (g.cut N) (cutH N H) w := by
  have st : ∀ k r b, (g.cut N).s k r = some b → k < N ∧ g.s k r = some b := fun k r b h => by
    have h : (if k < N then g.s k r else none) = some b := h
    split at h
    · exact ⟨‹_›, h⟩
    · cases h
  have ob : ∀ (k : Nat) T c l live hf, (cutH N H)[k]? = some (.row T c l live hf) → ∃ l', H[k]? = some (.row T c l' live hf) ∧ l = if hf then l' else killL N l' := fun k T c l live hf h => by
    unfold cutH at h
    rw [List.getElem?_map, List.getElem?_take] at h
    split at h
    · cases e : H[k]? with
      | none => rw [e] at h; cases h
      | some o =>
        rw [e] at h
        cases o with
        | no => simp [AO.kill] at h
        | mp es => simp [AO.kill] at h
        | ir m n cur =>
          cases m with
          | none => simp [AO.kill] at h
          | some q => simp only [Option.map_some, AO.kill, Option.some.injEq] at h; split at h <;> cases h
        | row T1 c1 l1 live1 hf1 =>
          simp only [Option.map_some, AO.kill, Option.some.injEq, AO.row.injEq] at h
          obtain ⟨rfl, rfl, rfl, rfl, rfl⟩ := h
          exact ⟨l1, rfl, rfl⟩
    · cases h
  have ln : ∀ (l l' : List AV) (hf : Bool), l = (if hf then l' else killL N l') → l.length = l'.length := fun l l' hf e => by
    subst e; cases hf
    · exact killL_len N l'
    · rfl
  refine ⟨R.im, fun k T c l live hf e b hb => ?_, fun k T c l live hf e r hr => ?_, fun k r k' r' b h1 h2 => R.inj _ _ _ _ _ (st _ _ _ h1).2 (st _ _ _ h2).2, fun k r b h => ?_, fun k o h b hb => ?_⟩
  rotate_right
  · obtain ⟨hk, hb⟩ := st _ _ _ hb
    unfold cutH at h
    rw [List.getElem?_map, List.getElem?_take, if_pos hk] at h
    cases e : H[k]? with
    | none => rw [e] at h; cases h
    | some o1 =>
      rw [e] at h
      simp only [Option.map_some, Option.some.injEq] at h
      have hm := R.mb k o1 e b hb
      cases o1 with
      | no => subst h; trivial
      | row => subst h; trivial
      | mp es =>
        subst h
        obtain ⟨l, h1, h2⟩ := hm
        exact ⟨l, by rw [List.length_map]; exact h1, h2.kill N⟩
      | ir m n cur =>
        cases m with
        | none => subst h; exact hm
        | some q =>
          simp only [AO.kill] at h
          split at h
          · subst h
            obtain ⟨bm, s, h1, h2⟩ := hm
            exact ⟨bm, s, (if_pos ‹_›).trans h1, h2⟩
          · subst h; trivial
  · obtain ⟨l', e1, e2⟩ := ob _ _ _ _ _ _ e
    have el := ln _ _ _ e2
    obtain ⟨hk, hb⟩ := st _ _ _ hb
    rw [el] at hb
    obtain ⟨cs, h1, h2, h3, h4⟩ := R.ob _ _ _ _ _ _ e1 b hb
    refine ⟨cs, ?_, by rw [el]; exact h2, by rw [el]; exact h3, by rw [el]; exact h4⟩
    subst e2
    cases hf
    · exact Vc.kill N c l' g cs h1
    · exact h1
  · obtain ⟨l', e1, e2⟩ := ob _ _ _ _ _ _ e
    rw [ln _ _ _ e2] at hr
    show (if k < N then g.s k r else none) = none
    split
    · exact R.ver _ _ _ _ _ _ e1 r hr
    · rfl
  · obtain ⟨hk, h⟩ := st _ _ _ h
    have := R.lo _ _ _ h
    refine ⟨?_, this.2⟩
    unfold cutH
    rw [List.length_map, List.length_take]
    omega
theorem Gh.le.cut {g g' : Gh} (q : g.le g') {N : Nat} (h : ∀ k r b, g.s k r = some b → k < N) : g.le (g'.cut N) :=
  ⟨q.h, fun _ _ _ e => ⟨(if_pos (h _ _ _ e)).trans (q.s _ _ _ e).1, (q.s _ _ _ e).2⟩, q.n⟩

/-- The package's variables lie in memory that does not change. -/
def GlA (h : Hp) : Prop := ∀ i x, gv i = some x → ∃ c u, h i = some c ∧ V x ⟨h, fun _ _ => none, fun _ _ => 0, fun _ => 0⟩ u ∧ ∀ j, j < u.cells.size → c[j]? = u.cells[j]?
theorem GlA.mono {h h' : Hp} (x : GlA h) (q : h.le h') : GlA h' := fun i y e => by
  obtain ⟨c, u, h1, h2, h3⟩ := x i y e
  exact ⟨c, u, q _ _ h1, V.mono _ _ _ _ ⟨q, fun _ _ _ e => (by cases e), fun _ _ _ e => (by cases e)⟩ h2, h3⟩
/-- Slots. -/
structure RelF (g : Gh) (F : List AV) (a : Act) : Prop where
  gl : GlA g.h
  df : a.defers = []
  sz : a.tmps.size = F.length
  at' : ∀ (i : Nat) x, F[i]? = some x → V x g (a.tmps.getD i undef)
theorem RelF.mono {g g' : Gh} {F : List AV} {a : Act} (f : RelF g F a) (q : g.le g') : RelF g' F a := ⟨f.gl.mono q.h, f.df, f.sz, fun i x e => (f.at' i x e).mono _ _ _ _ q⟩
/-- A constant. -/
def cst : Value → AV
  | .agg cs => .ag (cs.toList.map .vl)
  | v => .vl v
theorem Vs_cst (g : Gh) : ∀ l : List Value, Vs (l.map .vl) g l
  | [] => by rw [List.map_nil, Vs]
  | x :: l => by rw [List.map_cons, Vs]; exact ⟨x, l, rfl, by rw [V], Vs_cst g l⟩
theorem V_cst (g : Gh) (v : Value) : V (cst v) g v := by
  cases v <;> simp only [cst] <;> rw [V]
  rename_i cs
  exact ⟨cs.toList, by simp, Vs_cst g _⟩
def evA (F : List AV) : Operand → AV
  | .tmp t => F.getD t .top
  | .const v => cst v
  | .func f => .fn f []
  | .global i => match gv i with
    | some x => .pi x 0
    | none => .top
theorem RelF.ev {g : Gh} {F : List AV} {a : Act} (f : RelF g F a) (x : Operand) : V (evA F x) g (a.eval x) := by
  cases x with
  | tmp t =>
    simp only [evA, Act.eval]
    rw [List.getD_eq_getElem?_getD]
    cases e : F[t]? with
    | none => rw [Option.getD_none, V]; trivial
    | some x => exact f.at' t x e
  | const v => exact V_cst g v
  | func f => simp only [evA]; rw [V]; exact ⟨[], rfl, by rw [Vs]⟩
  | global n =>
    simp only [evA]
    split
    · rename_i x e
      obtain ⟨c, u, h1, h2, h3⟩ := f.gl n x e
      rw [V]
      exact ⟨n, 0, c, u, by simp [Act.eval], h1, V.mono _ (⟨g.h, fun _ _ => none, fun _ _ => 0, fun _ => 0⟩ : Gh) _ _ ⟨Hp.le_refl _, fun _ _ _ e => (by cases e), fun _ _ _ e => (by cases e)⟩ h2, fun j hj => by rw [Nat.zero_add]; exact h3 j hj⟩
    · rw [V]; trivial
theorem RelF.put {g : Gh} {F : List AV} {a : Act} (f : RelF g F a) {d : Option Tmp} {x : AV} {v : Value} (h : V x g v) : RelF g (match d with | some i => F.set i x | none => F) (a.put d v) := by
  cases d with
  | none => exact f
  | some d =>
    refine ⟨f.gl, f.df, by simp [Act.put, f.sz], fun i y e => ?_⟩
    simp only [Act.put]
    by_cases hd : i = d
    · subst hd
      have hl : i < F.length := by
        have := (List.getElem?_eq_some_iff.1 e).1
        simpa using this
      rw [List.getElem?_set_self hl] at e
      obtain rfl := Option.some.inj e
      rw [Array.getD_eq_getD_getElem?, Array.getElem?_setIfInBounds_self_of_lt (by rw [f.sz]; exact hl)]
      exact h
    · rw [List.getElem?_set_ne (fun h => hd h.symm)] at e
      rw [Array.getD_eq_getD_getElem?, Array.getElem?_setIfInBounds_ne (fun h => hd h.symm), ← Array.getD_eq_getD_getElem?]
      exact f.at' i y e
end Go.Proofs.YtlgdojkmbfbnjaaGreatDoor

namespace Go.Proofs.YtlgdojkmbfbnjaaGreatDoor
open Go.RowKit

def bo {α : Type} (e : Option α) (K : α → Prop) : Prop := match e with
  | some x => K x
  | none => False
theorem bo_some {α : Type} (x : α) (K : α → Prop) : bo (some x) K = K x := rfl
theorem bo_iff {α : Type} {e : Option α} {K : α → Prop} (h : bo e K) : ∃ x, e = some x ∧ K x := by
  cases e with
  | none => exact h.elim
  | some x => exact ⟨x, rfl, h⟩
def isRowD : TypeDesc → Bool
  | .struct _ | .array _ _ => true
  | _ => false
/-- Cells of a type; whether it is a struct or an array. -/
def tyA (P : Program) (t : TypeId) : Option (Nat × Bool) := match P.info? t, P.underlying t with
  | some i, some d => some (i.size, isRowD d)
  | _, _ => none
theorem tyA_ok {P : Program} {t : TypeId} {n : Nat} {b : Bool} (h : tyA P t = some (n, b)) : ∃ i d, P.info? t = some i ∧ P.underlying t = some d ∧ i.size = n ∧ isRowD d = b := by
  unfold tyA at h
  split at h
  · rename_i i d h1 h2
    simp only [Option.some.injEq, Prod.mk.injEq] at h
    exact ⟨i, d, h1, h2, h.1, h.2⟩
  · cases h
theorem isRowD_iff (d : TypeDesc) : isRowD d = d.isRow := by cases d <;> rfl
theorem run_isAgg {P : Program} {t : TypeId} {d : TypeDesc} (h : P.underlying t = some d) (w : World) : (isAgg t).run P w = .ok (isRowD d) w := by
  simp only [isAgg, Sem.run_bind, run_underlying h, Result.andThen]
  cases d <;> rfl
/-- sz cells of a value, from cell j on. -/
def partA (x : AV) (j sz : Nat) (agg : Bool) : Option AV :=
  match x with
  | .ag l => if agg then (if j + sz ≤ l.length then some (.ag ((l.drop j).take sz)) else none) else l[j]?
  | x => if agg = false ∧ j = 0 then some (if x.ok1 then x else .top) else none
/-- What a load of these cells gives. -/
theorem partA_ok {P : Program} {x y : AV} {j sz : Nat} {agg : Bool} {t : TypeId} {g : Gh} {u : Value} {w : World} {b o : Nat} (h : partA x j sz agg = some y) (ht : tyA P t = some (sz, agg)) (hv : V x g u) (hc : ∀ q, q < u.cells.size → w.cell? ⟨b, o + q, none⟩ = u.cells[q]?) (hpos : 0 < u.cells.size) :
    ∃ v, (Instr.loadAt t (.pointer (some ⟨b, o + j, none⟩))).run P w = .ok v w ∧ V y g v := by
  obtain ⟨i, d, h1, h2, h3, h4⟩ := tyA_ok ht
  have one : ∀ v, w.cell? ⟨b, o + j, none⟩ = some v → isRowD d = false → (Instr.loadAt t (.pointer (some ⟨b, o + j, none⟩))).run P w = .ok v w := fun v hv hd => by
    simp only [Instr.loadAt, Instr.sureAddr, loadVar, Sem.run_bind, Sem.run_pure, Result.andThen_ok, run_isAgg h2, hd]
    simp [hv]
  unfold partA at h
  split at h
  · rename_i l
    rw [V] at hv
    obtain ⟨vs, rfl, s⟩ := hv
    simp only [Value.cells] at hc hpos
    split at h
    · subst_vars
      split at h
      · rename_i hsz
        simp only [Option.some.injEq] at h
        subst h
        have hl := s.len
        refine ⟨.agg ((vs.drop j).take i.size).toArray, run_loadAt_mid w b (o + j) t ((vs.drop j).take i.size) d (fun q v hq => ?_) h2 (by rw [← isRowD_iff]; assumption) (by rw [h1]; simp [hl]; omega), ?_⟩
        · rw [List.getElem?_take] at hq
          split at hq
          · rw [List.getElem?_drop] at hq
            have hlt := (List.getElem?_eq_some_iff.1 hq).1
            have := hc (j + q) (by simpa using hlt)
            rw [Nat.add_assoc, this]; simpa using hq
          · cases hq
        · rw [V]; exact ⟨_, rfl, (s.drop j).take _⟩
      · cases h
    · rename_i hagg
      obtain ⟨v, e, hv⟩ := s.at j y h
      have hlt := (List.getElem?_eq_some_iff.1 e).1
      refine ⟨v, one v ?_ (by rw [h4]; simpa using hagg), hv⟩
      rw [hc j (by simpa using hlt)]; simpa using e
  · rename_i hx
    split at h
    · rename_i hh
      obtain ⟨rfl, rfl⟩ := hh
      simp only [Option.some.injEq] at h
      have h0 := hc 0 hpos
      rw [Array.getElem?_eq_getElem hpos] at h0
      refine ⟨_, one _ (by simpa using h0) h4, ?_⟩
      subst h
      split
      · rename_i ho
        have := hv.ok1 ho
        have e : u.cells = #[u] := by cases u <;> simp_all [Value.cells, Value.oneCell']
        simp only [e]; exact hv
      · rw [V]; trivial
    · cases h
def rdA (H : AS) (p : AV) (sz : Nat) (agg : Bool) : Option AV :=
  match p with
  | .pt c k r i j => match H[k]? with
    | some (.row _ c' l _ _) => if c' = c ∧ r = l.length ∧ 0 < c then (match l[i]? with | some x => partA x j sz agg | none => none) else none
    | _ => none
  | .pi e j => match e with
    | .ag (_ :: _) => partA e j sz agg
    | .ag [] => none
    | e => if e.ok1 then partA e j sz agg else none
  | _ => none
theorem rdA_ok {P : Program} {H : AS} {p y : AV} {sz : Nat} {agg : Bool} {t : TypeId} {g : Gh} {w : World} {u : Value} (h : rdA H p sz agg = some y) (ht : tyA P t = some (sz, agg)) (R : RelH g H w) (hv : V p g u) : ∃ v, (Instr.loadAt t u).run P w = .ok v w ∧ V y g v := by
  unfold rdA at h
  split at h
  · rename_i c k r i j
    split at h
    · rename_i T c' l live hf e
      split at h
      · rename_i hh
        obtain ⟨rfl, rfl, hpos⟩ := hh
        split at h
        · rename_i x hx
          rw [V] at hv
          obtain ⟨b, hb, rfl⟩ := hv
          obtain ⟨u', q1, q2, q3, _⟩ := R.cell e hb hx
          have q1 : V x g u' := by
            cases hf
            · exact q1
            · exact V.mono _ _ _ _ g.z_le q1
          exact partA_ok (b := b) (o := i * c') h ht q1 (fun q hq => q3 q (by omega)) (by omega)
        · cases h
      · cases h
    · cases h
  · rename_i e j
    rw [V] at hv
    obtain ⟨b, o, c, u', rfl, q1, q2, q3⟩ := hv
    have hcell : ∀ q, q < u'.cells.size → w.cell? ⟨b, o + q, none⟩ = u'.cells[q]? := fun q hq => by rw [blk_cell (R.im b c q1), q3 q hq]
    have key : partA e j sz agg = some y → 0 < u'.cells.size → ∃ v, (Instr.loadAt t (.pointer (some ⟨b, o + j, none⟩))).run P w = .ok v w ∧ V y g v := fun h hp => by
      exact partA_ok h ht (V.mono _ _ _ _ g.z_le q2) hcell hp
    split at h
    · rename_i x xs
      refine key h ?_
      rw [V] at q2
      obtain ⟨vs, rfl, s⟩ := q2
      have := s.len
      simp only [Value.cells, List.size_toArray, this, List.length_cons]; omega
    · cases h
    · split at h
      · rename_i ho
        refine key h ?_
        have := q2.ok1 ho
        cases u' <;> simp_all [Value.cells, Value.oneCell']
      · cases h
  · cases h

/-- A value is given up: its rows do not change any more. -/
def frz1 (H : AS) : AV → Option (AV × AS)
  | .rf c k r off n => match H[k]? with
    | some (.row T c' l _ true) => if c' = c ∧ r = l.length ∧ off + n ≤ l.length then some (.im c ((l.drop off).take n), H.set k (.row T c l false true)) else none
    | _ => none
  | x => if x.hf then some (x, H) else none
def frzL (H : AS) : List AV → Option (List AV × AS)
  | [] => some ([], H)
  | x :: l => match frz1 H x with
    | some (y, H1) => match frzL H1 l with
      | some (m, H2) => some (y :: m, H2)
      | none => none
    | none => none
def frzA (H : AS) : AV → Option (AV × AS)
  | .ag l => match frzL H l with
    | some (m, H1) => some (.ag m, H1)
    | none => none
  | .tu l => match frzL H l with
    | some (m, H1) => some (.tu m, H1)
    | none => none
  | x => frz1 H x
theorem frz1_ok {H H' : AS} {x y : AV} {g : Gh} {w : World} (h : frz1 H x = some (y, H')) (R : RelH g H w) : ∃ g', g.le g' ∧ RelH g' H' w ∧ Gz g g' ∧ EX g H g' H' ∧ y.hf = true ∧ ∀ v, V x g v → V y g' v := by
  unfold frz1 at h
  split at h
  · rename_i c k r off n
    split at h
    · rename_i T c' l live e
      split at h
      · rename_i hh
        obtain ⟨rfl, rfl, hn⟩ := hh
        simp only [Option.some.injEq, Prod.mk.injEq] at h
        obtain ⟨rfl, rfl⟩ := h
        obtain ⟨g', q1, q2, q3, q4⟩ := R.freeze e
        exact ⟨g', q1, q2, q3, EX.set e rfl q3.s, rfl, fun v hv => q4 off n v hv hn⟩
      · cases h
    · cases h
  · split at h
    · rename_i ho
      simp only [Option.some.injEq, Prod.mk.injEq] at h
      obtain ⟨rfl, rfl⟩ := h
      exact ⟨g, .rfl, R, .rfl, .rfl, ho, fun v hv => hv⟩
    · cases h
theorem frzL_ok : ∀ {l m : List AV} {H H' : AS} {g : Gh} {w : World}, frzL H l = some (m, H') → RelH g H w → ∃ g', g.le g' ∧ RelH g' H' w ∧ Gz g g' ∧ EX g H g' H' ∧ m.all AV.hf = true ∧ ∀ vs, Vs l g vs → Vs m g' vs
  | [], m, H, H', g, w, h, R => by
    simp only [frzL, Option.some.injEq, Prod.mk.injEq] at h
    obtain ⟨rfl, rfl⟩ := h
    exact ⟨g, .rfl, R, .rfl, .rfl, rfl, fun _ h => h⟩
  | x :: l, m, H, H', g, w, h, R => by
    rw [frzL] at h
    split at h
    · rename_i y H1 e1
      split at h
      · rename_i m' H2 e2
        simp only [Option.some.injEq, Prod.mk.injEq] at h
        obtain ⟨rfl, rfl⟩ := h
        obtain ⟨g1, a1, a2, a3, a4, a5, a6⟩ := frz1_ok e1 R
        obtain ⟨g2, b1, b2, b3, b4, b5, b6⟩ := frzL_ok e2 a2
        refine ⟨g2, a1.trans b1, b2, a3.trans b3, a4.trans b4, by simp [a5, b5], fun vs hv => ?_⟩
        rw [Vs] at hv ⊢
        obtain ⟨v, r, e, c1, c2⟩ := hv
        exact ⟨v, r, e, V.mono _ _ _ _ b1 (a6 v c1), b6 r (Vs.mono _ _ _ _ a1 c2)⟩
      · cases h
    · cases h
theorem frzA_ok {H H' : AS} {x y : AV} {g : Gh} {w : World} (h : frzA H x = some (y, H')) (R : RelH g H w) : ∃ g', g.le g' ∧ RelH g' H' w ∧ Gz g g' ∧ EX g H g' H' ∧ ((∀ l, x ≠ .tu l) → y.hfc = true) ∧ ∀ v, V x g v → V y g' v := by
  unfold frzA at h
  split at h
  · split at h
    · rename_i l m H1 e
      simp only [Option.some.injEq, Prod.mk.injEq] at h
      obtain ⟨rfl, rfl⟩ := h
      obtain ⟨g1, a1, a2, a3, a4, a5, a6⟩ := frzL_ok e R
      exact ⟨g1, a1, a2, a3, a4, fun _ => a5, fun v hv => by rw [V] at hv ⊢; obtain ⟨vs, e, s⟩ := hv; exact ⟨vs, e, a6 vs s⟩⟩
    · cases h
  · split at h
    · rename_i l m H1 e
      simp only [Option.some.injEq, Prod.mk.injEq] at h
      obtain ⟨rfl, rfl⟩ := h
      obtain ⟨g1, a1, a2, a3, a4, a5, a6⟩ := frzL_ok e R
      exact ⟨g1, a1, a2, a3, a4, fun q => absurd rfl (q _), fun v hv => by rw [V] at hv ⊢; obtain ⟨vs, e, s⟩ := hv; exact ⟨vs, e, a6 vs s⟩⟩
    · cases h
  · obtain ⟨g1, a1, a2, a3, a4, a5, a6⟩ := frz1_ok h R
    refine ⟨g1, a1, a2, a3, a4, fun _ => ?_, a6⟩
    cases y <;> simp_all [AV.hf, AV.hfc]
/-- What goes into a row without objects is given up first. -/
def frzTo (H : AS) (p y : AV) : Option (AV × AS) :=
  match p with
  | .pt _ k _ _ _ => match H[k]? with
    | some (.row _ _ _ _ true) => frzA H y
    | _ => some (y, H)
  | _ => some (y, H)
/-- A store. -/
def isAg : AV → Bool
  | .ag _ => true
  | _ => false
theorem isAg_iff {x : AV} (h : isAg x = true) : ∃ l, x = .ag l := by cases x <;> first | exact ⟨_, rfl⟩ | cases h
def wrA (H : AS) (p y : AV) (sz : Nat) : Option AS :=
  match p with
  | .pt c k r i j => match H[k]? with
    | some (.row T c' l true hf) => match l[i]? with
      | some x => if c' = c ∧ r = l.length ∧ y.okc = true ∧ y.cells.length = sz ∧ j + sz ≤ c ∧ (isAg x = true ∨ (c = 1 ∧ j = 0 ∧ y.ok1 = true)) ∧ (hf = true → y.hfc = true) then some (H.set k (.row T c (l.set i (x.put j y)) true hf)) else none
      | none => none
    | _ => none
  | _ => none
theorem V.size {y : AV} {g : Gh} {v : Value} (h : V y g v) (o : y.okc = true) : v.cells.size = y.cells.length := by
  have := (h.cells o).len; simpa using this
theorem wrA_ok {P : Program} {H H' : AS} {p y : AV} {sz : Nat} {agg : Bool} {t : TypeId} {g : Gh} {w : World} {u v : Value} (h : wrA H p y sz = some H') (ht : tyA P t = some (sz, agg)) (R : RelH g H w) (hp : V p g u) (hv : V y g v) :
    ∃ w', (Instr.storeAt t u v).run P w = .ok () w' ∧ RelH g H' w' ∧ TX g w g w' ∧ EX g H g H' := by
  unfold wrA at h
  split at h
  · rename_i c k r i j
    split at h
    · rename_i T c' l hf e
      split at h
      · rename_i x hx
        split at h
        · rename_i hh
          obtain ⟨rfl, rfl, h1, rfl, h3, h4, h5⟩ := hh
          simp only [Option.some.injEq] at h
          subst h
          rw [V] at hp
          obtain ⟨b, hb, rfl⟩ := hp
          have hs := hv.size h1
          obtain ⟨q1, q2, q3⟩ := R.store e hb hx hv h1 h5 (h4.imp isAg_iff id) (by rw [hs]; exact h3)
          refine ⟨_, ?_, q1, q2, q3⟩
          obtain ⟨i0, d, t1, t2, t3, t4⟩ := tyA_ok ht
          obtain ⟨u', p1, p2, p3, p4⟩ := R.cell e hb hx
          have th : w.there b (i * c' + j) v.cells.size := fun q hq => ⟨by
            rw [Nat.add_assoc, p3 (j + q) (by omega), Array.getElem?_eq_getElem (by omega)]; rfl, p4 rfl _⟩
          have o1 : v.cells.all (·.oneCell') = true := Array.all_eq_true_iff_forall_mem.2 fun q hq => (hv.cells h1).ok1 h1 q (by simpa using hq)
          have hrun := run_storeVar_mid (P := P) w b (i * c' + j) t v.cells th (by rw [t1]; simp [t3, hs]) o1
          have e2 : (storeVar t ⟨b, i * c' + j, none⟩ v).run P w = (storeVar t ⟨b, i * c' + j, none⟩ (.agg v.cells)).run P w := by
            unfold storeVar
            rfl
          simp only [Instr.storeAt, Instr.sureAddr, Sem.run_bind, Sem.run_pure, Result.andThen_ok, e2, hrun]
        · cases h
      · cases h
    · cases h
  · cases h
theorem frzTo_ok {H H' : AS} {p x y : AV} {g : Gh} {w : World} (h : frzTo H p x = some (y, H')) (R : RelH g H w) : ∃ g', g.le g' ∧ RelH g' H' w ∧ Gz g g' ∧ EX g H g' H' ∧ ∀ v, V x g v → V y g' v := by
  unfold frzTo at h
  have same : some (x, H) = some (y, H') → ∃ g', g.le g' ∧ RelH g' H' w ∧ Gz g g' ∧ EX g H g' H' ∧ ∀ v, V x g v → V y g' v := fun h => by
    simp only [Option.some.injEq, Prod.mk.injEq] at h
    obtain ⟨rfl, rfl⟩ := h
    exact ⟨g, .rfl, R, .rfl, .rfl, fun _ h => h⟩
  split at h
  · split at h
    · obtain ⟨g', a1, a2, a3, a4, a5, a6⟩ := frzA_ok h R
      exact ⟨g', a1, a2, a3, a4, a6⟩
    · exact same h
  · exact same h
end Go.Proofs.YtlgdojkmbfbnjaaGreatDoor

namespace Go.Proofs.YtlgdojkmbfbnjaaGreatDoor
open Go.RowKit

/-- A zero value. -/
def zrA (P : Program) (t : TypeId) : Option AV := match P.info? t with
  | some i => i.zero.map cst
  | none => none
theorem cst_cells (v : Value) : (cst v).cells.length = v.cells.size := by cases v <;> simp [cst, AV.cells, Value.cells]
theorem alloc_ok {P : Program} {t : TypeId} {z : AV} {g : Gh} {H : AS} {w : World} (h : zrA P t = some z) (R : RelH g H w) :
    ∃ v w' g', (Instr.alloc t true (.tuple #[])).run P w = .ok v w' ∧ g.le g' ∧ RelH g' (H ++ [.row t z.cells.length [z] true false]) w' ∧ TX g w g' w' ∧ V (.pt z.cells.length H.length 1 0 0) g' v ∧ EX g H g' (H ++ [.row t z.cells.length [z] true false]) := by
  unfold zrA at h
  split at h
  · rename_i i hi
    cases hz : i.zero with
    | none => rw [hz] at h; cases h
    | some zv =>
      rw [hz] at h
      simp only [Option.map_some, Option.some.injEq] at h
      subst h
      obtain ⟨q1, q2, q3, q5⟩ := R.new t (cst zv).cells.length [cst zv] false zv.cells.toList (by
        rw [Vc]; exact ⟨zv, [], by simp, (cst_cells zv).symm, V_cst _ _, by rw [Vc]⟩) (by simp)
      refine ⟨.pointer (some ⟨w.heap.size, 0, none⟩), _, _, ?_, q2, q1, q3, ?_, q5⟩
      rotate_left
      · rw [V]; exact ⟨w.heap.size, (Gh.put_s _ _ _ _ _).1, by simp⟩
      · simp [Instr.alloc, zeroValue, typeInfo, hi, hz, newVar, newRow, Result.andThen]
  · cases h
/-- A new variable with a value. -/
theorem box_ok {P : Program} {t : TypeId} {x : AV} {v : Value} {g : Gh} {H : AS} {w : World} (hv : V x g v) (ho : x.okc = true) (R : RelH g H w) :
    ∃ u w' g', (Instr.box t v).run P w = .ok u w' ∧ g.le g' ∧ RelH g' (H ++ [.row t x.cells.length [x] true false]) w' ∧ TX g w g' w' ∧ V (.pt x.cells.length H.length 1 0 0) g' u ∧ EX g H g' (H ++ [.row t x.cells.length [x] true false]) := by
  obtain ⟨q1, q2, q3, q5⟩ := R.new t x.cells.length [x] false v.cells.toList (by
    rw [Vc]; exact ⟨v, [], by simp, hv.size ho, hv, by rw [Vc]⟩) (by simp)
  refine ⟨.pointer (some ⟨w.heap.size, 0, none⟩), _, _, ?_, q2, q1, q3, ?_, q5⟩
  rotate_left
  · rw [V]; exact ⟨w.heap.size, (Gh.put_s _ _ _ _ _).1, by simp⟩
  · simp [Instr.box, newVar, newRow]
/-- One part's cells. -/
theorem fold_set (off : Nat) : ∀ (l : List Value) (k : Nat) (arr : Array Value), ((l.zipIdx k).foldl (fun cs x => cs.setIfInBounds (off + x.2) x.1) arr).toList = wrL arr.toList (off + k) l
  | [], k, arr => rfl
  | v :: l, k, arr => by
    rw [List.zipIdx_cons, List.foldl_cons, fold_set off l (k + 1), wrL]
    simp [Nat.add_assoc]
/-- Parts are laid into cells. -/
def fillA (pl : Nat → Option (Nat × Nat)) (cs : List AV) : List (Nat × AV) → Option (List AV)
  | [] => some cs
  | (i, y) :: r => match pl i with
    | none => none
    | some (o, n) => if y.okc = true ∧ y.cells.length = n ∧ o + n ≤ cs.length then fillA pl (wrL cs o y.cells) r else none
/-- Numbered values. -/
def Vp (g : Gh) : List (Nat × AV) → List (Nat × Value) → Prop
  | [], l => l = []
  | (i, x) :: r, l => ∃ v m, l = (i, v) :: m ∧ V x g v ∧ Vp g r m
theorem fill_ok (pl : Nat → Option (Nat × Nat)) : ∀ {ps : List (Nat × AV)} {pv : List (Nat × Value)} {cs cs' : List AV} {g : Gh} {arr : Array Value}, fillA pl cs ps = some cs' → Vp g ps pv → Vs cs g arr.toList → ∃ arr', Instr.fill pl arr pv = some arr' ∧ Vs cs' g arr'.toList
  | [], pv, cs, cs', g, arr, h, hp, hs => by
    rw [Vp] at hp; subst hp
    simp only [fillA, Option.some.injEq] at h; subst h
    exact ⟨arr, rfl, hs⟩
  | (i, y) :: r, pv, cs, cs', g, arr, h, hp, hs => by
    rw [Vp] at hp
    obtain ⟨v, m, rfl, hv, hp⟩ := hp
    rw [fillA] at h
    cases e : pl i with
    | none => rw [e] at h; cases h
    | some on =>
      obtain ⟨o, n⟩ := on
      rw [e] at h
      simp only at h
      split at h
      · rename_i hh
        obtain ⟨h1, rfl, h3⟩ := hh
        have hsz := hv.size h1
        have hl := hs.len
        have hfold : (Array.foldl (fun cs x => cs.setIfInBounds (o + x.2) x.1) arr v.cells.zipIdx).toList = wrL arr.toList o v.cells.toList := by
          rw [← Array.foldl_toList, Array.toList_zipIdx]
          have := fold_set o v.cells.toList 0 arr
          simpa using this
        have ih := fill_ok pl (arr := Array.foldl (fun cs x => cs.setIfInBounds (o + x.2) x.1) arr v.cells.zipIdx) h hp (by rw [hfold]; exact hs.setL (hv.cells h1))
        obtain ⟨arr', q1, q2⟩ := ih
        refine ⟨arr', ?_, q2⟩
        rw [Instr.fill, e]
        simp only
        rw [if_neg]
        · exact q1
        · simp only [hsz, ne_eq, not_true_eq_false, decide_false, Bool.false_or, decide_eq_true_eq]
          simp at hl
          omega
      · cases h
/-- Where the parts of a type lie. -/
def plA (P : Program) (t : TypeId) : Option (Nat → Option (Nat × Nat)) := match P.underlying t with
  | some (.array _ e) => match P.info? e with
    | some ie => some fun i => some (i * ie.size, ie.size)
    | none => none
  | some (.struct fields) => match fields.toList.mapM (fun f => (P.info? f.type).map fun i => (f.offset, i.size)) with
    | some places => some (places.toArray[·]?)
    | none => none
  | _ => none
def bldA (P : Program) (t : TypeId) (ps : List (Nat × AV)) : Option AV := match zrA P t, plA P t with
  | some (.ag cs), some pl => (fillA pl cs ps).map .ag
  | _, _ => none
theorem bldA_ok {P : Program} {t : TypeId} {ps : List (Nat × AV)} {pv : Array (Nat × Value)} {x : AV} {g : Gh} (h : bldA P t ps = some x) (hp : Vp g ps pv.toList) (w : World) : ∃ v, (Instr.build t pv).run P w = .ok v w ∧ V x g v := by
  unfold bldA at h
  split at h
  · rename_i cs pl hz hpl
    cases hf : fillA pl cs ps with
    | none => rw [hf] at h; cases h
    | some cs' =>
      rw [hf] at h
      simp only [Option.map_some, Option.some.injEq] at h
      subst h
      unfold zrA at hz
      split at hz
      · rename_i it hit
        cases hzz : it.zero with
        | none => rw [hzz] at hz; cases hz
        | some zv =>
          rw [hzz] at hz
          simp only [Option.map_some, Option.some.injEq] at hz
          have hcs : Vs cs g zv.cells.toList := by
            cases zv <;> simp only [cst, AV.ag.injEq, reduceCtorEq] at hz
            subst hz
            exact Vs_cst _ _
          obtain ⟨arr', q1, q2⟩ := fill_ok pl hf hp hcs
          refine ⟨.agg arr', run_build w t pv arr' ?_, by rw [V]; exact ⟨arr'.toList, by simp, q2⟩⟩
          unfold plA at hpl
          unfold Program.built
          split at hpl
          · rename_i n e hu
            split at hpl
            · rename_i ie hie
              simp only [Option.some.injEq] at hpl
              subst hpl
              simp only [hit, hu, hzz, hie]; exact q1
            · cases hpl
          · rename_i fields hu
            split at hpl
            · rename_i places hpp
              simp only [Option.some.injEq] at hpl
              subst hpl
              simp only [hit, hu, hzz, hpp]; exact q1
            · cases hpl
          · cases hpl
      · cases hz
  · cases h
end Go.Proofs.YtlgdojkmbfbnjaaGreatDoor

namespace Go.Proofs.YtlgdojkmbfbnjaaGreatDoor
open Go.RowKit

/-- What an operation must leave. -/
def GoodA (g : Gh) (H : AS) (w : World) (o : Oper) (a : Act) (K : AV → AS → Prop) (next : Act → World → Prop) : Prop :=
  ∀ x H' g' w' v, g.le g' → RelH g' H' w' → V x g' v → TX g w g' w' → EX g H g' H' → K x H' → next (a.put o.dst v) w'
theorem ops_val {P : Program} {o : Oper} {a : Act} {w w' : World} {v : Value} {next : Act → World → Prop} {Q : Exit → Act → World → Prop} (h : (execOp a.eval o).run P w = .ok (.value v) w') (k : next (a.put o.dst v) w') : o.wp P a w next Q := by
  unfold Oper.wp; rw [h]; exact k
theorem ops_skip {P : Program} {o : Oper} {a : Act} {w w' : World} {next : Act → World → Prop} {Q : Exit → Act → World → Prop} (h : (execOp a.eval o).run P w = .ok .skip w') (k : next (a.put o.dst undef) w') : o.wp P a w next Q := by
  unfold Oper.wp; rw [h]; exact k
def noQ (next : Act → World → Prop) : Exit → Act → World → Prop
  | .normal, a, w => next a w
  | _, _, _ => False
/-- From a law for a list of operations. -/
theorem ops_list {P : Program} {o : Oper} {a : Act} {w : World} {next : Act → World → Prop} {Q : Exit → Act → World → Prop} (h : wpList P #[] (noQ next) [{ o with guard := none }] a w) : o.wp P a w next Q := by
  unfold wpList at h
  rw [if_pos (by simp [Region.wanted])] at h
  rcases h with h | ⟨_, a0, w0, h⟩
  · have h : o.wp P a w (wpList P #[] (noQ next) []) (noQ next) := h
    unfold Oper.wp at h ⊢
    generalize (execOp a.eval o).run P w = r at h ⊢
    cases r with
    | ok n w' =>
      cases n <;> simp only [Oper.upon] at h ⊢
      case value => exact h
      case skip => exact h
      case defer => exact h
      case enter f args => exact Calls.mono h fun e w'' he => by cases e <;> first | exact he | exact he.elim | (obtain ⟨_, _, h⟩ := he; exact h.elim)
      case row => exact h.mono fun _ _ he => he
    | halt x w' => cases x <;> simp only [Oper.upon] at h ⊢; exact h.elim
  · exact h.elim
/-- A slice type: its elements' type, their cells and bytes. -/
def elA (P : Program) (t : TypeId) : Option (TypeId × Nat × Nat) := match P.underlying t with
  | some (.slice e) => match P.info? e with
    | some i => match i.zero with
      | some z => if z.cells.size = i.size ∧ 0 < i.size ∧ 0 < i.bytes then some (e, i.size, i.bytes) else none
      | none => none
    | none => none
  | _ => none
theorem elA_ok {P : Program} {t e : TypeId} {c b : Nat} (h : elA P t = some (e, c, b)) : ∃ z, ElemT P t e c b z ∧ P.underlying t = some (.slice e) ∧ ∃ i zv, P.info? e = some i ∧ i.size = c ∧ i.bytes = b ∧ i.zero = some zv ∧ zv.cells.size = c ∧ 0 < c := by
  unfold elA at h
  split at h
  · rename_i e' hu
    split at h
    · rename_i i hi
      split at h
      · rename_i z hz
        split at h
        · rename_i hh
          simp only [Option.some.injEq, Prod.mk.injEq] at h
          obtain ⟨rfl, rfl, rfl⟩ := h
          exact ⟨z.cells.toList, ⟨hu, ⟨i, z, hi, hz, rfl, rfl, by simp⟩, by simpa using hh.1, hh.2.1, hh.2.2⟩, hu, i, z, hi, rfl, rfl, hz, hh.1, hh.2.1⟩
        · cases h
      · cases h
    · cases h
  · cases h
/-- The elements of a slice. -/
def elsA (H : AS) : AV → Option (Nat × List AV)
  | .im c l => some (c, l)
  | .rf c k r off n => match H[k]? with
    | some (.row _ c' l _ _) => if c' = c ∧ r = l.length ∧ off + n ≤ l.length then some (c, (l.drop off).take n) else none
    | _ => none
  | _ => none
theorem Vc.hf {c : Nat} : ∀ {l : List AV} {g : Gh} {cs : List Value}, Vc c l g cs → l.all AV.hfc = true → Vc c l g.z cs
  | [], _, _, h, _ => by rw [Vc] at h ⊢; exact h
  | x :: l, g, cs, h, o => by
    rw [Vc] at h ⊢; obtain ⟨v, r, e, z, a, b⟩ := h
    simp only [List.all_cons, Bool.and_eq_true] at o
    exact ⟨v, r, e, z, a.hfc o.1, b.hf o.2⟩
theorem Vc.ok1 {c : Nat} : ∀ {l : List AV} {g : Gh} {cs : List Value}, Vc c l g cs → l.all AV.okc = true → ∀ v ∈ cs, v.oneCell' = true
  | [], _, _, h, _, v, hv => by rw [Vc] at h; subst h; cases hv
  | x :: l, g, cs, h, o, v, hv => by
    rw [Vc] at h; obtain ⟨u, r, rfl, z, a, b⟩ := h
    simp only [List.all_cons, Bool.and_eq_true] at o
    rcases List.mem_append.1 hv with hv | hv
    · exact (a.cells o.1).ok1 o.1 v hv
    · exact b.ok1 o.2 v hv
/-- The cells of a slice's elements. -/
theorem elsA_ok {H : AS} {x : AV} {c : Nat} {ys : List AV} {g : Gh} {w : World} {v : Value} (h : elsA H x = some (c, ys)) (R : RelH g H w) (hv : V x g v) :
    ∃ ad cap cs, v = .slice ad ys.length cap ∧ Vc c ys g cs ∧ (0 < cs.length → ∃ b o, ad = some ⟨b, o, none⟩ ∧ ∀ (j : Nat) u, cs[j]? = some u → w.cell? ⟨b, o + j, none⟩ = some u) := by
  unfold elsA at h
  split at h
  · rename_i c' l
    simp only [Option.some.injEq, Prod.mk.injEq] at h
    obtain ⟨rfl, rfl⟩ := h
    rw [V] at hv
    obtain ⟨cs, ⟨a, cap, rfl, _⟩, hs, hc⟩ := hv
    refine ⟨a, cap, cs, rfl, Vc.mono c' l _ _ cs g.z_le hc, fun hp => ?_⟩
    have hl := hc.len
    have hn : 0 < l.length := by
      rcases Nat.eq_zero_or_pos l.length with h | h
      · rw [h, Nat.zero_mul] at hl; omega
      · exact h
    obtain ⟨b, o, rfl, _, q⟩ := hs.cells R.im hn
    exact ⟨b, o, rfl, q⟩
  · rename_i c' k r off n
    split at h
    · rename_i T c2 l live hf e
      split at h
      · rename_i hh
        obtain ⟨rfl, rfl, hn⟩ := hh
        simp only [Option.some.injEq, Prod.mk.injEq] at h
        obtain ⟨rfl, rfl⟩ := h
        have hll : ((l.drop off).take n).length = n := by rw [List.length_take, List.length_drop, Nat.min_eq_left (by omega)]
        have hv2 := hv
        rw [V] at hv
        rcases hv with ⟨rfl, rfl, h3, rfl⟩ | ⟨b, cap, hb, ⟨o, rfl, ho⟩, _⟩
        · exact ⟨none, 0, [], by simp, by simp [Vc], fun h => by simp at h⟩
        · obtain ⟨cs, h1, h2, h3, h4⟩ := R.ob _ _ _ _ _ _ e b hb
          have h1 : Vc c2 l g cs := by
            cases hf
            · exact h1
            · exact Vc.mono c2 l _ _ cs g.z_le h1
          by_cases hn0 : n = 0
          · subst hn0
            exact ⟨some ⟨b, o, none⟩, cap, [], by simp, by simp [Vc], fun h => by simp at h⟩
          obtain rfl : o = off * c2 := by omega
          refine ⟨some ⟨b, off * c2, none⟩, cap, (cs.drop (off * c2)).take (n * c2), by rw [hll], (h1.drop off).take n, fun hp => ⟨b, off * c2, rfl, fun j u hu => ?_⟩⟩
          rw [List.getElem?_take] at hu
          split at hu
          · rename_i hj
            rw [List.getElem?_drop] at hu
            have hlen : 0 < l.length := by
              have := (List.getElem?_eq_some_iff.1 hu).1
              rw [h1.len] at this
              rcases Nat.eq_zero_or_pos l.length with z | z
              · rw [z, Nat.zero_mul] at this; omega
              · exact z
            cases live
            · obtain ⟨b', o', e1, -, q⟩ := Sl.cells h4 R.im hlen
              simp only [Option.some.injEq, Addr.mk.injEq, and_true] at e1
              obtain ⟨rfl, rfl⟩ := e1
              have := q _ _ hu
              simpa using this
            · obtain ⟨g', e1, -, -, -, q, -⟩ := Ow.cell h4 hlen
              simp only [Option.some.injEq, Addr.mk.injEq, and_true] at e1
              subst e1
              exact q _ _ hu
          · cases hu
      · cases h
    · cases h
  · cases h
/-- append. -/
def apA (H : AS) (s x : AV) (e : TypeId) (bytes : Nat) : Option (AV × AS) :=
  match s, elsA H x with
  | .rf c k r off n, some (c2, ys) => match H[k]? with
    | some (.row T c' l true hf) => if T = e ∧ c' = c ∧ c2 = c ∧ r = l.length ∧ off = 0 ∧ n = l.length ∧ (l.length + ys.length) * bytes ≤ 140737488355328 ∧ ys.all AV.okc = true ∧ (hf = true → ys.all AV.hfc = true) then
        (match ys with
        | [] => some (.rf c k l.length 0 l.length, H)
        | y :: m => some (.rf c k (l.length + (m.length + 1)) 0 (l.length + (m.length + 1)), H.set k (.row T c (l ++ y :: m) true hf)))
      else none
    | _ => none
  | _, _ => none
theorem apA_ok {P : Program} {t e : TypeId} {c b : Nat} {z : List Value} (E : ElemT P t e c b z) {o : Oper} {a : Act} {sx xx : Operand} (ho : o.op = .call { callee := .builtin .append, args := #[sx, xx], argTypes := #[t, t] }) {H H' : AS} {sA xA y : AV} (h : apA H sA xA e b = some (y, H')) (hcc : ∀ c' k r off n, sA = .rf c' k r off n → c' = c)
    {g : Gh} {w : World} (R : RelH g H w) (hs : V sA g (a.eval sx)) (hx : V xA g (a.eval xx)) {K : AV → AS → Prop} {next : Act → World → Prop} {Q : Exit → Act → World → Prop} (G : GoodA g H w o a K next) (hK : K y H') : o.wp P a w next Q := by
  unfold apA at h
  split at h
  · rename_i c' k r off n c2 ys hel
    obtain rfl := hcc _ _ _ _ _ rfl
    split at h
    · rename_i T c3 l hf eH
      split at h
      · rename_i hh
        obtain ⟨rfl, rfl, rfl, rfl, rfl, rfl, hb, ho1, hhf⟩ := hh
        obtain ⟨ad, cap, cs, hxe, hys, hadr⟩ := elsA_ok hel R hx
        obtain ⟨cs0, q1, q2, q3⟩ := R.ow eH hs
        have hone := hys.ok1 ho1
        cases ys with
        | nil =>
          simp only [Option.some.injEq, Prod.mk.injEq] at h
          obtain ⟨rfl, rfl⟩ := h
          refine ops_val (v := a.eval sx) (w' := w) ?_ (G _ _ _ _ _ .rfl R hs .rfl .rfl hK)
          obtain ⟨i, zv, hi, hz, hsz, hby, hzc⟩ := E.info
          obtain ⟨bs, ns, cp, hse, hle⟩ : ∃ bs ns cp, a.eval sx = .slice bs ns cp ∧ ns ≤ cp := by
            rcases q2.row.2 with ⟨h1, h2⟩ | ⟨g', cap', cur, h1, _, _, hnc, _⟩
            · exact ⟨_, _, _, h1, Nat.le_refl _⟩
            · exact ⟨_, _, _, h1, hnc⟩
          have hrun : ∀ ty, (Builtin.append_ #[t, t] ty #[.slice bs ns cp, .slice ad 0 cap]).run P w = .ok (.slice bs ns cp) w := fun ty => by
            cases bs <;> cases ad <;> simp [Builtin.append_, run_underlying E.und, sizeOf, typeInfo, hi, Builtin.lenOf, Builtin.firstCells, hle, storeCells, loadCells, loadCellsFrom]
          simp at hxe
          simp [execOp, ho, resolve, invoke, builtin, hse, hxe, hrun, Result.andThen]
        | cons y0 m =>
          simp only [Option.some.injEq, Prod.mk.injEq] at h
          obtain ⟨rfl, rfl⟩ := h
          have hlen := hys.len
          have hp : 0 < cs.length := by rw [hlen]; have := E.pos; simp only [List.length_cons]; exact Nat.mul_pos (by omega) this
          obtain ⟨b', o', rfl, hcell⟩ := hadr hp
          refine ops_list (wpList_app E (o := { o with guard := none }) rfl sx xx ho (B := 0) (h0 := g.h) (w0 := w) (St.refl' R.im (Nat.zero_le _)) (a.eval sx) l.length cs0 rfl q2 ⟨b', o', none⟩ (m.length + 1) cap cs hxe hlen (fun j u hu => by rw [Addr.add_lit]; exact hcell j u hu) hone (by simpa using hb) fun v' w' st own gr bk => ?_)
          have hysz : Vc c2 (y0 :: m) (if hf then g.z else g) cs := by
            cases hf
            · exact hys
            · exact hys.hf (hhf rfl)
          obtain ⟨g', p1, p2, p3, p4, p5⟩ := R.append (ys := y0 :: m) eH q1 q3 hysz (by simp) (by
            have hbp := E.bpos
            have := Nat.le_mul_of_pos_right (l.length + (y0 :: m).length) hbp
            omega) own gr bk
          exact G _ _ _ _ _ p1 p2 p4 p3 p5 hK
      · cases h
    · cases h
  · cases h
end Go.Proofs.YtlgdojkmbfbnjaaGreatDoor

namespace Go.Proofs.YtlgdojkmbfbnjaaGreatDoor
open Go.RowKit

theorem vl1 {P : Program} {c : Sem Value} {w : World} {g : Gh} {v : Value} (h : c.run P w = .ok v w) : ∃ r, c.run P w = .ok r w ∧ V (.vl v) g r := ⟨v, h, by rw [V]⟩
abbrev I64v (n : Int) : AV := .vl (.int .i64 n)
abbrev Bv (b : Bool) : AV := .vl (.bool b)
/-- Two plain values. -/
def bnV (op : BinOp) : Value → Value → Option Value
  | .int k a, .int k' b => if k = k' then (match op with
    | .add => some (.int k (k.wrap (a + b)))
    | .sub => some (.int k (k.wrap (a - b)))
    | .mul => some (.int k (k.wrap (a * b)))
    | .eql => some (.bool (a == b))
    | .neq => some (.bool (a != b))
    | .lss => some (.bool (decide (a < b)))
    | .leq => some (.bool (decide (a ≤ b)))
    | .gtr => some (.bool (decide (a > b)))
    | .geq => some (.bool (decide (a ≥ b)))
    | _ => none) else none
  | .string a, .string b => match op with
    | .eql => some (.bool (a.toList == b.toList))
    | .neq => some (.bool (!(a.toList == b.toList)))
    | .add => if a.size + b.size ≤ 4611686018427387904 then some (.string (a ++ b)) else none
    | _ => none
  | _, _ => none
theorem bnV_ok {P : Program} {op : BinOp} {x y v : Value} (h : bnV op x y = some v) (t : TypeId) (ox oy : Operand) (w : World) : (do eqGuard op t ox oy x y; binOp op t x y : Sem Value).run P w = .ok v w := by
  unfold bnV at h
  split at h
  · split at h
    · rename_i k a k' b hk
      subst hk
      cases op <;> simp only [Option.some.injEq, reduceCtorEq] at h <;> subst h <;> simp [binOp, eqGuard, Op.intArith, Op.intCmp]
    · cases h
  · rename_i a b
    cases op <;> simp only [Option.some.injEq, reduceCtorEq] at h
    case add =>
      split at h
      · rename_i hl
        simp only [Option.some.injEq] at h
        subst h
        have : ¬ IntKind.i64.max < (a.size : Int) + (b.size : Int) := by rw [show IntKind.i64.max = 9223372036854775807 from rfl]; omega
        simp [binOp, eqGuard, Op.stringOp]
        omega
      · cases h
    all_goals subst h <;> simp [binOp, eqGuard, Op.stringOp]
  · cases h
def bnA (op : BinOp) : AV → AV → Option AV
  | .vl x, .vl y => (bnV op x y).map .vl
  | _, _ => none
theorem bnA_ok {P : Program} {op : BinOp} {x y z : AV} {g : Gh} {u v : Value} (h : bnA op x y = some z) (hx : V x g u) (hy : V y g v) (t : TypeId) (ox oy : Operand) (w : World) : ∃ r, (do eqGuard op t ox oy u v; binOp op t u v : Sem Value).run P w = .ok r w ∧ V z g r := by
  unfold bnA at h
  split at h
  · rename_i a b
    rw [V] at hx hy
    subst hx hy
    cases e : bnV op u v with
    | none => rw [e] at h; cases h
    | some r =>
      rw [e] at h
      simp only [Option.map_some, Option.some.injEq] at h
      subst h
      exact ⟨r, bnV_ok e t ox oy w, by rw [V]⟩
  · cases h
def unA (op : UnOp) : AV → Option AV
  | .vl (.int k n) => match op with
    | .neg => some (.vl (.int k (k.wrap (0 - n))))
    | _ => none
  | .vl (.bool b) => match op with
    | .not => some (.vl (.bool !b))
    | _ => none
  | _ => none
theorem unA_ok {P : Program} {op : UnOp} {x z : AV} {g : Gh} {u : Value} (h : unA op x = some z) (hx : V x g u) (w : World) : ∃ r, (Op.unary op u).run P w = .ok r w ∧ V z g r := by
  unfold unA at h
  split at h
  · rw [V] at hx; subst hx
    cases op <;> simp only [Option.some.injEq, reduceCtorEq] at h
    subst h
    exact vl1 (by simp [Op.unary, Op.intArith])
  · rw [V] at hx; subst hx
    cases op <;> simp only [Option.some.injEq, reduceCtorEq] at h
    subst h
    exact vl1 (by simp [Op.unary])
  · cases h
/-- Number to number. -/
def cvA (P : Program) (src dst : TypeId) : AV → Option AV
  | .vl (.int _ n) => match P.underlying src, P.underlying dst with
    | some _, some (.int k) => some (.vl (.int k (k.wrap n)))
    | _, _ => none
  | _ => none
theorem cvA_ok {P : Program} {src dst : TypeId} {x z : AV} {g : Gh} {u : Value} (h : cvA P src dst x = some z) (hx : V x g u) (w : World) : ∃ r, (convert src dst u).run P w = .ok r w ∧ V z g r := by
  unfold cvA at h
  split at h
  · rw [V] at hx; subst hx
    split at h
    · rename_i h1 h2
      simp only [Option.some.injEq] at h
      subst h
      exact vl1 (by simp [convert, run_underlying h1, run_underlying h2, Conv.intToInt])
    · cases h
  · cases h
/-- max, min. -/
def mxA (m : Bool) : AV → AV → Option AV
  | .vl (.int k x), .vl (.int _ y) => some (.vl (.int k (if m then max x y else min x y)))
  | _, _ => none
theorem mxA_ok {P : Program} {m : Bool} {x y z : AV} {g : Gh} {u v : Value} (h : mxA m x y = some z) (hx : V x g u) (hy : V y g v) (w : World) : ∃ r, (if m then Go.Builtin.max2 u v else Go.Builtin.min2 u v).run P w = .ok r w ∧ V z g r := by
  unfold mxA at h
  split at h
  · rw [V] at hx
    rw [V] at hy
    subst hx
    subst hy
    simp only [Option.some.injEq] at h
    subst h
    rename_i k a k' b
    refine ⟨_, ?_, by rw [V]⟩
    cases m
    · have e : min a b = if b < a then b else a := by rw [Int.min_def]; split <;> split <;> omega
      simp only [Bool.false_eq_true, if_false, e, Go.Builtin.min2]; rfl
    · have e : max a b = if b > a then b else a := by rw [Int.max_def]; split <;> split <;> omega
      simp only [if_true, e, Go.Builtin.max2]; rfl
  · cases h
def lnA : AV → Option AV
  | .vl (.string s) => some (I64v s.size)
  | .im _ l => some (I64v l.length)
  | .rf _ _ _ _ n => some (I64v n)
  | _ => none
/-- A slice or a string. -/
def seqT (P : Program) (t : TypeId) : Option Bool := match P.underlying t with
  | some (.slice _) => some true
  | some .string => some false
  | _ => none
def isStr : AV → Bool
  | .vl (.string _) => true
  | _ => false
theorem lnA_ok {P : Program} {t ty : TypeId} {b : Bool} {x z : AV} {g : Gh} {u : Value} (h : lnA x = some z) (ht : seqT P t = some b) (hb : b = !isStr x) (hx : V x g u) (w : World) : ∃ r, (Builtin.len_ #[t] ty #[u]).run P w = .ok r w ∧ V z g r := by
  unfold seqT at ht
  unfold lnA at h
  split at h <;> simp only [Option.some.injEq, reduceCtorEq] at h <;> subst h <;> rw [V] at hx
  · subst hx
    split at ht <;> simp only [Option.some.injEq, reduceCtorEq] at ht
    · subst ht; simp [isStr] at hb
    · rename_i hu
      exact vl1 (by simp [Builtin.len_, run_underlying hu, goInt])
  · obtain ⟨cs, ⟨a, cap, rfl, _⟩, _⟩ := hx
    split at ht <;> simp only [Option.some.injEq, reduceCtorEq] at ht
    · rename_i hu
      exact vl1 (by simp [Builtin.len_, run_underlying hu, goInt])
    · subst ht; simp [isStr] at hb
  · rename_i c0 k0 r0 o0 n0
    obtain ⟨a, cap, e⟩ : ∃ a cap, u = .slice a n0 cap := by
      rcases hx with ⟨h1, _, _, h2⟩ | ⟨b, cap, _, ⟨o, h2, _⟩, _⟩
      · subst h1; exact ⟨_, _, h2⟩
      · exact ⟨_, _, h2⟩
    subst e
    split at ht <;> simp only [Option.some.injEq, reduceCtorEq] at ht
    · rename_i hu
      exact vl1 (by simp [Builtin.len_, run_underlying hu, goInt])
    · subst ht; simp [isStr] at hb
/-- A byte of a string. -/
def sxA : AV → AV → Option AV
  | .vl (.string s), .vl (.int _ i) => if 0 ≤ i ∧ i < s.size then some (.vl (.int .u8 (bt s i.toNat))) else none
  | _, _ => none
end Go.Proofs.YtlgdojkmbfbnjaaGreatDoor

namespace Go.Proofs.YtlgdojkmbfbnjaaGreatDoor
open Go.RowKit

theorem sxA_ok {P : Program} {t : TypeId} {x y z : AV} {g : Gh} {u v : Value} (h : sxA x y = some z) (ht : P.underlying t = some .string) (hx : V x g u) (hy : V y g v) (w : World) : ∃ r, (Instr.index t u v).run P w = .ok r w ∧ V z g r := by
  unfold sxA at h
  split at h
  · rename_i s k i
    rw [V] at hx hy
    subst hx hy
    split at h
    · rename_i hi
      simp only [Option.some.injEq] at h
      subst h
      have hlt : i.toNat < s.size := by omega
      refine vl1 ?_
      have e := bt_get hlt
      have e2 : s[i.toNat]? = some (s[i.toNat]'hlt) := by simp [hlt]
      simp [Instr.index, asIntOf, run_underlying ht, hi.1, e2, ← e]
    · cases h
  · cases h
/-- A bound of a slice expression. -/
def bdA : Option AV → Nat → Option Nat
  | none, d => some d
  | some (.vl (.int _ i)), _ => if 0 ≤ i then some i.toNat else none
  | _, _ => none
/-- x[lo:hi]. -/
def slA (x : AV) (lo hi : Option AV) : Option AV :=
  match x with
  | .vl (.string s) => match bdA lo 0, bdA hi s.size with
    | some l, some h => if l ≤ h ∧ h ≤ s.size then some (.vl (.string (s.extract l h))) else none
    | _, _ => none
  | .im c xs => match bdA lo 0, bdA hi xs.length with
    | some l, some h => if l ≤ h ∧ h ≤ xs.length then some (.im c ((xs.drop l).take (h - l))) else none
    | _, _ => none
  | .rf c k r off n => match bdA lo 0, bdA hi n with
    | some l, some h => if l ≤ h ∧ h ≤ n then some (.rf c k r (off + l) (h - l)) else none
    | _, _ => none
  | _ => none

/-- Bounds, as values. -/
def Vo (g : Gh) : Option AV → Option Value → Prop
  | none, none => True
  | some x, some v => V x g v
  | _, _ => False
theorem bdA_ok {g : Gh} {x : Option AV} {v : Option Value} {d l : Nat} (h : bdA x d = some l) (hv : Vo g x v) : (v = none ∧ l = d) ∨ ∃ k, v = some (.int k (l : Int)) := by
  unfold bdA at h
  split at h
  · cases v with
    | none => exact .inl ⟨rfl, by simpa using h.symm⟩
    | some v => exact hv.elim
  · rename_i k i
    cases v with
    | none => exact hv.elim
    | some v =>
      have hv : V (.vl (.int k i)) g v := hv
      rw [V] at hv
      subst hv
      split at h
      · simp only [Option.some.injEq] at h
        exact .inr ⟨k, by congr 2; omega⟩
      · cases h
  · cases h
theorem run_slA {P : Program} {t e : TypeId} {i : TypeInfo} {ad : Option Addr} {n cap l h : Nat} {vl vh : Option Value} (hu : P.underlying t = some (.slice e)) (hi : P.info? e = some i) (h1 : (vl = none ∧ l = 0) ∨ ∃ k, vl = some (.int k (l : Int))) (h2 : (vh = none ∧ h = n) ∨ ∃ k, vh = some (.int k (h : Int))) (hl : l ≤ h) (hh : h ≤ n) (hc : n ≤ cap) (w : World) :
    (Instr.sliceAt t (.slice ad n cap) vl vh none).run P w = .ok (.slice (if cap = l then ad else ad.map (·.add (l * i.size))) (h - l) (cap - l)) w := by
  have e0 : P.elem t = e := by simp [Program.elem, hu]
  have hu' : P.underlying t = some (.slice (P.elem t)) := by rw [e0]; exact hu
  have es : (sizeOf (P.elem t)).run P w = .ok i.size w := by rw [e0]; simp [sizeOf, typeInfo, hi]
  rw [run_sliceAt_slice _ _ _ _ _ _ hu']
  rcases h1 with ⟨rfl, rfl⟩ | ⟨k, rfl⟩ <;> rcases h2 with ⟨rfl, rfl⟩ | ⟨k2, rfl⟩
  · rw [run_slice_all (w := w) (t := t) (a := ad) (len := h) (cap := cap) (ht := hu'), es]; rfl
  · rw [run_slice_h (w := w) (t := t) (a := ad) (len := n) (cap := cap) (ht := hu') k2 h (by omega) (by omega), es]; rfl
  · rw [run_slice_l (w := w) (t := t) (a := ad) (len := h) (cap := cap) (ht := hu') k l (by omega) (by omega), es]; rfl
  · rw [run_slice_lh (w := w) (t := t) (a := ad) (len := n) (cap := cap) (ht := hu') k k2 l h (by omega) (by omega) (by omega), es]; rfl
theorem Sl.sub {hp : Hp} {ad : Option Addr} {n cap c l h s : Nat} {cs : List Value} (S : Sl hp (.slice ad n cap) n c cs) (hl : l ≤ h) (hh : h ≤ n) (hc : n ≤ cap) (hs : s = c) : Sl hp (.slice (if cap = l then ad else ad.map (·.add (l * s))) (h - l) (cap - l)) (h - l) c ((cs.drop (l * c)).take ((h - l) * c)) := by
  subst hs
  obtain ⟨a, cp, e, h1, h2, h3⟩ := S
  simp only [Value.slice.injEq, true_and] at e
  obtain ⟨rfl, rfl⟩ := e
  have hm : (h - l) * s ≤ cs.length - l * s := by
    rw [h2, ← Nat.sub_mul]; exact Nat.mul_le_mul_right _ (by omega)
  refine ⟨_, _, rfl, by omega, by rw [List.length_take, List.length_drop]; omega, ?_⟩
  by_cases h0 : h - l = 0
  · exact .inl h0
  · rcases h3 with h3 | ⟨b, off, cc, rfl, hb, hcc⟩
    · omega
    · refine .inr ⟨b, off + l * s, cc, ?_, hb, fun i hi => ?_⟩
      · rw [if_neg (by omega)]; simp [Addr.add_lit]
      · have hi2 : l * s + i < n * s := by
          have : (l + (h - l)) * s ≤ n * s := Nat.mul_le_mul_right _ (by omega)
          rw [Nat.add_mul] at this; omega
        rw [Nat.add_assoc, hcc _ hi2, List.getElem?_take, if_pos hi, List.getElem?_drop]
/-- The elements' cells, as the type has them. -/
def strideOk (x : AV) (c : Nat) : Bool := match x with
  | .im c' _ => c' == c
  | .rf c' _ _ _ _ => c' == c
  | _ => false
theorem slA_ok {P : Program} {t e : TypeId} {i : TypeInfo} {x z : AV} {lo hi : Option AV} {g : Gh} {u : Value} {vl vh : Option Value} (h : slA x lo hi = some z) (ht : (isStr x = true ∧ P.underlying t = some .string) ∨ (P.underlying t = some (.slice e) ∧ P.info? e = some i ∧ strideOk x i.size = true)) (hx : V x g u) (h1 : Vo g lo vl) (h2 : Vo g hi vh) (w : World) :
    ∃ r, (Instr.sliceAt t u vl vh none).run P w = .ok r w ∧ V z g r := by
  unfold slA at h
  split at h
  · rename_i s
    rw [V] at hx
    subst hx
    split at h
    · rename_i l h' e1 e2
      split at h
      · rename_i hh
        simp only [Option.some.injEq] at h
        subst h
        rcases ht with ⟨-, ht⟩ | ⟨_, _, ht⟩
        · rw [run_sliceAt_string _ _ _ _ _ _ ht]
          refine vl1 ?_
          have b1 := bdA_ok e1 h1
          have b2 := bdA_ok e2 h2
          rcases b1 with ⟨rfl, rfl⟩ | ⟨k, rfl⟩ <;> rcases b2 with ⟨rfl, rfl⟩ | ⟨k2, rfl⟩ <;> simp [Instr.slice, run_underlying ht, Instr.sliceBounds, run_sliceBound, hh.1, hh.2] <;> omega
        · simp [strideOk] at ht
      · cases h
    · cases h
  · rename_i c xs
    split at h
    · rename_i l h' e1 e2
      split at h
      · rename_i hh
        simp only [Option.some.injEq] at h
        subst h
        rcases ht with ⟨ht, _⟩ | ⟨ht, hi, hs⟩
        · cases ht
        · simp only [strideOk, beq_iff_eq] at hs
          subst hs
          rw [V] at hx
          obtain ⟨cs, ⟨a, cap, rfl, hc⟩, S, hv⟩ := hx
          refine ⟨_, run_slA ht hi (bdA_ok e1 h1) (bdA_ok e2 h2) hh.1 hh.2 hc w, ?_⟩
          rw [V]
          have hll : ((xs.drop l).take (h' - l)).length = h' - l := by rw [List.length_take, List.length_drop]; omega
          refine ⟨_, ⟨_, _, by rw [hll], by rw [hll]; omega⟩, ?_, (hv.drop l).take (h' - l)⟩
          rw [hll]
          exact S.sub hh.1 hh.2 hc rfl
      · cases h
    · cases h
  · rename_i c k r off n
    split at h
    · rename_i l h' e1 e2
      split at h
      · rename_i hh
        simp only [Option.some.injEq] at h
        subst h
        rcases ht with ⟨ht, _⟩ | ⟨ht, hi, hs⟩
        · cases ht
        · simp only [strideOk, beq_iff_eq] at hs
          subst hs
          rw [V] at hx
          rcases hx with ⟨rfl, rfl, rfl, rfl⟩ | ⟨b, cap, hb, ⟨o, rfl, ho⟩, hcp, hc⟩
          · refine ⟨_, run_slA ht hi (bdA_ok e1 h1) (bdA_ok e2 h2) hh.1 hh.2 (Nat.le_refl _) w, ?_⟩
            rw [V]
            obtain rfl : l = 0 := by omega
            obtain rfl : h' = 0 := by omega
            exact .inl ⟨rfl, rfl, rfl, by simp⟩
          · refine ⟨_, run_slA ht hi (bdA_ok e1 h1) (bdA_ok e2 h2) hh.1 hh.2 hc w, ?_⟩
            rw [V]
            refine .inr ⟨b, cap - l, hb, ?_, by omega, by omega⟩
            by_cases hl : cap = l
            · rw [if_pos hl]
              refine ⟨o, rfl, ?_⟩
              rcases Nat.eq_zero_or_pos (off + l) with z | z
              · obtain rfl : off = 0 := by omega
                obtain rfl : l = 0 := by omega
                rcases ho with ho | ho
                · omega
                · exact .inr ho
              · exact .inl ⟨by omega, z⟩
            · rw [if_neg hl]
              refine ⟨o + l * i.size, by simp [Addr.add_lit], ?_⟩
              rcases ho with ho | ho
              · exact .inl ⟨by omega, by omega⟩
              · exact .inr (by rw [ho, Nat.add_mul])
      · cases h
    · cases h
  · cases h
end Go.Proofs.YtlgdojkmbfbnjaaGreatDoor
