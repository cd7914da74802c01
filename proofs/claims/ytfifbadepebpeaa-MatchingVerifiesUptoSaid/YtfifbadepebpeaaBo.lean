/- Plain: when a certificate proves, in terms of all compared pairs. -/
import Derived.Test.YtfifbadepebpeaaBj
namespace Go.Proofs.Ytfifbadepebpeaa
open Go.RowKit

section
variable {x y : List NodeP}
theorem provedP_iff (px : PO x) (py : PO y) (m : MatchP) : provedP x y m ↔ keys m.proof = allC x y ∧ (∀ e ∈ m.proof, EntV x y (dget m.proof) e) ∧ (m.proof.getD 0 default).cost = m.cost := by
  unfold provedP
  obtain ⟨h1, h2⟩ := cmpB_all px py (m.proof.length : Int)
  have hk : (m.proof.map fun e => (e.a, e.b)) = keys m.proof := rfl
  rw [hk]
  have : (cmpB x y (m.proof.length : Int)).map sortP = some (keys m.proof) ↔ keys m.proof = allC x y := by
    by_cases hl : ((allC x y).length : Int) ≤ m.proof.length
    · obtain ⟨l, e1, e2⟩ := h1 hl
      rw [e1, Option.map_some, e2]
      exact ⟨fun e => (Option.some.inj e).symm, fun e => by rw [e]⟩
    · rw [h2 (by omega)]
      refine ⟨fun e => (by cases e), fun e => absurd ?_ hl⟩
      rw [← e, keys_len]
      exact Int.le_refl _
  rw [this]
theorem take_len (C : List (Int × Int)) (n : Nat) : (C.take (n + 1)).length = n → C.length = n ∧ C.take (n + 1) = C := fun h => by
  rw [List.length_take] at h
  exact ⟨by omega, List.take_of_length_le (by omega)⟩
theorem dget_i64 {es : List CompP} (h : ∀ e ∈ es, I64 e.cost) (q : Int × Int) : I64 (dget es q) := by
  unfold dget
  split
  · rename_i e he
    exact h e (List.mem_of_find?_eq_some he)
  · unfold I64; omega
theorem keys_snoc {es : List CompP} {C : List (Int × Int)} {k : Nat} (hl : es.length = C.length) (hk : k < C.length) (h : (keys es).take k = C.take k) (ha : (es[k]'(by omega)).a = C[k].1) (hb : (es[k]'(by omega)).b = C[k].2) : (keys es).take (k + 1) = C.take (k + 1) := by
  have hk' : k < (keys es).length := by rw [keys_len]; omega
  rw [List.take_add_one, List.take_add_one, List.getElem?_eq_getElem hk', List.getElem?_eq_getElem hk, h, keys_at es k (by omega)]
  have : ((es[k]'(by omega)).a, (es[k]'(by omega)).b) = C[k] := Prod.ext ha hb
  rw [this]
theorem keys_ne {es : List CompP} {C : List (Int × Int)} {k : Nat} (hl : es.length = C.length) (hk : k < C.length) (h : ¬ ((es[k]'(by omega)).a = C[k].1 ∧ (es[k]'(by omega)).b = C[k].2)) : keys es ≠ C := fun e => by
  apply h
  have hk' : k < (keys es).length := by rw [keys_len]; omega
  have h1 : (keys es)[k] = C[k] := by simp only [e]
  rw [keys_at es k (by omega)] at h1
  exact ⟨congrArg Prod.fst h1, congrArg Prod.snd h1⟩
theorem SVer.bd {drop add : List Int} {cost : List (List Int)} {z : AlignP} (h : SVer drop add cost z) : 0 ≤ z.cost ∧ z.cost ≤ 1099511627776 := by
  obtain ⟨_, _, h3, _, h5, _⟩ := h
  rw [← h5]
  exact cg_within h3 _ _
end
theorem tab_new {h4 : Hp} {w4 : World} (hi : Imm h4 w4) {x y : List NodeP} {a0 a1 a2 a3 a4 b0 b1 b2 b3 b4 : Value} (nx : NumE h4 x [a0, a1, a2, a3, a4]) (ny : NumE h4 y [b0, b1, b2, b3, b4]) (vl : Value) (T : TypeId) :
    ∃ h5, Imm h5 (w4.alloc (.cells #[a0, a1, a2, a3, a4, b0, b1, b2, b3, b4, vl] T)) ∧ h4.le h5 ∧ Tab h5 w4.heap.size x y vl := by
  have hno : h4 w4.heap.size = none := new_own hi _ (Nat.le_refl _)
  have hle := Hp.le_add #[a0, a1, a2, a3, a4, b0, b1, b2, b3, b4, vl] hno
  refine ⟨h4.add w4.heap.size #[a0, a1, a2, a3, a4, b0, b1, b2, b3, b4, vl], (hi.alloc _).add ((Has.new w4 _ T).blk (by simp)), hle, ?_⟩
  exact ⟨a0, a1, a2, a3, a4, b0, b1, b2, b3, b4, by unfold Hp.add; rw [if_pos rfl], nx.mono hle, ny.mono hle⟩
end Go.Proofs.Ytfifbadepebpeaa

/- A matching whose certificate's row is owned: what the reference's Match gives. -/
namespace Go.Proofs.Ytfifbadepebpeaa
open Go.RowKit

def MatchO (B : Nat) (h : Hp) (w : World) (v : Value) (m : MatchP) : Prop :=
  (m.proof = [] ∧ MatchV h v m) ∨
  ∃ (ap : Option Addr) (cp g : Nat) (xs : List Value), v = .agg #[.slice ap m.pairs.length cp, .int .i64 m.cost, .bool m.proven, .int .i64 m.bound, .slice (some ⟨g, 0, none⟩) m.proof.length m.proof.length] ∧ I64 m.cost ∧ I64 m.bound ∧ m.proof.length ≤ 1000000 ∧ Prs h (.slice ap m.pairs.length cp) m.pairs ∧ Ow w h B 45 6 (.slice (some ⟨g, 0, none⟩) m.proof.length m.proof.length) m.proof.length xs ∧ EncL (EncComp h) m.proof xs

theorem St.unfr {hj h9 h10 : Hp} {wr w10 : World} (hi : Imm hj wr) (S : St wr.heap.size h9 wr h10 w10) : St wr.heap.size hj wr (fun b => if b < wr.heap.size then hj b else h10 b) w10 := by
  refine ⟨S.below, fun b c hc => ?_, fun b c hc => ?_, fun b hb => by simp [hb], Nat.le_refl _⟩
  · by_cases hb : b < wr.heap.size
    · simp only [hb, if_true] at hc
      rw [blk_of (S.below.block b hb)]
      exact hi b c hc
    · simp only [hb, if_false] at hc
      exact S.imm b c hc
  · have : b < wr.heap.size := blk_lt (hi b c hc)
    simp only [this, if_true]
    exact hc
theorem Sl.on {h h' : Hp} {v : Value} {n k : Nat} {cs : List Value} (s : Sl h v n k cs) (e : ∀ g, v.ownBlock = some g → h' g = h g) : Sl h' v n k cs := by
  obtain ⟨a, cap, rfl, h1, h2, h3⟩ := s
  refine ⟨a, cap, rfl, h1, h2, ?_⟩
  rcases h3 with h3 | ⟨b, off, c, rfl, h4, h5⟩
  · exact .inl h3
  · exact .inr ⟨b, off, c, rfl, by rw [e b rfl]; exact h4, h5⟩
theorem Prs.on {h h' : Hp} {v : Value} {l : List (Int × Int)} (p : Prs h v l) (e : ∀ g, v.ownBlock = some g → h' g = h g) : Prs h' v l := ⟨p.1.on e, p.2⟩
end Go.Proofs.Ytfifbadepebpeaa

/- The owned row of a certificate: reading and changing a cost; all but one box taken for unchanging. -/
namespace Go.Proofs.Ytfifbadepebpeaa
open Go.RowKit

def Hp.frx (h : Hp) (B : Nat) (w : World) (x : Nat) : Hp := fun b => if b = x then none else h.fr B w b
theorem Hp.frx_x (h : Hp) (B : Nat) (w : World) (x : Nat) : (h.frx B w x) x = none := by unfold Hp.frx; rw [if_pos rfl]
theorem Imm.frx {h : Hp} {B x : Nat} {w : World} (hi : Imm h w) : Imm (h.frx B w x) w := fun b c hc => by
  unfold Hp.frx at hc
  split at hc
  · cases hc
  · exact hi.fr b c hc
theorem Hp.le_frx {h : Hp} {B x : Nat} {w : World} (hi : Imm h w) (hx : h x = none) : h.le (h.frx B w x) := fun b c hc => by
  unfold Hp.frx
  split
  · rename_i e; rw [e, hx] at hc; cases hc
  · exact Hp.le_fr hi b c hc

structure RowO (B : Nat) (h : Hp) (w : World) (g : Nat) (ap : Option Addr) (cp : Nat) (m : MatchP) (xs : List Value) : Prop where
  i1 : I64 m.cost
  i2 : I64 m.bound
  len : m.proof.length ≤ 1000000
  prs : Prs h (.slice ap m.pairs.length cp) m.pairs
  own : Ow w h B 45 6 (.slice (some ⟨g, 0, none⟩) m.proof.length m.proof.length) m.proof.length xs
  enc : EncL (EncComp h) m.proof xs
section
variable {B g : Nat} {h : Hp} {w w' : World} {ap : Option Addr} {cp : Nat} {m : MatchP} {xs : List Value}
theorem RowO.alloc (r : RowO B h w g ap cp m xs) (o : Obj) : RowO B h (w.alloc o) g ap cp m xs := ⟨r.i1, r.i2, r.len, r.prs, r.own.alloc o, r.enc⟩
theorem RowO.same (r : RowO B h w g ap cp m xs) (hb : Below w.heap.size w w') : RowO B h w' g ap cp m xs := ⟨r.i1, r.i2, r.len, r.prs, r.own.same hb, r.enc⟩
theorem RowO.drew (r : RowO B h w g ap cp m xs) : RowO B h w.drew g ap cp m xs := ⟨r.i1, r.i2, r.len, r.prs, r.own.drew, r.enc⟩
theorem RowO.no (r : RowO B h w g ap cp m xs) : h g = none ∧ B ≤ g ∧ g < w.heap.size := ⟨r.own.free g rfl, r.own.lt g rfl⟩
theorem RowO.cell (r : RowO B h w g ap cp m xs) {n : Nat} (hn : n < m.proof.length) : w.cell? ⟨g, n * 6 + 2, none⟩ = some (.int .i64 m.proof[n].cost) ∧ w.frozen? ⟨g, n * 6 + 2, none⟩ = false ∧ I64 m.proof[n].cost := by
  obtain ⟨g', hg', _, _, _, hcl, hfz⟩ := r.own.cell (by omega)
  obtain rfl : g = g' := by simpa using hg'
  obtain ⟨a, h1, h2⟩ := r.enc.at 6 EncComp.len n hn
  obtain ⟨q, rfl, i1, i2, i3, h3⟩ := h1
  exact ⟨hcl _ _ (by rw [h2 2 (by omega)]; rfl), hfz _, i3⟩
theorem RowO.put (r : RowO B h w g ap cp m xs) {n : Nat} (hn : n < m.proof.length) (c : Int) (hc : I64 c) :
    RowO B h (w.setCell ⟨g, n * 6 + 2, none⟩ (.int .i64 c)) g ap cp { m with proof := m.proof.set n { m.proof[n] with cost := c } } (xs.set (n * 6 + 2) (.int .i64 c)) := by
  have hl := r.own.len
  have o1 := r.own.set (n * 6 + 2) (.int .i64 c) (by omega)
  obtain ⟨a, h1, h2⟩ := r.enc.at 6 EncComp.len n hn
  obtain ⟨q, rfl, i1, i2, i3, h3⟩ := h1
  have hr := EncAlign.len _ _ h3
  refine ⟨r.i1, r.i2, by simpa using r.len, r.prs, by simpa using o1, ?_⟩
  refine r.enc.put 6 EncComp.len n hn { m.proof[n] with cost := c } ([.int .i64 m.proof[n].a, .int .i64 m.proof[n].b, .int .i64 c] ++ q) ⟨q, rfl, i1, i2, hc, h3⟩ _ (fun o ho => ?_) (fun j hj => ?_)
  · rw [List.getElem?_set]
    by_cases e : n * 6 + 2 = n * 6 + o
    · have : o = 2 := by omega
      subst this
      rw [if_pos rfl, if_pos (by omega)]; rfl
    · rw [if_neg e, h2 o ho]
      have : o = 0 ∨ o = 1 ∨ o = 3 ∨ o = 4 ∨ o = 5 := by omega
      rcases this with rfl | rfl | rfl | rfl | rfl <;> rfl
  · rw [List.getElem?_set, if_neg (by omega)]
theorem RowO.frx (hi : Imm h w) {x : Nat} (hx : h x = none) (hg : g ≠ x) (r : RowO B h w g ap cp m xs) :
    MatchV (h.frx B w x) (.agg #[.slice ap m.pairs.length cp, .int .i64 m.cost, .bool m.proven, .int .i64 m.bound, .slice (some ⟨g, 0, none⟩) m.proof.length m.proof.length]) m := by
  have hle := Hp.le_frx (B := B) hi hx
  have hl := r.len
  refine ⟨ap, cp, some ⟨g, 0, none⟩, m.proof.length, rfl, r.i1, r.i2, r.prs.mono hle, xs, (r.own.sl (by omega)).on (fun g' hg' => ?_), r.enc.mono fun _ _ q => q.mono hle⟩
  obtain rfl : g = g' := by simpa [Value.ownBlock] using hg'
  unfold Hp.frx
  rw [if_neg hg]
end
theorem MatchO.row {B : Nat} {h : Hp} {w : World} {v : Value} {m : MatchP} (o : MatchO B h w v m) : (m.proof = [] ∧ MatchV h v m) ∨ ∃ (ap : Option Addr) (cp g : Nat) (xs : List Value), v = .agg #[.slice ap m.pairs.length cp, .int .i64 m.cost, .bool m.proven, .int .i64 m.bound, .slice (some ⟨g, 0, none⟩) m.proof.length m.proof.length] ∧ RowO B h w g ap cp m xs := by
  rcases o with o | ⟨ap, cp, g, xs, rfl, i1, i2, hl, hp, ho, he⟩
  · exact .inl o
  · exact .inr ⟨ap, cp, g, xs, rfl, i1, i2, hl, hp, ho, he⟩
theorem MatchV.num {h : Hp} {ap ar : Option Addr} {np cp nr cr : Nat} {c d : Int} {p : Bool} {m : MatchP} (hv : MatchV h (.agg #[.slice ap np cp, .int .i64 c, .bool p, .int .i64 d, .slice ar nr cr]) m) (c' d' : Int) (p' : Bool) (hc : I64 c') (hd : I64 d') :
    MatchV h (.agg #[.slice ap np cp, .int .i64 c', .bool p', .int .i64 d', .slice ar nr cr]) { m with cost := c', bound := d', proven := p' } := by
  obtain ⟨a, b, e, f, h1, h2, h3, h4, h5⟩ := hv
  simp only [Value.agg.injEq, Array.mk.injEq, List.cons.injEq, Value.slice.injEq, Value.int.injEq, Value.bool.injEq, and_true, true_and] at h1
  obtain ⟨⟨rfl, rfl, rfl⟩, rfl, rfl, rfl, rfl, rfl, rfl⟩ := h1
  exact ⟨_, _, _, _, rfl, hc, hd, h4, h5⟩
theorem Imm.set1 {h : Hp} {w : World} (hi : Imm h w) {x i : Nat} (hx : h x = none) (v : Value) : Imm h (w.setCell ⟨x, i, none⟩ v) := fun b c hc => by
  rw [blk_of (Below.heap_setCell _ _ _ _ (fun e => by rw [show b = x from e, hx] at hc; cases hc))]
  exact hi b c hc
theorem MatchO.start {B : Nat} {h : Hp} {w : World} {v : Value} {m : MatchP} (hi : Imm h w) (_hB : B ≤ w.heap.size) (o : MatchO B h w v m) :
    ∃ (ap : Option Addr) (cp : Nat) (ar : Option Addr) (cr : Nat), v = .agg #[.slice ap m.pairs.length cp, .int .i64 m.cost, .bool m.proven, .int .i64 m.bound, .slice ar m.proof.length cr] ∧ (∃ h5, h.le h5 ∧ Imm h5 w ∧ h5 w.heap.size = none ∧ MatchV h5 v m) ∧ I64 m.cost ∧ I64 m.bound ∧ m.proof.length ≤ 140737488355328 ∧ (0 < m.proof.length → ∃ (g : Nat) (xs : List Value), ar = some ⟨g, 0, none⟩ ∧ cr = m.proof.length ∧ RowO B h w g ap cp m xs) := by
  have hs := new_own hi _ (Nat.le_refl _)
  have hle : h.le (h.frx B w w.heap.size) := Hp.le_frx hi hs
  rcases o.row with ⟨e, hv⟩ | ⟨ap, cp, g, xs, rfl, r⟩
  · have hv' := hv
    obtain ⟨ap, cp, ar, cr, rfl, i1, i2, _, _⟩ := hv
    exact ⟨ap, cp, ar, cr, rfl, ⟨_, hle, hi.frx, Hp.frx_x _ _ _ _, hv'.mono hle⟩, i1, i2, by simp [e], fun hp => by simp [e] at hp⟩
  · exact ⟨ap, cp, _, _, rfl, ⟨_, hle, hi.frx, Hp.frx_x _ _ _ _, r.frx hi hs (by have := r.no.2.2; omega)⟩, r.i1, r.i2, by have := r.len; omega, fun _ => ⟨g, xs, rfl, rfl, r⟩⟩
theorem wrap_I64 (x : Int) : I64 (IntKind.i64.wrap x) := by unfold I64; rw [IntKind.wrap_i64]; omega
end Go.Proofs.Ytfifbadepebpeaa
