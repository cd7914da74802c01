/- What the arguments of a statement read as. -/
import Derived.Test.YtfifbadepebpeaaBa
import Derived.Test.YtfifbadepebpeaaRows
import Derived.WalkKit
import Derived.ProofKit
import Derived.OpenShut
import Derived.WideKeyArgs
import Derived.ChangeArms
import Derived.JoinedCond
namespace Go.Proofs.Ytfifbadepebpeaa
open Go.RowKit Go.ChangeShapes Go.WideShapes

theorem imm_blk (w : World) : Imm (blk w) w := fun _ _ h => h

theorem cell_blk {w : World} {a : Addr} {v : Value} (h : w.cell? a = some v) : a.spot = none ∧ ∃ c, blk w a.block = some c ∧ c[a.off]? = some v := by
  unfold World.cell? at h
  split at h
  · rename_i c e f hh
    split at h
    · cases h
    · rename_i hs
      refine ⟨by simpa using hs, c, by simp [blk, hh], h⟩
  · cases h

theorem bulk_pos {H : Type} (d : DataW H) : 1 ≤ Rows.uptoBulk d := by
  cases d with
  | lit l => cases l <;> simp [Rows.uptoBulk]
  | nil => simp [Rows.uptoBulk]
  | ptr d => simp [Rows.uptoBulk]
  | slice elems spare => simp [Rows.uptoBulk]
  | agg parts => simp [Rows.uptoBulk]
  | iface t d => simp [Rows.uptoBulk]
  | map es => simp [Rows.uptoBulk]
  | held h => simp [Rows.uptoBulk]

theorem bulkAll_cons {H : Type} (d : DataW H) (r : List (DataW H)) : Rows.uptoBulkAll (d :: r) = Rows.uptoBulk d + Rows.uptoBulkAll r := by rw [Rows.uptoBulkAll]

theorem bulkAll_len {H : Type} : ∀ (ds : List (DataW H)), ds.length ≤ Rows.uptoBulkAll ds
  | [] => by simp
  | d :: ds => by rw [bulkAll_cons, List.length_cons]; have := bulkAll_len ds; have := bulk_pos d; omega
theorem bulkAll_mem {H : Type} {d : DataW H} : ∀ {ds : List (DataW H)}, d ∈ ds → Rows.uptoBulk d ≤ Rows.uptoBulkAll ds
  | e :: ds, h => by
    rw [bulkAll_cons]
    rcases List.mem_cons.1 h with rfl | h
    · omega
    · have := bulkAll_mem h; omega

section
variable {H : Type} {enc : TypeId × Value → H} {w : World} {sp : Nat → Bool} {held : Bool}

theorem elems_of {α : Type} (R : α → List Value → Prop) (m : α → Nat) (k : Nat) (b off : Nat) : ∀ (els : List (DataW H × List MemPlace)) (j : Nat),
    (∀ i (hi : i < els.length), ∃ x c, R x c ∧ c.length = k ∧ (∀ q, q < k → w.cell? ⟨b, off + (j + i) * k + q, none⟩ = c[q]?) ∧ m x ≤ Rows.uptoBulk els[i].1) →
    ∃ (l : List α) (xs : List Value), l.length = els.length ∧ EncL R l xs ∧ xs.length = els.length * k ∧ (∀ q, q < els.length * k → w.cell? ⟨b, off + j * k + q, none⟩ = xs[q]?) ∧ (l.map m).sum ≤ Rows.uptoBulkAll (els.map (·.1))
  | [], j, _ => ⟨[], [], rfl, rfl, by simp, fun q hq => by simp at hq, by simp⟩
  | e :: els, j, h => by
    obtain ⟨x, c, hr, hc, hcell, hm⟩ := h 0 (by simp)
    obtain ⟨l, xs, h1, h2, h3, h4, h5⟩ := elems_of R m k b off els (j + 1) (fun i hi => by
      obtain ⟨x, c, a1, a2, a3, a4⟩ := h (i + 1) (by simpa using hi)
      refine ⟨x, c, a1, a2, fun q hq => ?_, by simpa using a4⟩
      rw [← a3 q hq, show j + 1 + i = j + (i + 1) by omega])
    refine ⟨x :: l, c ++ xs, by simp [h1], ⟨c, xs, rfl, hr, h2⟩, by simp only [List.length_append, List.length_cons, hc, h3, Nat.add_mul]; omega, fun q hq => ?_, ?_⟩
    · rcases Nat.lt_or_ge q k with hqk | hqk
      · rw [List.getElem?_append_left (by omega), ← hcell q hqk, Nat.add_zero]
      · rw [List.getElem?_append_right (by omega), hc, ← h4 (q - k) (by simp only [List.length_cons, Nat.add_mul] at hq; omega)]
        congr 2
        rw [Nat.add_mul]; omega
    · simp only [List.map_cons, List.sum_cons, bulkAll_cons]
      simp only [List.getElem_cons_zero] at hm
      omega

theorem sl_read {α : Type} {t e : TypeId} {k fuel : Nat} {cs : List Value} {x : DataW H × List MemPlace} (ht : Try.prog.underlying t = some (.slice e)) (hk : Try.prog.cellsOf e = k) (hk0 : 0 < k) (R : α → List Value → Prop) (m : α → Nat)
    (hR : ∀ n cs x, n < fuel → DataW.trod enc Try.prog w 0 sp held n e cs = some x → Rows.uptoBulk x.1 ≤ 1048576 → ∃ y, R y cs ∧ cs.length = k ∧ m y ≤ Rows.uptoBulk x.1)
    (hbk : Rows.uptoBulk x.1 ≤ 1048576) (h : DataW.trod enc Try.prog w 0 sp held fuel t cs = some x) :
    ∃ (a : Option Addr) (cap : Nat) (l : List α) (xs : List Value), cs = [.slice a l.length cap] ∧ Sl (blk w) (.slice a l.length cap) l.length k xs ∧ EncL R l xs ∧ (l.map m).sum + 1 ≤ Rows.uptoBulk x.1 := by
  rcases DataW.trod_slice ht h with ⟨rfl, rfl⟩ | ⟨a, len, cap, elems, rest, n, hn, rfl, rfl, hb, hl, hm, hlen, hel, _, _⟩
  · exact ⟨none, 0, [], [], rfl, Sl.nil _ _ _ _, rfl, by simp [Rows.uptoBulk]⟩
  · rw [hk] at hel
    have hbk2 : Rows.uptoBulkAll (elems.map (·.1)) ≤ 1048576 := by simp only [Rows.uptoBulk] at hbk; omega
    have hmax : len ≤ 1048576 := by have := bulkAll_len (elems.map (·.1)); rw [List.length_map] at this; omega
    have hone : ∀ i (hi : i < elems.length), ∃ c, w.cells? 0 (a.add (i * k)) k = some c ∧ DataW.trod enc Try.prog w 0 sp held n e c = some elems[i] := fun i hi => by
      have := hel i (by omega)
      rw [List.getElem?_eq_getElem hi] at this
      obtain ⟨c, h1, h2⟩ := Option.bind_eq_some_iff.1 this
      exact ⟨c, h1, h2⟩
    have hadd : ∀ i q, (a.add (i * k)).add q = a.add (i * k + q) := fun i q => by
      unfold Addr.add
      by_cases h1 : i * k = 0 <;> by_cases h2 : q = 0 <;> simp [h1, h2, Nat.add_assoc]
    have hspot : 0 < elems.length → a.spot = none := fun h0 => by
      obtain ⟨c, h1, _⟩ := hone 0 h0
      obtain ⟨_, h2, h3⟩ := World.cells?_some h1
      have := h3 0 hk0
      rw [hadd] at this
      simp only [Nat.zero_mul, Nat.add_zero] at this
      rw [List.getElem?_eq_getElem (by omega)] at this
      exact (cell_blk this).1
    have haddr : 0 < elems.length → ∀ q, a.add q = ⟨a.block, a.off + q, none⟩ := fun h0 q => by
      have := hspot h0
      unfold Addr.add
      by_cases hq : q = 0
      · rw [if_pos hq, hq, Nat.add_zero, ← this]
      · rw [if_neg hq]
    obtain ⟨l, xs, h1, h2, h3, h4, h5⟩ := elems_of (w := w) R m k a.block a.off elems 0 (fun i hi => by
      obtain ⟨c, c1, c2⟩ := hone i hi
      obtain ⟨_, c3, c4⟩ := World.cells?_some c1
      obtain ⟨y, y1, y2, y3⟩ := hR n c _ (by omega) c2 (by have := bulkAll_mem (ds := elems.map (·.1)) (List.mem_map.2 ⟨elems[i], List.getElem_mem hi, rfl⟩); omega)
      refine ⟨y, c, y1, y2, fun q hq => ?_, y3⟩
      rw [← c4 q hq, hadd, haddr (by omega), Nat.zero_add, Nat.add_assoc])
    subst hlen
    refine ⟨some a, cap, l, xs, by rw [h1], ⟨some a, cap, rfl, by omega, by rw [h3, h1], ?_⟩, h2, ?_⟩
    · rcases Nat.eq_zero_or_pos elems.length with h0 | h0
      · left; omega
      · right
        have hb2 := hspot h0
        have hk1 : 0 < elems.length * k := Nat.mul_pos h0 hk0
        have hc0 := h4 0 hk1
        rw [List.getElem?_eq_getElem (by omega)] at hc0
        obtain ⟨_, c, e1, _⟩ := cell_blk hc0
        refine ⟨a.block, a.off, c, by rw [← hb2], e1, fun i hi => ?_⟩
        rw [← h4 i (by rw [← h1]; exact hi), Nat.zero_mul, Nat.add_zero, blk_cell e1]
    · simp only [Rows.uptoBulk]; omega

theorem i64_of {n : Int} (h : (Lit.int .i64 n).wf = true) : I64 n := bounds_i64 h

theorem int_read {t : TypeId} (ht : Try.prog.underlying t = some (.int .i64)) {fuel : Nat} {cs : List Value} {x : DataW H × List MemPlace} (h : DataW.trod enc Try.prog w 0 sp held fuel t cs = some x) : ∃ n, cs = [.int .i64 n] ∧ I64 n := by
  obtain ⟨n, h1, _, h3⟩ := DataW.trod_int ht h
  exact ⟨n, h1, i64_of h3⟩

def RInt (n : Int) (c : List Value) : Prop := c = [.int .i64 n] ∧ I64 n
def RPair (p : Int × Int) (c : List Value) : Prop := c = encP p ∧ I64 p.1 ∧ I64 p.2
theorem encInts : ∀ {l : List Int} {xs : List Value}, EncL RInt l xs → xs = l.map (Value.int .i64) ∧ ∀ q ∈ l, I64 q
  | [], xs, h => by simp only [EncL] at h; subst h; simp
  | n :: l, xs, ⟨a, r, e, h1, h2⟩ => by
    obtain ⟨h3, h4⟩ := encInts h2
    refine ⟨by rw [e, h1.1, h3]; rfl, fun q hq => ?_⟩
    rcases List.mem_cons.1 hq with rfl | hq
    · exact h1.2
    · exact h4 q hq
theorem encPairs : ∀ {l : List (Int × Int)} {xs : List Value}, EncL RPair l xs → xs = l.flatMap encP ∧ ∀ q ∈ l, I64 q.1 ∧ I64 q.2
  | [], xs, h => by simp only [EncL] at h; subst h; simp
  | n :: l, xs, ⟨a, r, e, h1, h2⟩ => by
    obtain ⟨h3, h4⟩ := encPairs h2
    refine ⟨by rw [e, h1.1, h3]; rfl, fun q hq => ?_⟩
    rcases List.mem_cons.1 hq with rfl | hq
    · exact h1.2
    · exact h4 q hq
theorem ints_read {fuel : Nat} {cs : List Value} {x : DataW H × List MemPlace} (hbk : Rows.uptoBulk x.1 ≤ 1048576) (h : DataW.trod enc Try.prog w 0 sp held fuel 35 cs = some x) :
    ∃ (a : Option Addr) (cap : Nat) (l : List Int), cs = [.slice a l.length cap] ∧ Ints (blk w) (.slice a l.length cap) l ∧ l.length ≤ Rows.uptoBulk x.1 := by
  obtain ⟨a, cap, l, xs, h1, h2, h3, h4⟩ := sl_read Try.underlying35 (k := 1) (by kernel_rfl) (by decide) RInt (fun _ => 1) (fun n cs x _ h _ => by
    obtain ⟨z, e, i⟩ := int_read Try.underlying3 h
    exact ⟨z, ⟨e, i⟩, by rw [e]; rfl, bulk_pos _⟩) hbk h
  obtain ⟨h5, h6⟩ := encInts h3
  subst h5
  refine ⟨a, cap, l, h1, ⟨h2, h6⟩, ?_⟩
  have : (l.map fun _ => 1).sum = l.length := by
    clear h1 h2 h3 h4 h6
    induction l with
    | nil => rfl
    | cons a l ih => rw [List.map_cons, List.sum_cons, ih, List.length_cons]; omega
  omega

theorem pair_read {fuel : Nat} {cs : List Value} {x : DataW H × List MemPlace} (h : DataW.trod enc Try.prog w 0 sp held fuel 52 cs = some x) : ∃ p, RPair p cs := by
  obtain ⟨xs, m, _, _, hl, hn, hx⟩ := DataW.trod_array Try.underlying52 h
  have c1 : Try.prog.cellsOf 3 = 1 := by kernel_rfl
  have c2 : Try.prog.cellsOf 52 = 2 := by kernel_rfl
  rw [c2] at hl
  simp only [c1, Nat.mul_one] at hx
  have h0 := hx 0 (by omega)
  have h1 := hx 1 (by omega)
  rw [List.getElem?_eq_getElem (by omega)] at h0 h1
  obtain ⟨a, e0, i0⟩ := int_read Try.underlying3 h0
  obtain ⟨b, e1, i1⟩ := int_read Try.underlying3 h1
  match cs, hl with
  | [u, v], _ =>
    simp only [List.drop_zero, List.take_succ_cons, List.take_zero, List.drop_succ_cons, List.cons.injEq, and_true] at e0 e1
    subst e0; subst e1
    exact ⟨(a, b), rfl, i0, i1⟩

theorem pairs_read {fuel : Nat} {cs : List Value} {x : DataW H × List MemPlace} (hbk : Rows.uptoBulk x.1 ≤ 1048576) (h : DataW.trod enc Try.prog w 0 sp held fuel 29 cs = some x) :
    ∃ (a : Option Addr) (cap : Nat) (l : List (Int × Int)), cs = [.slice a l.length cap] ∧ Prs (blk w) (.slice a l.length cap) l := by
  obtain ⟨a, cap, l, xs, h1, h2, h3, h4⟩ := sl_read Try.underlying29 (k := 2) (by kernel_rfl) (by decide) RPair (fun _ => 1) (fun n cs x _ h _ => by
    obtain ⟨z, e⟩ := pair_read h
    exact ⟨z, e, by rw [e.1]; rfl, bulk_pos _⟩) hbk h
  obtain ⟨h5, h6⟩ := encPairs h3
  subst h5
  exact ⟨a, cap, l, h1, h2, h6⟩

theorem rows_read {fuel : Nat} {cs : List Value} {x : DataW H × List MemPlace} (hbk : Rows.uptoBulk x.1 ≤ 1048576) (h : DataW.trod enc Try.prog w 0 sp held fuel 41 cs = some x) :
    ∃ (a : Option Addr) (cap : Nat) (l : List (List Int)), cs = [.slice a l.length cap] ∧ Rws (blk w) (.slice a l.length cap) l := by
  obtain ⟨a, cap, l, xs, h1, h2, h3, h4⟩ := sl_read Try.underlying41 (k := 1) (by kernel_rfl) (by decide) (RowC (blk w)) (fun _ => 1) (fun n cs x _ h hb => by
    obtain ⟨a, cap, l, e, i, _⟩ := ints_read hb h
    exact ⟨l, ⟨a, cap, e, i⟩, by rw [e]; rfl, bulk_pos _⟩) hbk h
  exact ⟨a, cap, l, h1, xs, h2, h3⟩

set_option maxRecDepth 100000 in
theorem align_read {fuel : Nat} {cs : List Value} {x : DataW H × List MemPlace} (hbk : Rows.uptoBulk x.1 ≤ 1048576) (h : DataW.trod enc Try.prog w 0 sp held fuel 43 cs = some x) : ∃ y, EncAlign (blk w) y cs ∧ cs.length = 3 := by
  obtain ⟨xs, m, hm, rfl, hl, hn, hx⟩ := DataW.trod_struct Try.underlying43 h
  have c4 : Try.prog.cellsOf 43 = 3 := by kernel_rfl
  have c1 : Try.prog.cellsOf 29 = 1 := by kernel_rfl
  have c2 : Try.prog.cellsOf 3 = 1 := by kernel_rfl
  have c3 : Try.prog.cellsOf 41 = 1 := by kernel_rfl
  rw [c4] at hl
  have h0 := hx 0 _ rfl
  have h1 := hx 1 _ rfl
  have h2 := hx 2 _ rfl
  have hn : xs.length = 3 := hn
  match xs, hn with
  | [x0, x1, x2], _ =>
  match cs, hl with
  | [u0, u1, u2], _ =>
  simp only [List.getElem?_cons_zero, List.getElem?_cons_succ] at h0 h1 h2
  simp only [List.map_cons, List.map_nil, Rows.uptoBulk, bulkAll_cons, Rows.uptoBulkAll] at hbk ⊢
  obtain ⟨a, ca, l, e0, i0⟩ := pairs_read (by omega) h0
  obtain ⟨z, e1, i1⟩ := int_read Try.underlying3 h1
  obtain ⟨b, cb, ls, e2, i2⟩ := rows_read (by omega) h2
  cases e0; cases e1; cases e2
  exact ⟨⟨l, z, ls⟩, ⟨a, ca, b, cb, rfl, i1, i0, i2⟩, rfl⟩

set_option maxRecDepth 100000 in
theorem comp_read {fuel : Nat} {cs : List Value} {x : DataW H × List MemPlace} (hbk : Rows.uptoBulk x.1 ≤ 1048576) (h : DataW.trod enc Try.prog w 0 sp held fuel 45 cs = some x) : ∃ y, EncComp (blk w) y cs := by
  obtain ⟨xs, m, hm, rfl, hl, hn, hx⟩ := DataW.trod_struct Try.underlying45 h
  have c4 : Try.prog.cellsOf 45 = 6 := by kernel_rfl
  have c1 : Try.prog.cellsOf 43 = 3 := by kernel_rfl
  have c2 : Try.prog.cellsOf 3 = 1 := by kernel_rfl
  rw [c4] at hl
  have h0 := hx 0 _ rfl
  have h1 := hx 1 _ rfl
  have h2 := hx 2 _ rfl
  have h3 := hx 3 _ rfl
  have hn : xs.length = 4 := hn
  match xs, hn with
  | [x0, x1, x2, x3], _ =>
  match cs, hl with
  | [u0, u1, u2, u3, u4, u5], _ =>
  simp only [List.getElem?_cons_zero, List.getElem?_cons_succ] at h0 h1 h2 h3
  simp only [List.map_cons, List.map_nil, Rows.uptoBulk, bulkAll_cons, Rows.uptoBulkAll] at hbk ⊢
  obtain ⟨z0, e0, i0⟩ := int_read Try.underlying3 h0
  obtain ⟨z1, e1, i1⟩ := int_read Try.underlying3 h1
  obtain ⟨z2, e2, i2⟩ := int_read Try.underlying3 h2
  obtain ⟨y, hy, _⟩ := align_read (by omega) h3
  cases e0; cases e1; cases e2
  exact ⟨⟨z0, z1, z2, y⟩, _, rfl, i0, i1, i2, hy⟩

theorem cmps_read {fuel : Nat} {cs : List Value} {x : DataW H × List MemPlace} (hbk : Rows.uptoBulk x.1 ≤ 1048576) (h : DataW.trod enc Try.prog w 0 sp held fuel 30 cs = some x) :
    ∃ (a : Option Addr) (cap : Nat) (l : List CompP), cs = [.slice a l.length cap] ∧ Cmps (blk w) (.slice a l.length cap) l := by
  obtain ⟨a, cap, l, xs, h1, h2, h3, h4⟩ := sl_read Try.underlying30 (k := 6) (by kernel_rfl) (by decide) (EncComp (blk w)) (fun _ => 1) (fun n cs x _ h hb => by
    obtain ⟨y, hy⟩ := comp_read hb h
    exact ⟨y, hy, EncComp.len _ _ hy, bulk_pos _⟩) hbk h
  exact ⟨a, cap, l, h1, xs, h2, h3⟩

set_option maxRecDepth 100000 in
theorem match_read {fuel : Nat} {cs : List Value} {x : DataW H × List MemPlace} (hbk : Rows.uptoBulk x.1 ≤ 1048576) (h : DataW.trod enc Try.prog w 0 sp held fuel 32 cs = some x) : ∃ m, MatchV (blk w) (.agg cs.toArray) m := by
  obtain ⟨xs, m, hm, rfl, hl, hn, hx⟩ := DataW.trod_struct Try.underlying32 h
  have c4 : Try.prog.cellsOf 32 = 5 := by kernel_rfl
  have c1 : Try.prog.cellsOf 29 = 1 := by kernel_rfl
  have c2 : Try.prog.cellsOf 3 = 1 := by kernel_rfl
  have c3 : Try.prog.cellsOf 4 = 1 := by kernel_rfl
  have c5 : Try.prog.cellsOf 30 = 1 := by kernel_rfl
  rw [c4] at hl
  have h0 := hx 0 _ rfl
  have h1 := hx 1 _ rfl
  have h2 := hx 2 _ rfl
  have h3 := hx 3 _ rfl
  have h4 := hx 4 _ rfl
  have hn : xs.length = 5 := hn
  match xs, hn with
  | [x0, x1, x2, x3, x4], _ =>
  match cs, hl with
  | [u0, u1, u2, u3, u4], _ =>
  simp only [List.getElem?_cons_zero, List.getElem?_cons_succ] at h0 h1 h2 h3 h4
  simp only [List.map_cons, List.map_nil, Rows.uptoBulk, bulkAll_cons, Rows.uptoBulkAll] at hbk ⊢
  obtain ⟨a, ca, l, e0, i0⟩ := pairs_read (by omega) h0
  obtain ⟨z1, e1, i1⟩ := int_read Try.underlying3 h1
  obtain ⟨b, e2, _⟩ := DataW.trod_bool Try.underlying4 h2
  obtain ⟨z3, e3, i3⟩ := int_read Try.underlying3 h3
  obtain ⟨c, cc, ls, e4, i4⟩ := cmps_read (by omega) h4
  cases e0; cases e1; cases e2; cases e3; cases e4
  exact ⟨⟨l, z1, b, z3, ls⟩, a, ca, c, cc, rfl, i1, i3, i0, i4⟩

theorem trodAll_again {W W' : World} (hb : Below W.heap.size W W') {sp' : Nat → Bool} (hl : laidOutB Try.prog = true) : ∀ {ts : List TypeId} {vs : List Value} {ds : List (DataW H)} {ps : List MemPlace},
    (∀ t ∈ ts, Try.prog.readableRec t = true ∧ t < Try.prog.types.size) → DataW.TrodAll enc Try.prog W 0 (fun _ => true) true ts vs ds ps → (∀ p ∈ ps, p.block < W.heap.size) → (∀ p ∈ ps, sp' p.block = true) → DataW.TrodAll enc Try.prog W' 0 sp' true ts vs ds ps
  | [], vs, ds, ps, _, h, _, _ => by
    obtain ⟨rfl, rfl, rfl⟩ := trodAll_nil h
    rfl
  | t :: ts, vs, ds, ps, ht, h, hlt, hs => by
    obtain ⟨v, vs1, d, ds1, a, b, rfl, rfl, rfl, h1, h2⟩ := trodAll_cons h
    refine ⟨a, b, WideElems.Trod_stays hl (ht t (by simp)).1 (ht t (by simp)).2 h1 (fun p hp => ?_) (fun p hp => hs p (by simp [hp])), trodAll_again hb hl (fun u hu => ht u (by simp [hu])) h2 (fun p hp => hlt p (by simp [hp])) (fun p hp => hs p (by simp [hp])), rfl⟩
    have hp' := hlt p (by simp [hp])
    cases p with
    | cell bk off => exact hb.cell (p := ⟨bk, off, none⟩) hp'
    | map bk => exact hb.block bk hp'

theorem kept_of {W W' : World} (hb : Below W.heap.size W W') (may : MemPlace → Prop) : W.keptBut W' may := by
  refine ⟨hb.os, hb.output, fun i hi => ?_⟩
  rw [hb.block i hi]
  cases W.heap[i]? with
  | none => rfl
  | some o => cases o <;> simp

set_option maxRecDepth 100000 in
theorem law_post {f : Func} {s : ChangeSpec} {W W' : World} {args : Array Value} {ds gs : List (DataW H)} {before : List MemPlace} {T : TypeId} (hl : laidOutB Try.prog = true) (ht : ∀ t ∈ f.params.toList, Try.prog.readableRec t = true ∧ t < Try.prog.types.size)
    (hv : s.vars = []) (hr : f.resultTypes = #[T]) (hT : Try.prog.underlying T = some .bool)
    (hW : DataW.Whole enc Try.prog f.params.toList s.vars false W args.toList ds gs before) (hs : s.fn H (ds ++ gs) = { results := [.lit (.bool true)], args := ds }) (hb : Below W.heap.size W W') :
    s.post enc Try.prog f false true false false W args (.bool true) W' := by
  have hlt := hW.lt
  have hWW := hW
  obtain ⟨p, q, hA, hV, rfl, hfz, _⟩ := hW
  rw [hv] at hV
  obtain ⟨rfl, rfl⟩ := trodVars_none hV
  simp only [List.append_nil] at hs hfz hlt hWW ⊢
  have hres : ∀ (b : Nat) (sp : Nat → Bool) (hd : Bool), DataW.TrodAll enc Try.prog W' b sp hd f.resultTypes.toList ((Value.bool true).resultList f.resultTypes.size) (s.fn H (ds ++ [])).results [] := fun b sp hd => by
    rw [List.append_nil, hs, hr]
    exact trodAll_cons_mk (shut_bool hT _) trodAll_mk0
  have hargs : ∀ sp : Nat → Bool, (∀ x ∈ p, sp x.block = true) → DataW.TrodAll enc Try.prog W' 0 sp true f.params.toList args.toList (s.fn H (ds ++ [])).args p := fun sp hsp => by
    rw [List.append_nil, hs]
    exact trodAll_again hb hl ht hA hlt hsp
  have hvars : ∀ sp : Nat → Bool, DataW.TrodVars enc Try.prog W' sp s.vars (s.fn H (ds ++ [])).vars [] := fun sp => by
    rw [List.append_nil, hs, hv]; rfl
  have hold : ∀ x ∈ p, (fun b => decide (b < W.heap.size)) x.block = true := fun x hx => by simpa using hlt x hx
  refine ⟨ds, [], p, [], p, [], hWW, hres _ _ _, hargs _ hold, hvars _, World.keptBut_mono (fun x hx => ⟨hx, Or.inr (by simpa using hx)⟩) (kept_of hb (· ∈ p)), fun _ => ?_⟩
  refine ⟨ok_one hr rfl (okWide_bool_mk hT _), _, _, ([] ++ p) ++ [], ⟨[] ++ p, [], trodAll_append (hargs _ (fun _ _ => rfl)) (hres _ _ _), hvars _, rfl, ?_, fun h => by cases h⟩, ?_⟩
  · intro b off hx
    have hx' : MemPlace.cell b off ∈ p := by simpa using hx
    rw [hb.frozen (p := ⟨b, off, none⟩) (hlt _ hx')]
    exact hfz b off hx'
  · intro x hx _
    simpa using hx
end
end Go.Proofs.Ytfifbadepebpeaa

/- The values of arguments. -/
namespace Go.Proofs.Ytfifbadepebpeaa
open Go.RowKit Go.ChangeShapes Go.WideShapes
set_option maxRecDepth 100000

theorem laid_out : laidOutB Try.prog = true := by kernel_rfl
theorem own_knob : ownKnob Try.prog.godebug = none := by kernel_rfl

section
variable {H : Type} {enc : TypeId × Value → H} {W : World} {r : Reach} {base : Nat} {v : Value} {d : DataW H} {p : List MemPlace}

theorem agg_val {t : TypeId} {fs : Array Field} (ht : Try.prog.underlying t = some (.struct fs)) (hv : Value.okWide Try.prog W r base t v) : ∃ cs, v = .agg cs := by
  unfold Value.okWide at hv
  rw [ht] at hv
  obtain ⟨cs, h, _⟩ := hv
  exact ⟨cs, h⟩
theorem slice_val {t e : TypeId} (ht : Try.prog.underlying t = some (.slice e)) (hv : Value.okWide Try.prog W r base t v) {a : Option Addr} {n c : Nat} (hc : v.cells.toList = [.slice a n c]) : v = .slice a n c := by
  cases v with
  | agg cs =>
    unfold Value.okWide at hv
    rw [ht] at hv
    simp [Cell.okWide, Cell.ok, ht] at hv
  | tuple cs =>
    unfold Value.okWide at hv
    rw [ht] at hv
    simp [Cell.okWide, Cell.ok, ht] at hv
  | _ => simp_all [Value.cells]

theorem match_val (hv : Value.okWide Try.prog W r base 32 v) (h : DataW.Trod enc Try.prog W 0 (fun _ => true) true 32 v d p) (hb : Rows.uptoBulk d ≤ 1048576) : ∃ m, MatchV (blk W) v m := by
  obtain ⟨cs, rfl⟩ := agg_val Try.underlying32 hv
  obtain ⟨n, hn⟩ := h
  obtain ⟨m, h1⟩ := match_read hb hn
  exact ⟨m, by simpa [Value.cells] using h1⟩
theorem int_val (hv : Value.okWide Try.prog W r base 3 v) (h : DataW.Trod enc Try.prog W 0 (fun _ => true) true 3 v d p) : ∃ n, v = .int .i64 n ∧ I64 n := by
  obtain ⟨n, rfl, _, _, w⟩ := open_int Try.underlying3 hv h
  exact ⟨n, rfl, i64_of w⟩
end
end Go.Proofs.Ytfifbadepebpeaa

/- Lists of numbers and of pairs among the arguments, of whatever length. -/
namespace Go.Proofs.Ytfifbadepebpeaa
open Go.RowKit Go.ChangeShapes Go.WideShapes
set_option maxRecDepth 100000

section
variable {H : Type} {enc : TypeId × Value → H} {w : World} {sp : Nat → Bool} {held : Bool}

theorem sl_any {α : Type} {t e : TypeId} {k fuel : Nat} {cs : List Value} {x : DataW H × List MemPlace} (ht : Try.prog.underlying t = some (.slice e)) (hk : Try.prog.cellsOf e = k) (hk0 : 0 < k) (R : α → List Value → Prop)
    (hR : ∀ n cs x, DataW.trod enc Try.prog w 0 sp held n e cs = some x → ∃ y, R y cs ∧ cs.length = k) (h : DataW.trod enc Try.prog w 0 sp held fuel t cs = some x) :
    ∃ (a : Option Addr) (n cap : Nat), cs = [.slice a n cap] ∧ n ≤ cap ∧ cap ≤ 9223372036854775807 ∧ (n ≤ 140737488355328 → ∃ (l : List α) (xs : List Value), l.length = n ∧ Sl (blk w) (.slice a n cap) n k xs ∧ EncL R l xs) := by
  rcases DataW.trod_slice ht h with ⟨rfl, rfl⟩ | ⟨a, len, cap, elems, rest, n, hn, rfl, rfl, hb, hl, hm, hlen, hel, _, _⟩
  · exact ⟨none, 0, 0, rfl, Nat.le_refl _, by omega, fun _ => ⟨[], [], rfl, Sl.nil _ _ _ _, rfl⟩⟩
  · rw [hk] at hel
    refine ⟨some a, len, cap, rfl, hl, by unfold maxLen at hm; omega, fun hmax => ?_⟩
    have hone : ∀ i (hi : i < elems.length), ∃ c, w.cells? 0 (a.add (i * k)) k = some c ∧ DataW.trod enc Try.prog w 0 sp held n e c = some elems[i] := fun i hi => by
      have := hel i (by omega)
      rw [List.getElem?_eq_getElem hi] at this
      obtain ⟨c, h1, h2⟩ := Option.bind_eq_some_iff.1 this
      exact ⟨c, h1, h2⟩
    have hadd : ∀ i q, (a.add (i * k)).add q = a.add (i * k + q) := fun i q => by
      unfold Addr.add
      by_cases h1 : i * k = 0 <;> by_cases h2 : q = 0 <;> simp [h1, h2, Nat.add_assoc]
    have hspot : 0 < elems.length → a.spot = none := fun h0 => by
      obtain ⟨c, h1, _⟩ := hone 0 h0
      obtain ⟨_, h2, h3⟩ := World.cells?_some h1
      have := h3 0 hk0
      rw [hadd] at this
      simp only [Nat.zero_mul, Nat.add_zero] at this
      rw [List.getElem?_eq_getElem (by omega)] at this
      exact (cell_blk this).1
    have haddr : 0 < elems.length → ∀ q, a.add q = ⟨a.block, a.off + q, none⟩ := fun h0 q => by
      have := hspot h0
      unfold Addr.add
      by_cases hq : q = 0
      · rw [if_pos hq, hq, Nat.add_zero, ← this]
      · rw [if_neg hq]
    obtain ⟨l, xs, h1, h2, h3, h4, h5⟩ := elems_of (w := w) R (fun _ => 0) k a.block a.off elems 0 (fun i hi => by
      obtain ⟨c, c1, c2⟩ := hone i hi
      obtain ⟨_, c3, c4⟩ := World.cells?_some c1
      obtain ⟨y, y1, y2⟩ := hR n c _ c2
      refine ⟨y, c, y1, y2, fun q hq => ?_, Nat.zero_le _⟩
      rw [← c4 q hq, hadd, haddr (by omega), Nat.zero_add, Nat.add_assoc])
    subst hlen
    refine ⟨l, xs, h1, ⟨some a, cap, rfl, hmax, by rw [h3], ?_⟩, h2⟩
    rcases Nat.eq_zero_or_pos elems.length with h0 | h0
    · left; omega
    · right
      have hb2 := hspot h0
      have hk1 : 0 < elems.length * k := Nat.mul_pos h0 hk0
      have hc0 := h4 0 hk1
      rw [List.getElem?_eq_getElem (by omega)] at hc0
      obtain ⟨_, c, e1, _⟩ := cell_blk hc0
      refine ⟨a.block, a.off, c, by rw [← hb2], e1, fun i hi => ?_⟩
      rw [← h4 i hi, Nat.zero_mul, Nat.add_zero, blk_cell e1]
end

section
variable {H : Type} {enc : TypeId × Value → H} {W : World} {r : Reach} {base : Nat} {v : Value} {d : DataW H} {p : List MemPlace}

theorem ints_any (hv : Value.okWide Try.prog W r base 35 v) (h : DataW.Trod enc Try.prog W 0 (fun _ => true) true 35 v d p) :
    ∃ a n cap, v = .slice a n cap ∧ n ≤ cap ∧ cap ≤ 9223372036854775807 ∧ (n ≤ 140737488355328 → ∃ L, L.length = n ∧ Ints (blk W) (.slice a n cap) L) := by
  obtain ⟨f, hn⟩ := h
  obtain ⟨a, n, cap, h1, h2, h3, h4⟩ := sl_any Try.underlying35 (k := 1) (by kernel_rfl) (by decide) RInt (fun n cs x h => by
    obtain ⟨z, e, i⟩ := int_read Try.underlying3 h
    exact ⟨z, ⟨e, i⟩, by rw [e]; rfl⟩) hn
  rw [slice_val Try.underlying35 hv h1]
  refine ⟨a, n, cap, rfl, h2, h3, fun hs => ?_⟩
  obtain ⟨l, xs, e1, e2, e3⟩ := h4 hs
  obtain ⟨h5, h6⟩ := encInts e3
  subst h5 e1
  exact ⟨l, rfl, e2, h6⟩

end
end Go.Proofs.Ytfifbadepebpeaa
