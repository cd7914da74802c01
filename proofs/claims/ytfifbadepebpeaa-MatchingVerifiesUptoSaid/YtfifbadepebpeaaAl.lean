/- The reference's lists. -/
import Derived.Test.YtfifbadepebpeaaBk
import Derived.Test.YtfifbadepebpeaaBl
import Derived.Test.YtfifbadepebpeaaWg
namespace Go.Proofs.Ytfifbadepebpeaa
open Go.RowKit

def noHp : Hp := fun _ => none
theorem noHp_imm (w : World) : Imm noHp w := fun b c hc => by simp [noHp] at hc
theorem St.join {h hN : Hp} {w w' : World} (s : St w.heap.size noHp w hN w') (hi : Imm h w) : ∃ h', St w.heap.size h w h' w' ∧ hN.le h' := by
  refine ⟨fun b => if b < w.heap.size then h b else hN b, ⟨s.below, fun b c hc => ?_, fun b c hc => ?_, fun b hb => by simp [hb], Nat.le_refl _⟩, fun b c hc => ?_⟩
  · by_cases hb : b < w.heap.size
    · simp only [hb, if_true] at hc
      rw [blk_of (s.below.block b hb)]
      exact hi b c hc
    · simp only [hb, if_false] at hc
      exact s.imm b c hc
  · have : b < w.heap.size := blk_lt (hi b c hc)
    simp only [this, if_true]
    exact hc
  · by_cases hb : b < w.heap.size
    · rw [s.old b hb] at hc; simp [noHp] at hc
    · simp only [hb, if_false]; exact hc

structure LiI (h0 : Hp) (w : World) (m n : Nat) (F : Nat → Nat → Int) (G i : Nat) (hi : Hp) (wr : World) (hs : List Value) (vd : Value) (d : List Int) : Prop where
  st : St w.heap.size h0 w hi wr
  own : Ow wr hi w.heap.size 35 1 (.slice (some ⟨G, 0, none⟩) m m) m (hs ++ List.replicate (m - i) (.slice none 0 0))
  enc : EncL (RowC hi) ((List.range i).map fun i => (List.range n).map (F i)) hs
  len : hs.length = i
  od : InOw wr hi w.heap.size vd d
  ne : vd.ownBlock ≠ some G

structure LrI (h0 : Hp) (w : World) (m n : Nat) (F : Nat → Nat → Int) (G i : Nat) (hi : Hp) (hs : List Value) (vd : Value) (d : List Int) (g : Nat) (rl : List Int) (wr : World) : Prop where
  st : St w.heap.size h0 w hi wr
  own : Ow wr hi w.heap.size 35 1 (.slice (some ⟨G, 0, none⟩) m m) m (hs ++ (.slice (some ⟨g, 0, none⟩) n n :: List.replicate (m - i - 1) (.slice none 0 0)))
  row : Ow wr hi w.heap.size 3 1 (.slice (some ⟨g, 0, none⟩) n n) n (rl.map (Value.int .i64))
  enc : EncL (RowC hi) ((List.range i).map fun i => (List.range n).map (F i)) hs
  len : hs.length = i
  od : InOw wr hi w.heap.size vd d
  ne : vd.ownBlock ≠ some G
  ng : vd.ownBlock ≠ some g
  gG : g ≠ G

section
variable {h0 : Hp} {w : World} {m n : Nat} {F : Nat → Nat → Int} {G i : Nat} {hi : Hp} {wr w2 : World} {hs : List Value} {vd : Value} {d : List Int} {g : Nat} {rl : List Int}

theorem LiI.below (L : LiI h0 w m n F G i hi wr hs vd d) (hb : Below wr.heap.size wr w2) : LiI h0 w m n F G i hi w2 hs vd d := ⟨L.st.same hb, L.own.same hb, L.enc, L.len, Ow.same L.od hb, L.ne⟩
theorem LiI.alloc (L : LiI h0 w m n F G i hi wr hs vd d) (o : Obj) : LiI h0 w m n F G i hi (wr.alloc o) hs vd d := L.below ((Below.refl _ _).alloc (Nat.le_refl _) o)
theorem LiI.drewN (L : LiI h0 w m n F G i hi wr hs vd d) (k : Nat) : LiI h0 w m n F G i hi (wr.drewN k) hs vd d := L.below ((Below.refl _ _).drewN k)
theorem LrI.below (L : LrI h0 w m n F G i hi hs vd d g rl wr) (hb : Below wr.heap.size wr w2) : LrI h0 w m n F G i hi hs vd d g rl w2 := ⟨L.st.same hb, L.own.same hb, L.row.same hb, L.enc, L.len, Ow.same L.od hb, L.ne, L.ng, L.gG⟩
theorem LrI.drewN (L : LrI h0 w m n F G i hi hs vd d g rl wr) (k : Nat) : LrI h0 w m n F G i hi hs vd d g rl (wr.drewN k) := L.below ((Below.refl _ _).drewN k)

theorem LiI.drop (L : LiI h0 w m n F G i hi wr hs vd d) {v' : Value} {z : Int} (st2 : St w.heap.size h0 w hi w2) (own2 : Ow w2 hi w.heap.size 3 1 v' (d.length + 1) (d.map (Value.int .i64) ++ [.int .i64 z])) (gr : wr.grownBy w2 vd.ownBlock) (bk : v'.ownBlock = vd.ownBlock ∨ v'.ownBlock = some wr.heap.size) :
    LiI h0 w m n F G i hi w2 hs v' (d ++ [z]) := by
  have hG := (L.own.lt G rfl).2
  refine ⟨st2, L.own.grown gr (fun g hg e => ?_), L.enc, L.len, InOw.snoc own2, ?_⟩
  · simp only [Value.ownBlock, Option.some.injEq] at hg
    subst hg
    exact L.ne e
  · rcases bk with e | e
    · rw [e]; exact L.ne
    · rw [e]; intro e2; have := Option.some.inj e2; omega

theorem LiI.cells (L : LiI h0 w m n F G i hi wr hs vd d) (hlt : i < m) (gr : wr.grownBy w2 none) : w2.cell? ⟨G, i, none⟩ = some (.slice none 0 0) ∧ w2.frozen? ⟨G, i, none⟩ = false := by
  obtain ⟨g', hg', _, _, _, hcl, hfz⟩ := (L.own.grown gr (fun _ _ e => by cases e)).cell (by omega)
  obtain rfl : G = g' := by simpa using hg'
  refine ⟨hcl _ _ ?_, hfz _⟩
  have h' : 0 < m - i := by omega
  rw [List.getElem?_append_right (by rw [L.len]; exact Nat.le_refl _), L.len, Nat.sub_self]
  simp [h']
theorem LiI.start (L : LiI h0 w m n F G i hi wr hs vd d) (hlt : i < m) (gr : wr.grownBy w2 none) (st : St w.heap.size h0 w hi w2) (own : Ow w2 hi w.heap.size 3 1 (.slice (some ⟨wr.heap.size, 0, none⟩) n n) n (List.replicate n (.int .i64 0))) :
    LrI h0 w m n F G i hi hs vd d wr.heap.size (rowTo (F i) n 0) (w2.setCell ⟨G, i, none⟩ (.slice (some ⟨wr.heap.size, 0, none⟩) n n)) := by
  have hG := L.own.lt G rfl
  have hne : wr.heap.size ≠ G := by omega
  have o2 := L.own.grown gr (fun _ _ e => by cases e)
  have d2 := Ow.grown L.od gr (fun _ _ e => by cases e)
  refine ⟨st.setCell hG.1 (L.own.free G rfl) _, ?_, ?_, L.enc, L.len, Ow.setCell d2 L.ne _, L.ne, fun e => by have := (Ow.lt L.od _ e).2; omega, hne⟩
  · have := o2.set i (.slice (some ⟨wr.heap.size, 0, none⟩) n n) (by omega)
    rw [List.set_append_right _ _ (by rw [L.len]; exact Nat.le_refl _), L.len, Nat.sub_self, show m - i = (m - i - 1) + 1 by omega, List.replicate_succ, List.set_cons_zero] at this
    exact this
  · have : (rowTo (F i) n 0).map (Value.int .i64) = List.replicate n (.int .i64 0) := by simp [rowTo]
    rw [this]
    exact own.setCell (by simp only [Value.ownBlock, ne_eq, Option.some.injEq]; exact hne) _
theorem LrI.cells (L : LrI h0 w m n F G i hi hs vd d g rl wr) (hi1 : i < m) {j : Nat} (hj : j < n) (hl : rl.length = n) :
    wr.cell? ⟨G, i, none⟩ = some (.slice (some ⟨g, 0, none⟩) n n) ∧ wr.cell? ⟨g, j, none⟩ = some (.int .i64 (rl.getD j 0)) ∧ wr.frozen? ⟨g, j, none⟩ = false ∧ G < wr.heap.size ∧ g < wr.heap.size := by
  obtain ⟨g', hg', _, hGl, _, hcl, _⟩ := L.own.cell (by omega)
  obtain rfl : G = g' := by simpa using hg'
  obtain ⟨g', hg', _, hgl, _, rcl, rfz⟩ := L.row.cell (by omega)
  obtain rfl : g = g' := by simpa using hg'
  refine ⟨hcl _ _ ?_, rcl _ _ ?_, rfz _, hGl, hgl⟩
  · rw [List.getElem?_append_right (by rw [L.len]; exact Nat.le_refl _), L.len, Nat.sub_self]; rfl
  · rw [List.getElem?_map, List.getD_eq_getElem?_getD, List.getElem?_eq_getElem (by omega)]; rfl
theorem LrI.put (L : LrI h0 w m n F G i hi hs vd d g rl wr) {j : Nat} (hj : j < n) (u : Int) : LrI h0 w m n F G i hi hs vd d g (rl.set j u) (wr.setCell ⟨g, j, none⟩ (.int .i64 u)) := by
  have hg := L.row.lt g rfl
  refine ⟨L.st.setCell hg.1 (L.row.free g rfl) _, L.own.setCell (by simp only [Value.ownBlock, ne_eq, Option.some.injEq]; exact fun e => L.gG e.symm) _, ?_, L.enc, L.len, Ow.setCell L.od L.ng _, L.ne, L.ng, L.gG⟩
  have := L.row.set j (.int .i64 u) (by omega)
  rw [← List.map_set] at this
  exact this
theorem LrI.done (L : LrI h0 w m n F G i hi hs vd d g (rowTo (F i) n n) wr) (hn : n ≤ 1000000) (hF : ∀ j, j < n → I64 (F i j)) (_him : i < m) :
    ∃ hi', LiI h0 w m n F G (i + 1) hi' wr (hs ++ [.slice (some ⟨g, 0, none⟩) n n]) vd d := by
  obtain ⟨h', i1, i2, i3, i4⟩ := L.row.giveUp L.st.imm (by omega)
  have hg := L.row.lt g rfl
  refine ⟨h', ⟨L.st.below, i1, Hp.le_trans L.st.le i2, fun b hb => ?_, L.st.base⟩, ?_, ?_, by simp [L.len], ?_, L.ne⟩
  · rw [i3 b (fun g' hg' e => by simp only [Value.ownBlock, Option.some.injEq] at hg'; omega)]; exact L.st.old b hb
  · have := L.own.keep (w' := wr) (h' := h') (fun _ _ => rfl) (fun g' hg' => i3 g' (fun k hk e => by
      simp only [Value.ownBlock, Option.some.injEq] at hg' hk
      exact L.gG (by omega)))
    rw [show m - (i + 1) = m - i - 1 by omega, List.append_assoc]
    exact this
  · rw [show List.range (i + 1) = List.range i ++ [i] from List.range_succ, List.map_append]
    refine (L.enc.mono fun _ _ q => q.mono i2).append (EncL.one ⟨some ⟨g, 0, none⟩, n, by simp, ?_⟩)
    rw [rowTo_full] at i4
    refine ⟨by simpa using i4, fun q hq => ?_⟩
    obtain ⟨j, hj, rfl⟩ := List.mem_map.1 hq
    exact hF j (List.mem_range.1 hj)
  · exact Ow.keep L.od (fun _ _ => rfl) (fun g' hg' => i3 g' (fun k hk e => by
      simp only [Value.ownBlock, Option.some.injEq] at hk
      exact L.ng (by rw [hg']; congr 1; omega)))
end
end Go.Proofs.Ytfifbadepebpeaa
