/- A world that goes on from another: only some old blocks have turned. -/
import Derived.Test.YtlgdojkmbfbnjaaGreatDoorTyp
import Derived.Test.YtlgdojkmbfbnjaaGreatDoorHs
import Derived.Test.YtlgdojkmbfbnjaaGreatDoorMg
import Derived.Test.YtlgdojkmbfbnjaaGreatDoorEl
namespace Go.Proofs.YtlgdojkmbfbnjaaGreatDoor
open Go.RowKit

structure Tu (S : Nat → Prop) (w w' : World) : Prop where
  os : w'.os = w.os
  tape : w'.tape = w.tape
  output : w'.output = w.output
  size : w.heap.size ≤ w'.heap.size
  block : ∀ k, k < w.heap.size → ¬ S k → w'.heap[k]? = w.heap[k]?

theorem Tu.refl (S : Nat → Prop) (w : World) : Tu S w w := ⟨rfl, rfl, rfl, Nat.le_refl _, fun _ _ _ => rfl⟩
section
variable {S S' : Nat → Prop} {w w1 w2 : World} {h h' : Hp}
/-- Behind a step that turns some of the old blocks, or new ones. -/
theorem Tu.step (t : Tu S w w1) (u : Tu S' w1 w2) (hS : ∀ k, S' k → S k ∨ w.heap.size ≤ k) : Tu S w w2 :=
  ⟨u.os.trans t.os, u.tape.trans t.tape, u.output.trans t.output, Nat.le_trans t.size u.size, fun k hk hn => (u.block k (Nat.lt_of_lt_of_le hk t.size) (fun e => by
    rcases hS k e with q | q
    · exact hn q
    · omega)).trans (t.block k hk hn)⟩
theorem Tu.trans (t : Tu S w w1) (u : Tu S w1 w2) : Tu S w w2 := t.step u fun _ q => .inl q
theorem Tu.mono (t : Tu S w w1) (hS : ∀ k, S k → S' k) : Tu S' w w1 := ⟨t.os, t.tape, t.output, t.size, fun k hk hn => t.block k hk fun e => hn (hS k e)⟩
theorem Tu.drew (t : Tu S w w1) : Tu S w w1.drew := ⟨t.os, t.tape, t.output, t.size, t.block⟩
theorem Tu.drewN (t : Tu S w w1) (n : Nat) : Tu S w (w1.drewN n) := ⟨t.os, t.tape, t.output, t.size, t.block⟩
theorem Tu.alloc (t : Tu S w w1) (o : Obj) : Tu S w (w1.alloc o) :=
  ⟨t.os, t.tape, t.output, by have := t.size; simp; omega, fun k hk hn => (Below.heap_alloc _ _ _ (Nat.lt_of_lt_of_le hk t.size)).trans (t.block k hk hn)⟩
theorem Tu.set (t : Tu S w w1) {p : Addr} (hp : S p.block ∨ w.heap.size ≤ p.block) (v : Value) : Tu S w (w1.setCell p v) :=
  ⟨t.os, t.tape, t.output, by simpa [World.setCell] using t.size, fun k hk hn => (Below.heap_setCell _ _ _ _ (fun e => by
    subst e; rcases hp with q | q
    · exact hn q
    · omega)).trans (t.block k hk hn)⟩
theorem Tu.grown {row : Option Nat} (t : Tu S w w1) (g : w1.grownBy w2 row) (hr : ∀ k, row = some k → S k ∨ w.heap.size ≤ k) : Tu S w w2 :=
  t.step (S' := fun k => row = some k) ⟨g.os, g.tape, g.output, g.size, fun k hk hn => g.block k hk (fun e => hn e.symm)⟩ hr
theorem Tu.below (t : Tu S w w1) (b : Below w1.heap.size w1 w2) : Tu S w w2 :=
  t.step (S' := fun _ => False) ⟨b.os, b.tape, b.output, b.size, fun k hk _ => b.block k hk⟩ (fun _ q => q.elim)
theorem Tu.toBelow {N : Nat} (t : Tu S w w1) (hN : N ≤ w.heap.size) (hS : ∀ k, S k → N ≤ k) : Below N w w1 :=
  ⟨t.os, t.tape, t.output, t.size, fun k hk => t.block k (Nat.lt_of_lt_of_le hk hN) (fun e => by have := hS k e; omega)⟩
theorem Tu.imm (t : Tu S w w1) (hi : Imm h w) (hS : ∀ k, S k → h k = none) : Imm h w1 :=
  hi.keep fun b c hc => t.block b (blk_lt (hi b c hc)) (fun e => by rw [hS b e] at hc; cases hc)
theorem Ow.tu {B : Nat} {e : TypeId} {k : Nat} {v : Value} {n : Nat} {xs : List Value} (o : Ow w h B e k v n xs) (t : Tu S w w1) (hS : ∀ g, v.ownBlock = some g → ¬ S g) (hh : ∀ g, v.ownBlock = some g → h' g = h g) : Ow w1 h' B e k v n xs :=
  o.keep (fun g hg => t.block g (o.lt g hg).2 (hS g hg)) hh
theorem Ow.tu' {B : Nat} {e : TypeId} {k : Nat} {v : Value} {n : Nat} {xs : List Value} (o : Ow w h B e k v n xs) (t : Tu S w w1) (hS : ∀ g, v.ownBlock = some g → ¬ S g) : Ow w1 h B e k v n xs :=
  o.tu t hS fun _ _ => rfl
theorem Has.tu {b : Nat} {c : Array Value} (x : Has w b c) (t : Tu S w w1) (hb : ¬ S b) : Has w1 b c := by
  have e := t.block b x.lt hb
  exact ⟨Nat.lt_of_lt_of_le x.lt t.size, fun q => (World.cell?_of_block (a := ⟨b, q, none⟩) e).trans (x.cl q), fun q => (World.frozen?_of_block (a := ⟨b, q, none⟩) e).trans (x.fz q)⟩
theorem MapG.tu {K : Type} {enc : K → Value} {r : Nat} {l : List (K × Value)} (m : MapG enc w r l) (t : Tu S w w1) (hb : ¬ S r) : MapG enc w1 r l := m.keep (t.block r m.lt hb)
end

/-- The number at a place. -/
def ge (l : List Int) (i : Int) : Int := l.getD i.toNat 0
def ivs (l : List Int) : List Value := l.map (Value.int .i64)
def bvs (l : List Bool) : List Value := l.map Value.bool
/-- A row of numbers, one of truth values. -/
def IR (w : World) (h : Hp) (B g n : Nat) (l : List Int) : Prop := Ow w h B 3 1 (.slice (some ⟨g, 0, none⟩) n n) n (ivs l)
def BR (w : World) (h : Hp) (B g n : Nat) (l : List Bool) : Prop := Ow w h B 4 1 (.slice (some ⟨g, 0, none⟩) n n) n (bvs l)
section
variable {w w1 : World} {h : Hp} {B g n : Nat} {S : Nat → Prop}
theorem IR.len {l : List Int} (r : IR w h B g n l) : l.length = n := by have := Ow.len r; simpa [ivs] using this
theorem BR.len {l : List Bool} (r : BR w h B g n l) : l.length = n := by have := Ow.len r; simpa [bvs] using this
theorem IR.get {l : List Int} (r : IR w h B g n l) {i : Nat} (hi : i < n) : w.cell? ⟨g, i, none⟩ = some (.int .i64 (ge l i)) := by
  have hl := r.len
  obtain ⟨g', e, _, _, _, hc, _⟩ := Ow.cell r (by omega)
  simp only [Option.some.injEq, Addr.mk.injEq, and_true] at e
  subst e
  refine hc i _ ?_
  simp [ivs, ge, List.getD_eq_getElem?_getD, List.getElem?_eq_getElem (show i < l.length by omega)]
theorem BR.get {l : List Bool} (r : BR w h B g n l) {i : Nat} (hi : i < n) : w.cell? ⟨g, i, none⟩ = some (.bool (l.getD i false)) := by
  have hl := r.len
  obtain ⟨g', e, _, _, _, hc, _⟩ := Ow.cell r (by omega)
  simp only [Option.some.injEq, Addr.mk.injEq, and_true] at e
  subst e
  refine hc i _ ?_
  simp [bvs, List.getD_eq_getElem?_getD, List.getElem?_eq_getElem (show i < l.length by omega)]
theorem IR.fz {l : List Int} (r : IR w h B g n l) {i : Nat} (hi : i < n) : w.frozen? ⟨g, i, none⟩ = false := by
  obtain ⟨g', e, _, _, _, _, hf⟩ := Ow.cell r (by omega)
  simp only [Option.some.injEq, Addr.mk.injEq, and_true] at e
  subst e; exact hf i
theorem BR.fz {l : List Bool} (r : BR w h B g n l) {i : Nat} (hi : i < n) : w.frozen? ⟨g, i, none⟩ = false := by
  obtain ⟨g', e, _, _, _, _, hf⟩ := Ow.cell r (by omega)
  simp only [Option.some.injEq, Addr.mk.injEq, and_true] at e
  subst e; exact hf i
theorem IR.lt {l : List Int} (r : IR w h B g n l) : g < w.heap.size := (Ow.lt r g rfl).2
theorem BR.lt {l : List Bool} (r : BR w h B g n l) : g < w.heap.size := (Ow.lt r g rfl).2
theorem IR.put {l : List Int} (r : IR w h B g n l) {i : Nat} (hi : i < n) (x : Int) : IR (w.setCell ⟨g, i, none⟩ (.int .i64 x)) h B g n (l.set i x) := by
  have := Ow.set r i (.int .i64 x) (by omega)
  unfold IR ivs
  rw [List.map_set]
  exact this
theorem BR.put {l : List Bool} (r : BR w h B g n l) {i : Nat} (hi : i < n) (x : Bool) : BR (w.setCell ⟨g, i, none⟩ (.bool x)) h B g n (l.set i x) := by
  have := Ow.set r i (.bool x) (by omega)
  unfold BR bvs
  rw [List.map_set]
  exact this
theorem IR.tu {l : List Int} (r : IR w h B g n l) (t : Tu S w w1) (hS : ¬ S g) : IR w1 h B g n l := Ow.tu' r t fun _ e => by obtain rfl := Option.some.inj e; exact hS
theorem BR.tu {l : List Bool} (r : BR w h B g n l) (t : Tu S w w1) (hS : ¬ S g) : BR w1 h B g n l := Ow.tu' r t fun _ e => by obtain rfl := Option.some.inj e; exact hS
theorem IR.ne {l : List Int} (r : IR w h B g n l) {b : Nat} (hb : g ≠ b) (i : Nat) (v : Value) : IR (w.setCell ⟨b, i, none⟩ v) h B g n l := Ow.setCell r (by simpa [Value.ownBlock] using hb) v
theorem BR.ne {l : List Bool} (r : BR w h B g n l) {b : Nat} (hb : g ≠ b) (i : Nat) (v : Value) : BR (w.setCell ⟨b, i, none⟩ v) h B g n l := Ow.setCell r (by simpa [Value.ownBlock] using hb) v
theorem IR.alloc {l : List Int} (r : IR w h B g n l) (o : Obj) : IR (w.alloc o) h B g n l := Ow.alloc r o
theorem BR.alloc {l : List Bool} (r : BR w h B g n l) (o : Obj) : BR (w.alloc o) h B g n l := Ow.alloc r o
theorem IR.drewN {l : List Int} (r : IR w h B g n l) (k : Nat) : IR (w.drewN k) h B g n l := Ow.drewN r k
theorem BR.drewN {l : List Bool} (r : BR w h B g n l) (k : Nat) : BR (w.drewN k) h B g n l := Ow.drewN r k
end
end Go.Proofs.YtlgdojkmbfbnjaaGreatDoor
