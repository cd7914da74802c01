/- The reference's Number. -/
import Derived.Test.YtfifbadepebpeaaBm
import Derived.Test.YtfifbadepebpeaaBb
import Derived.Test.YtfifbadepebpeaaBa
import Derived.Test.YtfifbadepebpeaaBp
import Derived.OwnWalk
namespace Go.Proofs.Ytfifbadepebpeaa
open Go.RowKit

def NumE (h : Hp) (x : List NodeP) (cs : List Value) : Prop := ∃ an cn ap cp as' cs' ak ck wd ts, cs = [.slice an x.length cn, .slice ap x.length cp, .slice as' x.length cs', .slice ak x.length ck, .bool wd] ∧ wd = !narrowB x ∧
  Trs h (.slice an x.length cn) ts ∧ ts.map sigT = x.map sigN ∧ Ints h (.slice ap x.length cp) (x.map NodeP.parent) ∧ Ints h (.slice as' x.length cs') (x.map NodeP.size) ∧ Rws h (.slice ak x.length ck) (x.map NodeP.kids)
def NumV (h : Hp) (v : Value) (x : List NodeP) : Prop := ∃ cs, v = .agg cs.toArray ∧ NumE h x cs
theorem NumE.mono {h h' : Hp} (hle : h.le h') {x : List NodeP} {cs : List Value} (e : NumE h x cs) : NumE h' x cs := by
  obtain ⟨an, cn, ap, cp, as', cs', ak, ck, wd, ts, e1, e2, e3, e4, e5, e6, e7⟩ := e
  exact ⟨an, cn, ap, cp, as', cs', ak, ck, wd, ts, e1, e2, e3.mono hle, e4, e5.mono hle, e6.mono hle, e7.mono hle⟩
theorem NumV.mono {h h' : Hp} (hle : h.le h') {x : List NodeP} {v : Value} (e : NumV h v x) : NumV h' v x := by obtain ⟨cs, e1, e2⟩ := e; exact ⟨cs, e1, e2.mono hle⟩

def wideTo (x : List NodeP) (i : Nat) : Bool := (x.take i).any fun e => decide (400 < e.kids.length)

structure NuI (w : World) (h2 : Hp) (g3 : Nat) (an : Option Addr) (cn : Nat) (x : List NodeP) (ip is iw ik : Nat) (wr : World) (vp vs vk : Value) (vals : List Value) : Prop where
  imm : Imm h2 wr
  bel : Below w.heap.size w wr
  b2 : Has wr (w.heap.size + 1) #[.slice none 0 0, .slice none 0 0, .slice none 0 0, .slice none 0 0, .bool false]
  b3 : Has wr g3 #[.slice an x.length cn, vp, vs, vk, .bool (wideTo x iw)]
  op : InOw wr h2 w.heap.size vp ((x.take ip).map NodeP.parent)
  os : InOw wr h2 w.heap.size vs ((x.take is).map NodeP.size)
  ok : Ow wr h2 w.heap.size 35 1 vk x.length vals
  fam : Fam wr h2 w.heap.size vals (kidsTo x ik)
  apart : (boxH (w.heap.size + 1) :: boxH g3 :: vp :: vs :: vk :: vals).Pairwise Apart
  no : h2 (w.heap.size + 1) = none ∧ h2 g3 = none
  le : w.heap.size ≤ g3

theorem Has.s51 {w : World} {g : Nat} {a b c d e : Value} (h : Has w g #[a, b, c, d, e]) (v : Value) : Has (w.setCell ⟨g, 1, none⟩ v) g #[a, v, c, d, e] := by
  refine ⟨by simpa [World.setCell] using h.lt, fun o => ?_, fun o => by simp [h.fz o]⟩
  match o with
  | 1 => exact World.cell?_setCell_same _ _ _ (h.cl 1)
  | 0 => rw [World.cell?_setCell_other _ _ _ _ (by simp)]; exact h.cl 0
  | 2 => rw [World.cell?_setCell_other _ _ _ _ (by simp)]; exact h.cl 2
  | 3 => rw [World.cell?_setCell_other _ _ _ _ (by simp)]; exact h.cl 3
  | 4 => rw [World.cell?_setCell_other _ _ _ _ (by simp)]; exact h.cl 4
  | o + 5 => rw [World.cell?_setCell_other _ _ _ _ (by simp)]; exact h.cl (o + 5)
theorem Has.s52 {w : World} {g : Nat} {a b c d e : Value} (h : Has w g #[a, b, c, d, e]) (v : Value) : Has (w.setCell ⟨g, 2, none⟩ v) g #[a, b, v, d, e] := by
  refine ⟨by simpa [World.setCell] using h.lt, fun o => ?_, fun o => by simp [h.fz o]⟩
  match o with
  | 2 => exact World.cell?_setCell_same _ _ _ (h.cl 2)
  | 0 => rw [World.cell?_setCell_other _ _ _ _ (by simp)]; exact h.cl 0
  | 1 => rw [World.cell?_setCell_other _ _ _ _ (by simp)]; exact h.cl 1
  | 3 => rw [World.cell?_setCell_other _ _ _ _ (by simp)]; exact h.cl 3
  | 4 => rw [World.cell?_setCell_other _ _ _ _ (by simp)]; exact h.cl 4
  | o + 5 => rw [World.cell?_setCell_other _ _ _ _ (by simp)]; exact h.cl (o + 5)
theorem Has.s54 {w : World} {g : Nat} {a b c d e : Value} (h : Has w g #[a, b, c, d, e]) (v : Value) : Has (w.setCell ⟨g, 4, none⟩ v) g #[a, b, c, d, v] := by
  refine ⟨by simpa [World.setCell] using h.lt, fun o => ?_, fun o => by simp [h.fz o]⟩
  match o with
  | 4 => exact World.cell?_setCell_same _ _ _ (h.cl 4)
  | 0 => rw [World.cell?_setCell_other _ _ _ _ (by simp)]; exact h.cl 0
  | 1 => rw [World.cell?_setCell_other _ _ _ _ (by simp)]; exact h.cl 1
  | 2 => rw [World.cell?_setCell_other _ _ _ _ (by simp)]; exact h.cl 2
  | 3 => rw [World.cell?_setCell_other _ _ _ _ (by simp)]; exact h.cl 3
  | o + 5 => rw [World.cell?_setCell_other _ _ _ _ (by simp)]; exact h.cl (o + 5)
theorem Has.grown {w w' : World} {b : Nat} {c : Array Value} {row : Option Nat} (h : Has w b c) (hg : w.grownBy w' row) (hne : row ≠ some b) : Has w' b c :=
  ⟨Nat.lt_of_lt_of_le h.lt hg.size, fun o => (hg.cellOf h.lt hne).1.trans (h.cl o), fun o => (hg.cellOf h.lt hne).2.trans (h.fz o)⟩

section
variable {w : World} {h2 : Hp} {g3 : Nat} {an : Option Addr} {cn : Nat} {x : List NodeP} {ip is iw ik : Nat} {wr : World} {vp vs vk : Value} {vals : List Value}

theorem NuI.below (L : NuI w h2 g3 an cn x ip is iw ik wr vp vs vk vals) {W : World} (hb : Below wr.heap.size wr W) : NuI w h2 g3 an cn x ip is iw ik W vp vs vk vals :=
  ⟨L.imm.below hb, L.bel.trans (hb.mono L.bel.size), L.b2.below hb, L.b3.below hb, Ow.same L.op hb, Ow.same L.os hb, Ow.same L.ok hb, L.fam.keep (fun u hu g hg => by
    obtain ⟨k, hk, rfl⟩ := List.mem_iff_getElem.1 hu
    exact hb.block g (Ow.lt (L.fam.own k hk (by rw [← L.fam.len]; exact hk)) g hg).2), L.apart, L.no, L.le⟩

theorem NuI.lts (L : NuI w h2 g3 an cn x ip is iw ik wr vp vs vk vals) : ∀ u ∈ (boxH (w.heap.size + 1) :: boxH g3 :: vp :: vs :: vk :: vals), ∀ g, u.ownBlock = some g → g < wr.heap.size := by
  intro u hu g hg
  simp only [List.mem_cons] at hu
  rcases hu with rfl | rfl | rfl | rfl | rfl | hu
  · simp only [boxH, Value.ownBlock, Option.some.injEq] at hg; have := L.b2.lt; omega
  · simp only [boxH, Value.ownBlock, Option.some.injEq] at hg; have := L.b3.lt; omega
  · exact (Ow.lt L.op g hg).2
  · exact (Ow.lt L.os g hg).2
  · exact (Ow.lt L.ok g hg).2
  · obtain ⟨k, hk, rfl⟩ := List.mem_iff_getElem.1 hu
    exact (Ow.lt (L.fam.own k hk (by rw [← L.fam.len]; exact hk)) g hg).2

theorem keep_at {W w3 : World} {row : Option Nat} (hg : W.grownBy w3 row) {u : Value} (hu : ∀ g, u.ownBlock = some g → g < W.heap.size ∧ row ≠ some g ∧ g ≠ g3) {i : Nat} {v : Value} : ∀ g, u.ownBlock = some g → (w3.setCell ⟨g3, i, none⟩ v).heap[g]? = W.heap[g]? := fun g h => by
  obtain ⟨h1, h2, h3⟩ := hu g h
  rw [Below.heap_setCell _ _ _ _ h3]
  exact hg.block g h1 (fun e => h2 e.symm)

theorem NuI.parent (L : NuI w h2 g3 an cn x ip is iw ik wr vp vs vk vals) {w3 : World} {v' : Value} (hi : Imm h2 w3) (hb : Below w.heap.size w w3) (hg : wr.grownBy w3 vp.ownBlock) (ho : InOw w3 h2 w.heap.size v' ((x.take (ip + 1)).map NodeP.parent))
    (hk : v'.ownBlock = vp.ownBlock ∨ v'.ownBlock = some wr.heap.size) : NuI w h2 g3 an cn x (ip + 1) is iw ik (w3.setCell ⟨g3, 1, none⟩ v') v' vs vk vals := by
  have ap := L.apart
  have lt := L.lts
  have hset : (boxH (w.heap.size + 1) :: boxH g3 :: v' :: vs :: vk :: vals).Pairwise Apart := apart_set (k := 2) (v := v') ap lt (by simp) (hk.imp id fun e => ⟨_, e, Nat.le_refl _⟩)
  have two : ∀ j (hj : j < (boxH (w.heap.size + 1) :: boxH g3 :: vp :: vs :: vk :: vals).length), j ≠ 2 → j ≠ 1 → ∀ g, (boxH (w.heap.size + 1) :: boxH g3 :: vp :: vs :: vk :: vals)[j].ownBlock = some g → g < wr.heap.size ∧ vp.ownBlock ≠ some g ∧ g ≠ g3 := fun j hj h1 h2' g hgg => by
    refine ⟨lt _ (List.getElem_mem hj) g hgg, fun e => ?_, fun e => ?_⟩
    · exact apart_ne ap hj (by simp : 2 < _) h1 g hgg e
    · subst e; exact apart_ne ap hj (by simp : 1 < _) h2' g hgg rfl
  have n2 : vp.ownBlock ≠ some (w.heap.size + 1) := fun e => apart_ne ap (by simp : 0 < _) (by simp : 2 < _) (by omega) _ rfl e
  have n3 : vp.ownBlock ≠ some g3 := fun e => apart_ne ap (by simp : 1 < _) (by simp : 2 < _) (by omega) _ rfl e
  have n23 : g3 ≠ w.heap.size + 1 := fun e => apart_ne ap (by simp : 0 < _) (by simp : 1 < _) (by omega) _ rfl (by rw [← e]; rfl)
  have nv : v'.ownBlock ≠ some g3 := fun e => apart_ne hset (by simp : 1 < _) (by simp : 2 < _) (by omega) _ rfl e
  refine ⟨imm1 hi L.no.2 _ _, hb.setCell (p := ⟨g3, 1, none⟩) L.le _, (L.b2.grown hg n2).ne n23 _ _, (L.b3.grown hg n3).s51 _, Ow.setCell ho (p := ⟨g3, 1, none⟩) nv _, ?_, ?_, ?_, hset, L.no, L.le⟩
  · exact L.os.keep (keep_at hg (two 3 (by simp) (by omega) (by omega))) (fun _ _ => rfl)
  · exact L.ok.keep (keep_at hg (two 4 (by simp) (by omega) (by omega))) (fun _ _ => rfl)
  · exact L.fam.keep (fun u hu => by
      obtain ⟨k, hk, rfl⟩ := List.mem_iff_getElem.1 hu
      exact keep_at hg (two (k + 5) (by simpa using hk) (by omega) (by omega)))

theorem NuI.size (L : NuI w h2 g3 an cn x ip is iw ik wr vp vs vk vals) {w3 : World} {v' : Value} (hi : Imm h2 w3) (hb : Below w.heap.size w w3) (hg : wr.grownBy w3 vs.ownBlock) (ho : InOw w3 h2 w.heap.size v' ((x.take (is + 1)).map NodeP.size))
    (hk : v'.ownBlock = vs.ownBlock ∨ v'.ownBlock = some wr.heap.size) : NuI w h2 g3 an cn x ip (is + 1) iw ik (w3.setCell ⟨g3, 2, none⟩ v') vp v' vk vals := by
  have ap := L.apart
  have lt := L.lts
  have hset : (boxH (w.heap.size + 1) :: boxH g3 :: vp :: v' :: vk :: vals).Pairwise Apart := apart_set (k := 3) (v := v') ap lt (by simp) (hk.imp id fun e => ⟨_, e, Nat.le_refl _⟩)
  have two : ∀ j (hj : j < (boxH (w.heap.size + 1) :: boxH g3 :: vp :: vs :: vk :: vals).length), j ≠ 3 → j ≠ 1 → ∀ g, (boxH (w.heap.size + 1) :: boxH g3 :: vp :: vs :: vk :: vals)[j].ownBlock = some g → g < wr.heap.size ∧ vs.ownBlock ≠ some g ∧ g ≠ g3 := fun j hj h1 h2' g hgg => by
    refine ⟨lt _ (List.getElem_mem hj) g hgg, fun e => ?_, fun e => ?_⟩
    · exact apart_ne ap hj (by simp : 3 < _) h1 g hgg e
    · subst e; exact apart_ne ap hj (by simp : 1 < _) h2' g hgg rfl
  have n2 : vs.ownBlock ≠ some (w.heap.size + 1) := fun e => apart_ne ap (by simp : 0 < _) (by simp : 3 < _) (by omega) _ rfl e
  have n3 : vs.ownBlock ≠ some g3 := fun e => apart_ne ap (by simp : 1 < _) (by simp : 3 < _) (by omega) _ rfl e
  have n23 : g3 ≠ w.heap.size + 1 := fun e => apart_ne ap (by simp : 0 < _) (by simp : 1 < _) (by omega) _ rfl (by rw [← e]; rfl)
  have nv : v'.ownBlock ≠ some g3 := fun e => apart_ne hset (by simp : 1 < _) (by simp : 3 < _) (by omega) _ rfl e
  refine ⟨imm1 hi L.no.2 _ _, hb.setCell (p := ⟨g3, 2, none⟩) L.le _, (L.b2.grown hg n2).ne n23 _ _, (L.b3.grown hg n3).s52 _, ?_, Ow.setCell ho (p := ⟨g3, 2, none⟩) nv _, ?_, ?_, hset, L.no, L.le⟩
  · exact L.op.keep (keep_at hg (two 2 (by simp) (by omega) (by omega))) (fun _ _ => rfl)
  · exact L.ok.keep (keep_at hg (two 4 (by simp) (by omega) (by omega))) (fun _ _ => rfl)
  · exact L.fam.keep (fun u hu => by
      obtain ⟨k, hk, rfl⟩ := List.mem_iff_getElem.1 hu
      exact keep_at hg (two (k + 5) (by simpa using hk) (by omega) (by omega)))

theorem NuI.wide (L : NuI w h2 g3 an cn x ip is iw ik wr vp vs vk vals) (j : Nat) : NuI w h2 g3 an cn x ip is j ik (wr.setCell ⟨g3, 4, none⟩ (.bool (wideTo x j))) vp vs vk vals := by
  have ap := L.apart
  have ne : ∀ j (hj : j < (boxH (w.heap.size + 1) :: boxH g3 :: vp :: vs :: vk :: vals).length), j ≠ 1 → ∀ g, (boxH (w.heap.size + 1) :: boxH g3 :: vp :: vs :: vk :: vals)[j].ownBlock = some g → g ≠ g3 := fun j hj h2' g hgg e => by
    subst e; exact apart_ne ap hj (by simp : 1 < _) h2' g hgg rfl
  have hkp : ∀ g, g ≠ g3 → (wr.setCell ⟨g3, 4, none⟩ (.bool (wideTo x j))).heap[g]? = wr.heap[g]? := fun g hg => Below.heap_setCell _ _ _ _ hg
  have n23 : g3 ≠ w.heap.size + 1 := fun e => ne 0 (by simp) (by omega) (w.heap.size + 1) rfl e.symm
  refine ⟨imm1 L.imm L.no.2 _ _, L.bel.setCell (p := ⟨g3, 4, none⟩) L.le _, L.b2.ne n23 _ _, L.b3.s54 _, ?_, ?_, ?_, ?_, ap, L.no, L.le⟩
  · exact L.op.keep (fun g hg => hkp g (ne 2 (by simp) (by omega) g hg)) (fun _ _ => rfl)
  · exact L.os.keep (fun g hg => hkp g (ne 3 (by simp) (by omega) g hg)) (fun _ _ => rfl)
  · exact L.ok.keep (fun g hg => hkp g (ne 4 (by simp) (by omega) g hg)) (fun _ _ => rfl)
  · exact L.fam.keep (fun u hu g hg => by
      obtain ⟨k, hk, rfl⟩ := List.mem_iff_getElem.1 hu
      exact hkp g (ne (k + 5) (by simpa using hk) (by omega) g hg))
end

theorem Has.s53 {w : World} {g : Nat} {a b c d e : Value} (h : Has w g #[a, b, c, d, e]) (v : Value) : Has (w.setCell ⟨g, 3, none⟩ v) g #[a, b, c, v, e] := by
  refine ⟨by simpa [World.setCell] using h.lt, fun o => ?_, fun o => by simp [h.fz o]⟩
  match o with
  | 3 => exact World.cell?_setCell_same _ _ _ (h.cl 3)
  | 0 => rw [World.cell?_setCell_other _ _ _ _ (by simp)]; exact h.cl 0
  | 1 => rw [World.cell?_setCell_other _ _ _ _ (by simp)]; exact h.cl 1
  | 2 => rw [World.cell?_setCell_other _ _ _ _ (by simp)]; exact h.cl 2
  | 4 => rw [World.cell?_setCell_other _ _ _ _ (by simp)]; exact h.cl 4
  | o + 5 => rw [World.cell?_setCell_other _ _ _ _ (by simp)]; exact h.cl (o + 5)

theorem Has.s50 {w : World} {g : Nat} {a b c d e : Value} (h : Has w g #[a, b, c, d, e]) (v : Value) : Has (w.setCell ⟨g, 0, none⟩ v) g #[v, b, c, d, e] := by
  refine ⟨by simpa [World.setCell] using h.lt, fun o => ?_, fun o => by simp [h.fz o]⟩
  match o with
  | 0 => exact World.cell?_setCell_same _ _ _ (h.cl 0)
  | 3 => rw [World.cell?_setCell_other _ _ _ _ (by simp)]; exact h.cl 3
  | 1 => rw [World.cell?_setCell_other _ _ _ _ (by simp)]; exact h.cl 1
  | 2 => rw [World.cell?_setCell_other _ _ _ _ (by simp)]; exact h.cl 2
  | 4 => rw [World.cell?_setCell_other _ _ _ _ (by simp)]; exact h.cl 4
  | o + 5 => rw [World.cell?_setCell_other _ _ _ _ (by simp)]; exact h.cl (o + 5)

theorem NuI.start {w w3 w4 : World} {h3 : Hp} {g3 : Nat} {an : Option Addr} {cn : Nat} {x : List NodeP} (hx : WF x) (_hi : Imm h3 w3) (hb : Below w.heap.size w w3) (no : h3 (w.heap.size + 1) = none ∧ h3 g3 = none) (hg3 : w.heap.size + 1 < g3)
    (Z2 : Has w3 (w.heap.size + 1) #[.slice none 0 0, .slice none 0 0, .slice none 0 0, .slice none 0 0, .bool false]) (Z3 : Has w3 g3 #[.slice an x.length cn, .slice none 0 0, .slice none 0 0, .slice none 0 0, .bool false])
    (st4 : St w.heap.size h3 w3 h3 w4) (own4 : Ow w4 h3 w.heap.size 35 1 (.slice (some ⟨w3.heap.size, 0, none⟩) x.length x.length) x.length (madeCells [Value.slice none 0 0].toArray (x.length * 1)).toList) (gr4 : w3.grownBy w4 none) :
    NuI w h3 g3 an cn x 0 0 0 0 (w4.setCell ⟨g3, 3, none⟩ (.slice (some ⟨w3.heap.size, 0, none⟩) x.length x.length)) (.slice none 0 0) (.slice none 0 0) (.slice (some ⟨w3.heap.size, 0, none⟩) x.length x.length) (List.replicate x.length (.slice none 0 0)) := by
  have e1 : (madeCells [Value.slice none 0 0].toArray (x.length * 1)).toList = List.replicate x.length (.slice none 0 0) := madeCells1 _ _
  rw [e1] at own4
  have hz3 := Z3.lt
  have hz2 := Z2.lt
  have hv : ∀ g, (Value.slice (some ⟨w3.heap.size, 0, none⟩) x.length x.length).ownBlock = some g → g = w3.heap.size := fun g hg => by simp only [Value.ownBlock, Option.some.injEq] at hg; exact hg.symm
  refine ⟨imm1 st4.imm no.2 _ _, (hb.trans (st4.below)).setCell (p := ⟨g3, 3, none⟩) (by show w.heap.size ≤ g3; omega) _, (Z2.grown gr4 (by simp)).ne (by omega) _ _, (Z3.grown gr4 (by simp)).s53 _, Ow.nil _ _ _ _ _, Ow.nil _ _ _ _ _, Ow.setCell own4 (p := ⟨g3, 3, none⟩) (fun e => by have := hv _ e; simp only at this; omega) _, ⟨by simp [kidsTo], fun k h1 h2 => ?_⟩, ?_, no, by omega⟩
  · have : (kidsTo x 0)[k] = [] := by simp only [kidsTo_zero hx, List.getElem_map]
    rw [List.getElem_replicate, this]
    exact Ow.nil _ _ _ _ _
  · rw [List.pairwise_cons, List.pairwise_cons, List.pairwise_cons, List.pairwise_cons, List.pairwise_cons]
    have nn : ∀ g, (Value.slice none 0 0).ownBlock ≠ some g := fun g => by simp [Value.ownBlock]
    have bx : ∀ a g, (boxH a).ownBlock = some g → a = g := fun a g hg => by simpa [boxH, Value.ownBlock] using hg
    refine ⟨?_, ?_, ?_, ?_, ?_, ?_⟩
    · intro u hu g hg e
      have := bx _ _ hg
      simp only [List.mem_cons, List.mem_replicate] at hu
      rcases hu with rfl | rfl | rfl | rfl | ⟨_, rfl⟩
      · have := bx _ _ e; omega
      · exact nn g e
      · exact nn g e
      · have := hv _ e; omega
      · exact nn g e
    · intro u hu g hg e
      have := bx _ _ hg
      simp only [List.mem_cons, List.mem_replicate] at hu
      rcases hu with rfl | rfl | rfl | ⟨_, rfl⟩
      · exact nn g e
      · exact nn g e
      · have := hv _ e; omega
      · exact nn g e
    · intro u hu g hg; exact absurd hg (nn g)
    · intro u hu g hg; exact absurd hg (nn g)
    · intro u hu g hg e
      simp only [List.mem_replicate] at hu
      rw [hu.2] at e
      exact nn g e
    · rw [List.pairwise_replicate]
      exact .inr (fun g hg => absurd hg (nn g))

theorem NuI.kid {w : World} {h2 : Hp} {g3 : Nat} {an : Option Addr} {cn : Nat} {x : List NodeP} {ip is iw ik : Nat} {wr : World} {vp vs : Value} {gk ck : Nat} {vals : List Value} (_hx : WF x) (L : NuI w h2 g3 an cn x ip is iw ik wr vp vs (.slice (some ⟨gk, 0, none⟩) x.length ck) vals)
    {p : Nat} (hp : p < x.length) (h0 : kidsTo x (ik + 1) = (kidsTo x ik).set p ((kidsTo x ik).getD p [] ++ [(ik : Int)])) {w3 : World} {v' : Value} (hpv : p < vals.length) (hi : Imm h2 w3) (hb : Below w.heap.size w w3) (hg : wr.grownBy w3 vals[p].ownBlock)
    (ho : InOw w3 h2 w.heap.size v' ((kidsTo x ik).getD p [] ++ [(ik : Int)])) (hk : v'.ownBlock = vals[p].ownBlock ∨ v'.ownBlock = some wr.heap.size) :
    NuI w h2 g3 an cn x ip is iw (ik + 1) (w3.setCell ⟨gk, p, none⟩ v') vp vs (.slice (some ⟨gk, 0, none⟩) x.length ck) (vals.set p v') := by
  have ap := L.apart
  have lt := L.lts
  have hset : (boxH (w.heap.size + 1) :: boxH g3 :: vp :: vs :: (.slice (some ⟨gk, 0, none⟩) x.length ck) :: vals.set p v').Pairwise Apart := apart_set (k := p + 5) (v := v') ap lt (by simpa using hpv) (hk.imp id fun e => ⟨_, e, Nat.le_refl _⟩)
  have two : ∀ j (hj : j < (boxH (w.heap.size + 1) :: boxH g3 :: vp :: vs :: (.slice (some ⟨gk, 0, none⟩) x.length ck) :: vals).length), j ≠ p + 5 → j ≠ 4 → ∀ g, (boxH (w.heap.size + 1) :: boxH g3 :: vp :: vs :: (.slice (some ⟨gk, 0, none⟩) x.length ck) :: vals)[j].ownBlock = some g → g < wr.heap.size ∧ vals[p].ownBlock ≠ some g ∧ g ≠ gk := fun j hj h1 h2' g hgg => by
    refine ⟨lt _ (List.getElem_mem hj) g hgg, fun e => ?_, fun e => ?_⟩
    · exact apart_ne ap hj (by simpa using hpv : p + 5 < _) h1 g hgg e
    · subst e; exact apart_ne ap hj (by simp : 4 < _) h2' g hgg rfl
  have b2 := two 0 (by simp) (by omega) (by omega) (w.heap.size + 1) rfl
  have b3 := two 1 (by simp) (by omega) (by omega) g3 rfl
  have nk : vals[p].ownBlock ≠ some gk := fun e => apart_ne ap (by simpa using hpv : p + 5 < _) (by simp : 4 < _) (by omega) gk e rfl
  have nv : v'.ownBlock ≠ some gk := fun e => apart_ne hset (by simpa using hpv : p + 5 < _) (by simp : 4 < _) (by omega) gk (by simpa using e) rfl
  have okl := L.ok
  have hokn : h2 gk = none := L.ok.free gk rfl
  have hgk := L.ok.lt gk rfl
  have ok3 : Ow w3 h2 w.heap.size 35 1 (.slice (some ⟨gk, 0, none⟩) x.length ck) x.length vals := L.ok.grown hg (fun g hgg e => by simp only [Value.ownBlock, Option.some.injEq] at hgg; subst hgg; exact nk e)
  refine ⟨imm1 hi hokn _ _, hb.setCell (p := ⟨gk, p, none⟩) hgk.1 _, (L.b2.grown hg b2.2.1).ne (fun e => b2.2.2 e.symm) _ _, (L.b3.grown hg b3.2.1).ne (fun e => b3.2.2 e.symm) _ _, ?_, ?_, ok3.set p v' (by omega), ?_, hset, L.no, L.le⟩
  · exact L.op.keep (keep_at hg (two 2 (by simp) (by omega) (by omega))) (fun _ _ => rfl)
  · exact L.os.keep (keep_at hg (two 3 (by simp) (by omega) (by omega))) (fun _ _ => rfl)
  · rw [h0]
    exact L.fam.set hpv (Ow.setCell ho (p := ⟨gk, p, none⟩) nv _) (fun j hj hjp g hgg => keep_at hg (two (j + 5) (by simpa using hj) (by omega) (by omega)) g (by simpa using hgg))

theorem wide_narrow {x : List NodeP} (hl : x.length ≤ 262144) : wideTo x x.length = !narrowB x := by
  unfold wideTo narrowB
  rw [List.take_of_length_le (Nat.le_refl _), decide_eq_true hl, Bool.true_and, Bool.eq_iff_iff]
  simp

theorem NuI.fin {w wr W : World} {h3 : Hp} {g3 : Nat} {an : Option Addr} {cn : Nat} {x : List NodeP} {vp vs : Value} {ak : Option Addr} {ck : Nat} {vals : List Value} {ts : List Tree} (hx : WF x) (hl : x.length ≤ 262144) (h64 : ∀ e ∈ x, I64 e.parent ∧ I64 e.size)
    (L : NuI w h3 g3 an cn x x.length x.length x.length x.length wr vp vs (.slice ak x.length ck) vals)
    (hkp : ∀ g, g ≠ w.heap.size + 1 → W.heap[g]? = wr.heap[g]?) (hi : Imm h3 W) (TN : Trs h3 (.slice an x.length cn) ts) (sg : ts.map sigT = x.map sigN) :
    NumV (h3.fr w.heap.size W) (.agg #[.slice an x.length cn, vp, vs, .slice ak x.length ck, .bool (wideTo x x.length)]) x := by
  have ap := L.apart
  have ne : ∀ j (hj : j < (boxH (w.heap.size + 1) :: boxH g3 :: vp :: vs :: (.slice ak x.length ck) :: vals).length), j ≠ 0 → ∀ g, (boxH (w.heap.size + 1) :: boxH g3 :: vp :: vs :: (.slice ak x.length ck) :: vals)[j].ownBlock = some g → g ≠ w.heap.size + 1 := fun j hj h2' g hgg e => by
    subst e; exact apart_ne ap hj (by simp : 0 < _) h2' _ hgg rfl
  have op : InOw W h3 w.heap.size vp (x.map NodeP.parent) := by
    have := L.op
    rw [List.take_of_length_le (Nat.le_refl _)] at this
    exact this.keep (fun g hg => hkp g (ne 2 (by simp) (by omega) g hg)) (fun _ _ => rfl)
  have os : InOw W h3 w.heap.size vs (x.map NodeP.size) := by
    have := L.os
    rw [List.take_of_length_le (Nat.le_refl _)] at this
    exact this.keep (fun g hg => hkp g (ne 3 (by simp) (by omega) g hg)) (fun _ _ => rfl)
  have ok : Ow W h3 w.heap.size 35 1 (.slice ak x.length ck) x.length vals := L.ok.keep (fun g hg => hkp g (ne 4 (by simp) (by omega) g hg)) (fun _ _ => rfl)
  have fam : Fam W h3 w.heap.size vals (kidsTo x x.length) := L.fam.keep (fun u hu g hg => by
      obtain ⟨k, hk, rfl⟩ := List.mem_iff_getElem.1 hu
      exact hkp g (ne (k + 5) (by simpa using hk) (by omega) g hg))
  rw [kidsTo_full hx] at fam
  have sp := Ow.sl op (by simp; omega)
  have ss := Ow.sl os (by simp; omega)
  have sk := Ow.sl ok (by omega)
  obtain ⟨ap', cp, rfl, -⟩ := sp.shape
  obtain ⟨as', cs', rfl, -⟩ := ss.shape
  have le := Hp.le_fr (B := w.heap.size) hi
  simp only [List.length_map] at sp ss
  refine ⟨_, rfl, an, cn, ap', cp, as', cs', ak, ck, _, ts, by simp, wide_narrow hl, TN.mono le, sg, ⟨by simpa using sp, ?_⟩, ⟨by simpa using ss, ?_⟩, vals, by simpa using sk, ?_⟩
  · intro z hz
    obtain ⟨e, he, rfl⟩ := List.mem_map.1 hz
    exact (h64 e he).1
  · intro z hz
    obtain ⟨e, he, rfl⟩ := List.mem_map.1 hz
    exact (h64 e he).2
  · refine fam.enc fun r hr => ?_
    obtain ⟨e, he, rfl⟩ := List.mem_map.1 hr
    obtain ⟨k, hk, rfl⟩ := List.mem_iff_getElem.1 he
    refine ⟨?_, fun c hc => ?_⟩
    · have h2 := kids_len hx (i := (k : Int)) (by omega) (by omega)
      rw [nd_of (List.getElem?_eq_getElem hk)] at h2
      omega
    · obtain ⟨m, md, hm, rfl, -⟩ := hx.kid k _ c (List.getElem?_eq_getElem hk) hc
      have := (List.getElem?_eq_some_iff.1 hm).1
      unfold I64
      omega
theorem node_i64 {x : List NodeP} (hx : WF x) (hl : x.length ≤ 262144) : ∀ e ∈ x, I64 e.parent ∧ I64 e.size := by
  intro e he
  obtain ⟨k, hk, rfl⟩ := List.mem_iff_getElem.1 he
  have hg : x[k]? = some x[k] := List.getElem?_eq_getElem hk
  have h1 := size_ge hx (i := (k : Int)) (by omega) (by omega)
  have h2 := size_le hx x.length (k : Int) (by omega) (by omega) (by omega)
  rw [nd_of hg] at h1 h2
  refine ⟨?_, by unfold I64; omega⟩
  by_cases h0 : k = 0
  · subst h0
    rw [hx.root _ hg]
    unfold I64; omega
  · obtain ⟨j, _, _, hj, hp, -⟩ := hx.par k _ hg (by omega)
    rw [hp]
    unfold I64; omega

set_option maxRecDepth 100000 in
set_option maxHeartbeats 4000000 in
theorem number_any (h : Hp) (w : World) (hi : Imm h w) (v : Value) (t : Tree) (ht : TreeV h v t) (hs : t.size ≤ 262144) :
    Calls Try.prog 34 #[v] w fun e w' => ∃ v', e = .returned v' ∧ ∃ h', St w.heap.size h w h' w' ∧ NumV h' v' (flatP t) := by
  have HT := Lib.hid ht
  have HI := Lib.hid hi
  obtain ⟨al, cl, ak, ck, ys, rfl, hk, hll, hkl, hs1, hs2, he⟩ := ht.open
  have WX := Lib.hid (flatP_wf t)
  have NF := Lib.hid (nodes_flat t (-1) 0)
  have PF := Lib.hid (par_flat t (-1) 0)
  have hxl : (flatP t).length = t.size := flatP_length t
  have HNL := Lib.hid (nodesT_length t)
  clear ht hi hs1 hs2 he
  have hwd : decide (262144 < (t.size : Int)) = false := by rw [decide_eq_false_iff_not]; omega
  go_enter Try.func34, Try.ntmps34
  go_wp2_with fail
  refine (rnodes_any t.size t (Nat.le_refl _) h _ ((HI.out.alloc _).alloc _) _ HT.out (by omega)).mono ?_
  rintro e w1 ⟨vn, rfl, h1, S1, TN⟩
  obtain ⟨csn, SLN, ENN⟩ := TN
  obtain ⟨an, cn, rfl, hnn⟩ := SLN.shape
  rw [HNL.out] at SLN
  rw [HNL.out]
  have SLN' := Lib.hid SLN
  have ENN' := Lib.hid ENN
  have S1' := Lib.hid S1
  clear SLN ENN S1
  go_upto_region 3 with fail
  have z1 : w.heap.size + 2 ≤ w1.heap.size := by have := S1'.out.below.size; simp at this; omega
  have X1 : Hid (Has w1 w.heap.size #[.int .i64 t.kind, .string t.text, .slice al t.leads.length cl, .slice ak t.kids.length ck]) := ((Has.new w _ _).alloc _).below S1'.out.below
  have X2 : Hid (Has w1 (w.heap.size + 1) #[.slice none 0 0, .slice none 0 0, .slice none 0 0, .slice none 0 0, .bool false]) := (Has.new1 w _ _ _).below S1'.out.below
  have S1b : Hid (St w.heap.size h w h1 w1) := (((St.refl HI.out).alloc _).alloc _).call S1'.out
  have H12 : Hid (h1 (w.heap.size + 1) = none) := by unfold Hid; rw [S1'.out.old _ (by simp)]; exact new_own HI.out _ (by omega)
  have Y1 := Lib.hid (X1.out.alloc (Obj.cells #[.slice an t.size cn, .slice none 0 0, .slice none 0 0, .slice none 0 0, .bool false] 72))
  have Y2 := Lib.hid (X2.out.alloc (Obj.cells #[.slice an t.size cn, .slice none 0 0, .slice none 0 0, .slice none 0 0, .bool false] 72))
  have Y3 : Hid (Has (w1.alloc (Obj.cells #[.slice an t.size cn, .slice none 0 0, .slice none 0 0, .slice none 0 0, .bool false] 72)) w1.heap.size #[.slice an t.size cn, .slice none 0 0, .slice none 0 0, .slice none 0 0, .bool false]) := Has.new w1 _ _
  have S2b := Lib.hid (S1b.out.alloc (Obj.cells #[.slice an t.size cn, .slice none 0 0, .slice none 0 0, .slice none 0 0, .bool false] 72))
  generalize w1.alloc (Obj.cells #[.slice an t.size cn, .slice none 0 0, .slice none 0 0, .slice none 0 0, .bool false] 72) = w2 at *
  have a0 : w2.cell? ⟨w.heap.size, 0, none⟩ = some (.int .i64 t.kind) := Y1.out.cl 0
  have a1 : w2.cell? ⟨w.heap.size, 1, none⟩ = some (.string t.text) := Y1.out.cl 1
  have a2 : w2.cell? ⟨w.heap.size, 2, none⟩ = some (.slice al t.leads.length cl) := Y1.out.cl 2
  have a3 : w2.cell? ⟨w.heap.size, 3, none⟩ = some (.slice ak t.kids.length ck) := Y1.out.cl 3
  go_wp2_with fail
  refine (rParents_any h1 _ S2b.out.imm _ t (HT.out.mono S1b.out.le) (by omega)).mono ?_
  rintro e w3 ⟨vu, rfl, h3, S3, PU⟩
  have S3' := Lib.hid S3
  have PU' := Lib.hid PU
  have G1 := w1.heap.size
  have Z2 := Lib.hid (Y2.out.below S3.below)
  have Z3 := Lib.hid (Y3.out.below S3.below)
  have S3b : Hid (St w.heap.size h w h3 w3) := S2b.out.call S3
  have H32 : Hid (h3 (w.heap.size + 1) = none ∧ h3 w1.heap.size = none) := by
    refine ⟨?_, ?_⟩
    · rw [S3.old _ Y2.out.lt]; exact H12.out
    · rw [S3.old _ Y3.out.lt]; exact new_own S1b.out.imm _ (Nat.le_refl _)
  obtain ⟨au, cu, rfl, hun, huc⟩ := PU.open
  have HUC := Lib.hid (fun w' hi => huc w' hi)
  have hul : ((-1, 0) :: parT t 0).length = t.size := by rw [List.length_cons]; exact parT_length t 0
  rw [hul]
  have z3 : w1.heap.size < w3.heap.size := Z3.out.lt
  have k0 : w3.cell? ⟨w1.heap.size, 0, none⟩ = some (.slice an t.size cn) := Z3.out.cl 0
  have k3 : w3.cell? ⟨w1.heap.size, 3, none⟩ = some (.slice none 0 0) := Z3.out.cl 3
  have f3 : w3.frozen? ⟨w1.heap.size, 3, none⟩ = false := Z3.out.fz 3
  have SR : Hid (St w.heap.size h3 w3 h3 w3) := St.refl' S3b.out.imm (by have := S3b.out.below.size; omega)
  clear S3 PU huc a0 a1 a2 a3 G1
  go_upto_region 5 with (at_make; refine wpList_mk el_rows rfl _ _ rfl SR.out .i64 .i64 _ _ t.size rfl rfl rfl rfl (by omega) ?_; intro w4 st4 own4 gr4; have K4 := Lib.hid (Z3.out.grown gr4 (by simp)); have k0 : w4.cell? ⟨w1.heap.size, 0, none⟩ = some (.slice an t.size cn) := K4.out.cl 0; have k3 : w4.cell? ⟨w1.heap.size, 3, none⟩ = some (.slice none 0 0) := K4.out.cl 3; have f3 : w4.frozen? ⟨w1.heap.size, 3, none⟩ = false := K4.out.fz 3; have z4 : w1.heap.size < w4.heap.size := K4.out.lt)
  have L0 : Hid (NuI w h3 w1.heap.size an cn (flatP t) 0 0 0 0 (w4.setCell ⟨w1.heap.size, 3, none⟩ (.slice (some ⟨w3.heap.size, 0, none⟩) t.size t.size)) (.slice none 0 0) (.slice none 0 0) (.slice (some ⟨w3.heap.size, 0, none⟩) t.size t.size) (List.replicate t.size (.slice none 0 0))) := by
    have := NuI.start (an := an) (cn := cn) WX.out S3b.out.imm S3b.out.below H32.out (by omega) Z2.out (by rw [hxl]; exact Z3.out) st4 (by rw [hxl]; exact own4) gr4
    rw [hxl] at this
    exact this
  have BX : Hid (St w.heap.size h w h3 w3) := S3b.out
  clear st4 own4 gr4 k0 k3 f3 K4 z4
  clear k0 k3 f3
  generalize hGK : w3.heap.size = gk at *
  generalize w4.setCell ⟨w1.heap.size, 3, none⟩ (.slice (some ⟨gk, 0, none⟩) t.size t.size) = w5 at *
  generalize hg3 : w1.heap.size = g3 at *
  go_wp2_with fail
  go_loopw [5, 21, 22, 23, 24, 25, 26, 27, 28, 29, 30, 31, 32, 33, 34, 35, 36, 37, 38, 39, 40, 41, 42, 43, 44, 45, 46, 47, 48, 49, 50, 51, 52, 53, 54, 55, 56, 57, 58, 59, 60, 61, 62, 63, 64, 65, 66, 67, 68, 69, 70, 71, 72, 73, 74, 75, 76, 77, 78, 79, 80, 81, 82, 83] (fun i _ _ _ _ _ _ _ _ _ _ _ _ _ _ _ _ _ _ _ _ _ _ _ _ _ _ _ _ _ _ _ _ _ _ _ _ _ _ _ _ _ _ _ _ _ _ _ _ _ _ _ _ _ _ _ _ _ _ _ _ _ _ _ wr => ∃ (j : Nat) (vp vs : Value) (vals : List Value), j ≤ t.size ∧ i = .int .i64 j ∧ NuI w h3 g3 an cn (flatP t) j j j j wr vp vs (.slice (some ⟨gk, 0, none⟩) t.size t.size) vals) (fun i _ _ _ _ _ _ _ _ _ _ _ _ _ _ _ _ _ _ _ _ _ _ _ _ _ _ _ _ _ _ _ _ _ _ _ _ _ _ _ _ _ _ _ _ _ _ _ _ _ _ _ _ _ _ _ _ _ _ _ _ _ _ _ _ => t.size - (intOf i).toNat)
  case atStart => exact ⟨0, _, _, _, Nat.zero_le _, rfl, L0.out⟩
  case round =>
    obtain ⟨j, vp, vs, vals, hjl, rfl, L⟩ := hrel
    have L' := Lib.hid L
    have c0 : wr.cell? ⟨g3, 0, none⟩ = some (.slice an t.size cn) := by have := L.b3.cl 0; rw [hxl] at this; exact this
    have c1 : wr.cell? ⟨g3, 1, none⟩ = some vp := L.b3.cl 1
    have f1 := L.b3.fz 1
    have zg := L.b3.lt
    by_cases hlt : j < t.size
    · obtain ⟨bu, ou, rfl, hbu, huc⟩ := HUC.out wr L.imm (by rw [hul]; omega)
      obtain ⟨d0, d1⟩ := huc j (by rw [hul]; exact hlt)
      have hxj : j < (flatP t).length := by rw [hxl]; exact hlt
      have hpar : (((-1, 0) :: parT t 0)[j]'(by rw [hul]; exact hlt)).1 = (flatP t)[j].parent := by
        have e := congrArg (fun l => l[j]?) PF.out
        have e2 : ((-1 : Int) :: (parT t 0).map (·.1)) = ((-1, 0) :: parT t 0).map (·.1) := rfl
        simp only [e2, List.getElem?_map] at e
        rw [List.getElem?_eq_getElem (by rw [hul]; exact hlt), show (flatAt t (-1) 0)[j]? = some (flatP t)[j] from List.getElem?_eq_getElem hxj] at e
        exact Option.some.inj e
      rw [hpar] at d0
      have hpb : -1 ≤ (flatP t)[j].parent ∧ (flatP t)[j].parent < t.size := by
        rcases Nat.eq_zero_or_pos j with e | e
        · subst e
          have := WX.out.root _ (List.getElem?_eq_getElem hxj)
          omega
        · obtain ⟨q, _, _, q2, q3, _⟩ := WX.out.par j _ (List.getElem?_eq_getElem hxj) e
          omega
      have HPR := Lib.hid (map_take_snoc NodeP.parent (flatP t) j hxj)
      have u0 : (0 : Int) ≤ (j : Int) := by omega
      have u1 : (j : Int) < (t.size : Int) := by omega
      have opl : ((flatP t).take j).length = j := by rw [List.length_take]; omega
      have SR1 : Hid (St w.heap.size h3 wr h3 wr) := St.refl' L.imm (by have := L.bel.size; omega)
      have zb : bu < wr.heap.size + 1 := by omega
      have zg1 : g3 < wr.heap.size + 1 := by omega
      have HPAR := Lib.hid hpar
      clear huc L hpar
      generalize hpp : (flatP t)[j].parent = pp at *
      have HPP := Lib.hid hpp
      clear hpp
      have OP : Hid (Ow wr h3 w.heap.size 3 1 vp (((flatP t).take j).map NodeP.parent).length ((((flatP t).take j).map NodeP.parent).map (Value.int .i64))) := L'.out.op
      have hpn : ((((flatP t).take j).map NodeP.parent).length + 1) * 8 ≤ 140737488355328 := by rw [List.length_map]; omega
      generalize ((flatP t).take j).map NodeP.parent = lp at OP hpn HPR
      go_upto_region 8 with fail
      go_cut [] (fun wx => ∃ v', NuI w h3 g3 an cn (flatP t) (j + 1) j j j wx v' vs (.slice (some ⟨gk, 0, none⟩) t.size t.size) vals)
      case first =>
        go_region_law (first | (refine step_app el_ints (by rfl) _ _ (by rfl) ((SR1.out.alloc _).drewN _) vp lp.length (lp.map (Value.int .i64)) (by rfl) ((OP.out.alloc _).drewN _) ⟨wr.heap.size, 0, none⟩ 1 1 [.int .i64 pp] (by rfl) (by rfl) (new_cells _ _ _ _ (by simp)) (one_cells _ rfl) (by omega) hpn ?_; intro gg cg w6 st2 own2 gr2 bk2; have LB := L'.out.below (W := ((wr.alloc (Obj.cells #[.int .i64 pp] 3)).drewN 1)) (((Below.refl _ _).alloc (Nat.le_refl _) _).drewN 1); have LN := Lib.hid (LB.parent (v' := .slice (some ⟨gg, 0, none⟩) (lp.length + 1) cg) st2.imm (L'.out.bel.trans (st2.below)) gr2 (by rw [HPR.out]; exact InOw.snoc own2) bk2); have HB3 := (LB.b3.grown gr2 (fun e => apart_ne LB.apart (i := 1) (j := 2) (by simp) (by simp) (by omega) _ rfl e)); have k1 : w6.cell? ⟨g3, 1, none⟩ = some vp := HB3.cl 1; have kf := HB3.fz 1; clear HB3 LB st2 own2 gr2 bk2))
        all_goals
          go_wp2_with fail
          go_meet
          exact ⟨_, LN.out⟩
      case rest =>
        obtain ⟨vp', LA⟩ := hcut
        clear d0 d1 c0 c1 f1
        have hnl : j < (nodesT t).length := by rw [HNL.out]; exact hlt
        have NJ : sigT (nodesT t)[j] = sigN (flatP t)[j] := by
          have e := congrArg (fun l => l[j]?) NF.out
          simp only [List.getElem?_map] at e
          rw [List.getElem?_eq_getElem hnl, show (flatAt t (-1) 0)[j]? = some (flatP t)[j] from List.getElem?_eq_getElem hxj] at e
          exact Option.some.inj e
        have hsz : ((nodesT t)[j].size : Int) = (flatP t)[j].size := congrArg (fun q => q.2.2.2) NJ
        have hkl2 : (nodesT t)[j].kids.length = (flatP t)[j].kids.length := congrArg (fun q => q.2.2.1) NJ
        have hsb : (nodesT t)[j].size ≤ 262144 := by
          have h1 := size_le WX.out (flatP t).length (j : Int) (by omega) (by omega) (by omega)
          have h2 : nd (flatP t) (j : Int) = (flatP t)[j] := nd_of (List.getElem?_eq_getElem hxj)
          rw [h2] at h1
          omega
        obtain ⟨bn, on, al2, cl2, ak2, ck2, rfl, hbn, n0, n1, n2, n3, TV2⟩ := trees_at (a := an) (m := t.size) (cap := cn) (ts := nodesT t) (by rw [HNL.out]; exact SLN'.out.mono S3'.out.le) (ENN'.out.mono fun _ _ q => q.mono S3'.out.le) LA.imm j hnl
        have TV2' := Lib.hid TV2
        have HSZ := Lib.hid (map_take_snoc NodeP.size (flatP t) j hxj)
        rw [← hsz] at HSZ
        have LD := Lib.hid (LA.below (Below.refl _ _).drew)
        have LA' := Lib.hid LA
        have OS : Hid (Ow wc h3 w.heap.size 3 1 vs (((flatP t).take j).map NodeP.size).length ((((flatP t).take j).map NodeP.size).map (Value.int .i64))) := LA.os
        have hsn : ((((flatP t).take j).map NodeP.size).length + 1) * 8 ≤ 140737488355328 := by rw [List.length_map]; omega
        have c0 : wc.cell? ⟨g3, 0, none⟩ = some (.slice (some ⟨bn, on, none⟩) t.size cn) := by have := LA.b3.cl 0; rw [hxl] at this; exact this
        have c2 : wc.cell? ⟨g3, 2, none⟩ = some vs := LA.b3.cl 2
        have c3 : wc.cell? ⟨g3, 3, none⟩ = some (.slice (some ⟨gk, 0, none⟩) t.size t.size) := LA.b3.cl 3
        have c4 : wc.cell? ⟨g3, 4, none⟩ = some (.bool (wideTo (flatP t) j)) := LA.b3.cl 4
        have zg2 := LA.b3.lt
        have SLL := LA.bel.size
        have hsb9 : (nodesT t)[j].size ≤ 1000000000 := by omega
        have hng : bn ≠ g3 := by
          obtain ⟨a', cap', he, _, _, h3'⟩ := SLN'.out.mono S3'.out.le
          simp only [Value.slice.injEq] at he
          obtain ⟨rfl, -, -⟩ := he
          rcases h3' with h3' | ⟨b', off', c', hb', hbb, _⟩
          · omega
          · simp only [Option.some.injEq, Addr.mk.injEq, and_true] at hb'
            obtain ⟨rfl, rfl⟩ := hb'
            intro e
            rw [e, LA.no.2] at hbb
            cases hbb
        have hng2 : g3 ≠ bn := fun e => hng e.symm
        have KN : Hid (∀ W, Imm h3 W → W.cell? ⟨bn, on + j * 4, none⟩ = wc.cell? ⟨bn, on + j * 4, none⟩ ∧ W.cell? ⟨bn, on + j * 4 + 1, none⟩ = wc.cell? ⟨bn, on + j * 4 + 1, none⟩ ∧ W.cell? ⟨bn, on + j * 4 + 2, none⟩ = wc.cell? ⟨bn, on + j * 4 + 2, none⟩ ∧ W.cell? ⟨bn, on + j * 4 + 3, none⟩ = wc.cell? ⟨bn, on + j * 4 + 3, none⟩) := by
          have hsl := SLN'.out.mono S3'.out.le
          obtain ⟨a', cap', he, _, _, h3'⟩ := hsl
          simp only [Value.slice.injEq] at he
          obtain ⟨rfl, -, -⟩ := he
          rcases h3' with h3' | ⟨b', off', c', hb', hbb, _⟩
          · omega
          · simp only [Option.some.injEq, Addr.mk.injEq, and_true] at hb'
            obtain ⟨rfl, rfl⟩ := hb'
            intro W hW
            have h1 := blk_cell (hW _ _ hbb)
            have h2 := blk_cell (LA.imm _ _ hbb)
            exact ⟨by rw [h1, h2], by rw [h1, h2], by rw [h1, h2], by rw [h1, h2]⟩
        have HKL2 := Lib.hid hkl2
        clear hkl2 hsz
        generalize (nodesT t)[j] = tn at *
        generalize ((flatP t).take j).map NodeP.size = ls at OS hsn HSZ
        clear LA TV2 NJ
        go_upto_region 9 with fail
        go_cut [] (fun wx => ∃ v', NuI w h3 g3 (some ⟨bn, on, none⟩) cn (flatP t) (j + 1) (j + 1) j j wx vp' v' (.slice (some ⟨gk, 0, none⟩) t.size t.size) vals)
        case first =>
          go_region_law (first
            | (refine step_app el_ints (by rfl) _ _ (by rfl) (SRS.out.alloc _) vs ls.length (ls.map (Value.int .i64)) (by rfl) (OSS.out.alloc _) ⟨wS.heap.size, 0, none⟩ 1 1 [.int .i64 (tn.size : Int)] (by rfl) (by rfl) (new_cells _ _ _ _ (by simp)) (one_cells _ rfl) (by omega) hsn ?_; intro gg cg w6 st2 own2 gr2 bk2; have LB := LS.out.below (W := (wS.alloc (Obj.cells #[.int .i64 (tn.size : Int)] 3))) ((Below.refl _ _).alloc (Nat.le_refl _) _); have LN := Lib.hid (LB.size (v' := .slice (some ⟨gg, 0, none⟩) (ls.length + 1) cg) st2.imm (LS.out.bel.trans (st2.below)) gr2 (by rw [HSZ.out]; exact InOw.snoc own2) bk2); have HB3 := (LB.b3.grown gr2 (fun e => apart_ne LB.apart (i := 1) (j := 3) (by simp) (by simp) (by omega) _ rfl e)); have k1 : w6.cell? ⟨g3, 2, none⟩ = some vs := HB3.cl 2; have kf := HB3.fz 2; have kc0 : w6.cell? ⟨g3, 0, none⟩ = some (.slice (some ⟨bn, on, none⟩) t.size cn) := (by have := HB3.cl 0; rw [hxl] at this; exact this); have s60 := (KN.out w6 st2.imm).1.trans n0; have s61 := (KN.out w6 st2.imm).2.1.trans n1; have s62 := (KN.out w6 st2.imm).2.2.1.trans n2; have s63 := (KN.out w6 st2.imm).2.2.2.trans n3; clear HB3 LB st2 own2 gr2 bk2)
            | (go_simp; go_at_call 22; (with_reducible refine (rsize_any tn.size h3 _ (by exact LD.out.imm) _ tn TV2'.out (Nat.le_refl _) hsb9).mono ?_); rintro e wS ⟨rfl, hbS⟩; have LS := Lib.hid (LD.out.below hbS); have c0S : wS.cell? ⟨g3, 0, none⟩ = some (.slice (some ⟨bn, on, none⟩) t.size cn) := (by have := LS.out.b3.cl 0; rw [hxl] at this; exact this); have c2 : wS.cell? ⟨g3, 2, none⟩ = some vs := LS.out.b3.cl 2; have zgS := LS.out.b3.lt; have zgS1 : g3 < wS.heap.size + 1 := (by omega); have OSS : Hid (Ow wS h3 w.heap.size 3 1 vs ls.length (ls.map (Value.int .i64))) := OS.out.drew.same hbS; have SRS : Hid (St w.heap.size h3 wS h3 wS) := St.refl' LS.out.imm (by have := LS.out.bel.size; omega); have sc0 : wS.cell? ⟨bn, on + j * 4, none⟩ = some (.int .i64 tn.kind) := (hbS.cell (p := ⟨bn, on + j * 4, none⟩) hbn).trans n0; have sc1 : wS.cell? ⟨bn, on + j * 4 + 1, none⟩ = some (.string tn.text) := (hbS.cell (p := ⟨bn, on + j * 4 + 1, none⟩) hbn).trans n1; have sc2 : wS.cell? ⟨bn, on + j * 4 + 2, none⟩ = some (.slice al2 tn.leads.length cl2) := (hbS.cell (p := ⟨bn, on + j * 4 + 2, none⟩) hbn).trans n2; have sc3 : wS.cell? ⟨bn, on + j * 4 + 3, none⟩ = some (.slice ak2 tn.kids.length ck2) := (hbS.cell (p := ⟨bn, on + j * 4 + 3, none⟩) hbn).trans n3; have hbnS : bn < wS.heap.size := Nat.lt_of_lt_of_le hbn hbS.size; clear hbS))
          all_goals
            go_wp2_with fail
            go_meet
            exact ⟨_, LN.out⟩
        case rest =>
          obtain ⟨vs', LC⟩ := hcut
          have HWT : Hid (wideTo (flatP t) (j + 1) = (wideTo (flatP t) j || decide (400 < tn.kids.length))) := by
            unfold Hid wideTo
            rw [List.take_add_one, List.getElem?_eq_getElem hxj, List.any_append, HKL2.out]
            simp
          have q0 : wc.cell? ⟨g3, 0, none⟩ = some (.slice (some ⟨bn, on, none⟩) t.size cn) := by have := LC.b3.cl 0; rw [hxl] at this; exact this
          have q4 : wc.cell? ⟨g3, 4, none⟩ = some (.bool (wideTo (flatP t) j)) := LC.b3.cl 4
          have qf := LC.b3.fz 4
          have qn := (KN.out wc LC.imm).2.2.2.trans n3
          have hkt : tn.kids.length ≤ 262144 := by
            have h1 := kids_len WX.out (i := (j : Int)) (by omega) (by omega)
            have h2 : nd (flatP t) (j : Int) = (flatP t)[j] := nd_of (List.getElem?_eq_getElem hxj)
            rw [h2] at h1
            rw [HKL2.out]; omega
          have zq := LC.b3.lt
          have zn : bn < wc.heap.size := by
            have := World.block_lt_of_cell? wc _ qn
            exact this
          have LC' := Lib.hid LC
          clear LC
          generalize hwb : wideTo (flatP t) j = wb at *
          have HWB := Lib.hid hwb
          clear hwb
          have LWW : Hid (NuI w h3 g3 (some ⟨bn, on, none⟩) cn (flatP t) (j + 1) (j + 1) (j + 1) j (wc.setCell ⟨g3, 4, none⟩ (.bool (wideTo (flatP t) (j + 1)))) vp' vs' (.slice (some ⟨gk, 0, none⟩) t.size t.size) vals) := LC'.out.wide (j + 1)
          go_upto_region 10 with fail
          go_cut [] (fun wx => ∃ _u : Unit, NuI w h3 g3 (some ⟨bn, on, none⟩) cn (flatP t) (j + 1) (j + 1) (j + 1) j wx vp' vs' (.slice (some ⟨gk, 0, none⟩) t.size t.size) vals)
          case first =>
            cases wb
            · have e : wideTo (flatP t) (j + 1) = decide (400 < (tn.kids.length : Int)) := by
                rw [HWT.out, Bool.false_or, decide_eq_decide]; omega
              rw [e] at LWW
              go_wp2_with fail
              go_meet
              exact ⟨(), LWW.out⟩
            · have e : wideTo (flatP t) (j + 1) = true := by rw [HWT.out]; simp
              rw [e] at LWW
              go_wp2_with fail
              go_meet
              exact ⟨(), LWW.out⟩
          case rest =>
            obtain ⟨-, LE⟩ := hcut
            clear q0 q4 qf qn LWW
            by_cases hj0 : j = 0
            · subst hj0
              have LF : Hid (NuI w h3 g3 (some ⟨bn, on, none⟩) cn (flatP t) 1 1 1 1 wc vp' vs' (.slice (some ⟨gk, 0, none⟩) t.size t.size) vals) := by
                have hf := LE.fam
                have e : kidsTo (flatP t) 0 = kidsTo (flatP t) 1 := (kidsTo_one WX.out).symm
                rw [e] at hf
                exact ⟨LE.imm, LE.bel, LE.b2, LE.b3, LE.op, LE.os, LE.ok, hf, LE.apart, LE.no, LE.le⟩
              clear LE
              go_wp2_with fail
              go_roundw
              case rel =>
                first
                  | exact ⟨1, vp', vs', vals, by omega, by go_num, LF.out⟩
                  | (repeat apply Exists.intro
                     refine ⟨?_, rfl⟩
                     exact ⟨1, vp', vs', vals, by omega, by go_num, LF.out⟩)
              case measure => simp [intOf]; omega
            · have hjp : 0 < j := by omega
              obtain ⟨p, hp1, hp2, hp3⟩ := kidsTo_succ WX.out hjp hxj
              have hpx : p < (flatP t).length := by omega
              have hpv : p < vals.length := by rw [LE.fam.len]; simpa [kidsTo] using hpx
              have hpk : p < (kidsTo (flatP t) j).length := by simpa [kidsTo] using hpx
              rw [HPP.out] at hp2
              subst hp2
              obtain ⟨bu', ou', he, hbu', huc⟩ := HUC.out wc LE.imm (by rw [hul]; omega)
              simp only [Option.some.injEq, Addr.mk.injEq, and_true] at he
              obtain ⟨rfl, rfl⟩ := he
              obtain ⟨d0, -⟩ := huc j (by rw [hul]; exact hlt)
              rw [HPAR.out] at d0
              have LE2 : Hid (NuI w h3 g3 (some ⟨bn, on, none⟩) cn (flatP t) (j + 1) (j + 1) (j + 1) j wc vp' vs' (.slice (some ⟨gk, 0, none⟩) (flatP t).length t.size) vals) := by unfold Hid; rw [hxl]; exact LE
              have e3 : wc.cell? ⟨g3, 3, none⟩ = some (.slice (some ⟨gk, 0, none⟩) t.size t.size) := LE.b3.cl 3
              obtain ⟨gk', hgk', ok1, ok2, ok3, okc, okf⟩ := LE2.out.ok.cell (by omega)
              simp only [Option.some.injEq, Addr.mk.injEq, and_true] at hgk'
              subst hgk'
              have ek := okc p _ (List.getElem?_eq_getElem hpv)
              have fk := okf p
              have hgr : (kidsTo (flatP t) j).getD p [] = (kidsTo (flatP t) j)[p] := getD_of_lt _ _ _ hpk
              have OQ : Hid (Ow wc h3 w.heap.size 3 1 vals[p] ((kidsTo (flatP t) j).getD p []).length (((kidsTo (flatP t) j).getD p []).map (Value.int .i64))) := by unfold Hid; rw [hgr]; exact LE.fam.own p hpv hpk
              have hrn : (((kidsTo (flatP t) j).getD p []).length + 1) * 8 ≤ 140737488355328 := by
                rw [hgr]
                have h1 : (kidsTo (flatP t) j)[p].length ≤ (flatP t)[p].kids.length := by simp only [kidsTo, List.getElem_map]; exact List.length_filter_le _ _
                have h2 := kids_len WX.out (i := (p : Int)) (by omega) (by omega)
                rw [nd_of (List.getElem?_eq_getElem hpx)] at h2
                omega
              have KD := Lib.hid (fun w3 v' hi hb hg ho hk => LE2.out.below (W := (wc.alloc (Obj.cells #[.int .i64 (j : Int)] 3)).drewN 1) (((Below.refl _ _).alloc (Nat.le_refl _) _).drewN 1) |>.kid (w3 := w3) (v' := v') WX.out hpx hp3 hpv hi hb hg ho hk)
              have KB : Hid (∀ w6, ((wc.alloc (Obj.cells #[.int .i64 (j : Int)] 3)).drewN 1).grownBy w6 vals[p].ownBlock → w6.cell? ⟨gk, p, none⟩ = some vals[p] ∧ w6.frozen? ⟨gk, p, none⟩ = false ∧ w6.cell? ⟨g3, 3, none⟩ = some (.slice (some ⟨gk, 0, none⟩) t.size t.size)) := fun w6 hg => by
                have hne : vals[p].ownBlock ≠ some gk := fun e => apart_ne LE.apart (i := p + 5) (j := 4) (by simpa using hpv) (by simp) (by omega) gk (by simpa using e) rfl
                have hn3 : vals[p].ownBlock ≠ some g3 := fun e => apart_ne LE.apart (i := p + 5) (j := 1) (by simpa using hpv) (by simp) (by omega) g3 (by simpa using e) rfl
                have h1 := hg.cellOf (b := gk) (i := p) (by show gk < (wc.alloc _).heap.size; simp; omega) hne
                have h2 : ((wc.alloc (Obj.cells #[.int .i64 (j : Int)] 3)).drewN 1).heap[gk]? = wc.heap[gk]? := by
                  show (wc.alloc (Obj.cells #[.int .i64 (j : Int)] 3)).heap[gk]? = _
                  exact Below.heap_alloc _ _ _ ok2
                have h3' := hg.cellOf (b := g3) (i := 3) (by show g3 < (wc.alloc _).heap.size; have := LE.b3.lt; simp; omega) hn3
                have h4 : ((wc.alloc (Obj.cells #[.int .i64 (j : Int)] 3)).drewN 1).heap[g3]? = wc.heap[g3]? := by
                  show (wc.alloc (Obj.cells #[.int .i64 (j : Int)] 3)).heap[g3]? = _
                  exact Below.heap_alloc _ _ _ LE.b3.lt
                exact ⟨(h1.1.trans (World.cell?_of_block (a := ⟨gk, p, none⟩) h2)).trans ek, (h1.2.trans (World.frozen?_of_block (a := ⟨gk, p, none⟩) h2)).trans fk, (h3'.1.trans (World.cell?_of_block (a := ⟨g3, 3, none⟩) h4)).trans e3⟩
              have KU : Hid (∀ w6, Imm h3 w6 → w6.cell? ⟨bu, ou + j * 2, none⟩ = some (.int .i64 (p : Int))) := fun w6 hi => by
                obtain ⟨bu', ou', he, hbu', huc⟩ := HUC.out w6 hi (by rw [hul]; omega)
                simp only [Option.some.injEq, Addr.mk.injEq, and_true] at he
                obtain ⟨rfl, rfl⟩ := he
                obtain ⟨d0, -⟩ := huc j (by rw [hul]; exact hlt)
                rw [HPAR.out] at d0
                exact d0
              have SR3 : Hid (St w.heap.size h3 wc h3 wc) := St.refl' LE.imm (by have := LE.bel.size; omega)
              have BE : Hid (Below w.heap.size w wc) := LE.bel
              have v0 : (0 : Int) ≤ (p : Int) := by omega
              have v1 : (p : Int) < (t.size : Int) := by omega
              have y1 : bu < wc.heap.size + 1 := by omega
              have y2 : g3 < wc.heap.size + 1 := by have := LE.b3.lt; omega
              have y3 : gk < wc.heap.size + 1 := by omega
              have y4 : g3 < wc.heap.size := LE.b3.lt
              generalize (kidsTo (flatP t) j).getD p [] = lr at *
              have HP3 := Lib.hid hp3
              generalize hvq : vals[p] = vq at *
              clear LE huc okc okf hp3 hgr
              go_upto_region 12 with fail
              clear hvq
              refine wp_region_noPanic ?_
              refine wp_region_held_drew (S := (fun w' => w'.cell? ⟨g3, 3, none⟩ = some (.slice (some ⟨gk, 0, none⟩) t.size t.size) ∧ w'.cell? ⟨bu, ou + j * 2, none⟩ = some (.int .i64 (p : Int)))) (by kernel_rfl) ?_ (fun hHeld => ?_)
              · go_keep
              refine wpAnyH_take (i := 0) (oi := _) (v := ?_) rfl (by kernel_rfl) (by kernel_rfl) (by kernel_rfl) (fun _ _ _ h => h) (Or.inl ⟨by rfl, ?_⟩) (by assumption) ?_
              rotate_left
              · intro w hSw; (try dsimp only at hSw); go_simp <;> with_reducible rfl
              try simp only [Act.put, List.setIfInBounds_toArray]
              refine wpAnyH_take (i := 1) (oi := _) (v := ?_) rfl (by kernel_rfl) (by kernel_rfl) (by kernel_rfl) (fun _ _ _ h => h) (Or.inl ⟨by rfl, ?_⟩) (by assumption) ?_
              rotate_left
              · intro w hSw; (try dsimp only at hSw); go_simp <;> with_reducible rfl
              try simp only [Act.put]
              refine wpAnyH_take (i := 2) (oi := _) (v := ?_) rfl (by kernel_rfl) (by kernel_rfl) (by kernel_rfl) (fun _ _ _ h => h) (Or.inl ⟨by rfl, ?_⟩) (by assumption) ?_
              rotate_left
              · intro w hSw; (try dsimp only at hSw); go_simp <;> with_reducible rfl
              try simp only [Act.put]
              refine wpAnyH_take (i := 3) (oi := _) (v := ?_) rfl (by kernel_rfl) (by kernel_rfl) (by kernel_rfl) (fun _ _ _ h => h) (Or.inl ⟨by rfl, ?_⟩) (by assumption) ?_
              rotate_left
              · intro w hSw; (try dsimp only at hSw); go_simp <;> with_reducible rfl
              try simp only [Act.put]
              refine wpAnyH_take (i := 4) (oi := _) (v := ?_) rfl (by kernel_rfl) (by kernel_rfl) (by kernel_rfl) (fun _ _ _ h => h) (Or.inl ⟨by rfl, ?_⟩) (by assumption) ?_
              rotate_left
              · intro w hSw; (try dsimp only at hSw); go_simp <;> with_reducible rfl
              try simp only [Act.put]
              refine wpAnyH_take (i := 5) (oi := _) (v := ?_) rfl (by kernel_rfl) (by kernel_rfl) (by kernel_rfl) (fun _ _ _ h => h) (Or.inl ⟨by rfl, ?_⟩) (by assumption) ?_
              rotate_left
              · intro w hSw; (try dsimp only at hSw); go_simp <;> with_reducible rfl
              try simp only [Act.put]
              refine wpAnyH_take (i := 6) (oi := _) (v := ?_) rfl (by kernel_rfl) (by kernel_rfl) (by kernel_rfl) (fun _ _ _ h => h) (Or.inl ⟨by rfl, ?_⟩) (by assumption) ?_
              rotate_left
              · intro w hSw; (try dsimp only at hSw); go_simp <;> with_reducible rfl
              try simp only [Act.put]
              refine wpAnyH_take (i := 7) (oi := _) (v := ?_) rfl (by kernel_rfl) (by kernel_rfl) (by kernel_rfl) (fun _ _ _ h => h) (Or.inl ⟨by rfl, ?_⟩) (by assumption) ?_
              rotate_left
              · intro w hSw; (try dsimp only at hSw); go_simp <;> with_reducible rfl
              try simp only [Act.put]
              refine wpAnyH_take (i := 8) (oi := _) (v := ?_) rfl (by kernel_rfl) (by kernel_rfl) (by kernel_rfl) (fun _ _ _ h => h) (Or.inl ⟨by rfl, ?_⟩) (by assumption) ?_
              rotate_left
              · intro w hSw; (try dsimp only at hSw); go_simp <;> with_reducible rfl
              try simp only [Act.put]
              refine wpAnyH_take (i := 9) (oi := _) (v := ?_) rfl (by kernel_rfl) (by kernel_rfl) (by kernel_rfl) (fun _ _ _ h => h) (Or.inl ⟨by rfl, ?_⟩) (by assumption) ?_
              rotate_left
              · intro w hSw; (try dsimp only at hSw); go_simp <;> with_reducible rfl
              try simp only [Act.put]
              refine wpAnyH_take (i := 10) (oi := _) (v := ?_) rfl (by kernel_rfl) (by kernel_rfl) (by kernel_rfl) (fun _ _ _ h => h) (Or.inl ⟨by rfl, ?_⟩) (by assumption) ?_
              rotate_left
              · intro w hSw; (try dsimp only at hSw); go_simp <;> with_reducible rfl
              try simp only [Act.put]
              refine wpAnyH_take (i := 11) (oi := _) (v := ?_) rfl (by kernel_rfl) (by kernel_rfl) (by kernel_rfl) (fun _ _ _ h => h) (Or.inl ⟨by rfl, ?_⟩) (by assumption) ?_
              rotate_left
              · intro w hSw; (try dsimp only at hSw); go_simp <;> with_reducible rfl
              try simp only [Act.put]
              refine wpAnyH_take (i := 12) (oi := _) (v := ?_) rfl (by kernel_rfl) (by kernel_rfl) (by kernel_rfl) (fun _ _ _ h => h) (Or.inl ⟨by rfl, ?_⟩) (by assumption) ?_
              rotate_left
              · intro w hSw; (try dsimp only at hSw); go_simp <;> with_reducible rfl
              try simp only [Act.put]
              refine wpAnyH_take (i := 13) (oi := _) (v := ?_) rfl (by kernel_rfl) (by kernel_rfl) (by kernel_rfl) (fun _ _ _ h => h) (Or.inl ⟨by rfl, ?_⟩) (by assumption) ?_
              rotate_left
              · intro w hSw; (try dsimp only at hSw); go_simp <;> with_reducible rfl
              try simp only [Act.put]
              refine wpAnyH_take (i := 14) (oi := _) (v := ?_) rfl (by kernel_rfl) (by kernel_rfl) (by kernel_rfl) (fun _ _ _ h => h) (Or.inl ⟨by rfl, ?_⟩) (by assumption) ?_
              rotate_left
              · intro w hSw; (try dsimp only at hSw); go_simp <;> with_reducible rfl
              try simp only [Act.put]
              refine wpAnyH_take (i := 16) (oi := _) (v := ?_) rfl (by kernel_rfl) (by kernel_rfl) (by kernel_rfl) (fun _ _ _ h => h) (Or.inl ⟨by rfl, ?_⟩) (by assumption) ?_
              rotate_left
              · intro w hSw; (try dsimp only at hSw); go_simp <;> with_reducible rfl
              try simp only [Act.put]
              refine wpAnyH_ready (rs := [15, 17]) (by kernel_rfl) (by simp) ?_
              refine AllReadyH.cons (o := _) rfl (fun K hK => ?_) ?_
              · go_simp
                refine hK.out _ _ ?_ (fun hHeld2 => ?_)
                · assumption
                clear hK K
                try simp only [Act.put, List.setIfInBounds_toArray, List.set_cons_zero, List.set_cons_succ]
                refine wpAnyH_ready (rs := [17]) (by kernel_rfl) (by simp) ?_
                refine AllReadyH.cons (o := _) rfl (fun K hK => ?_) AllReadyH.nil
                go_simp
                refine hK.out _ _ ?_ (fun hHeld3 => ?_)
                · go_keep
                clear hK K
                try simp only [Act.put, List.setIfInBounds_toArray, List.set_cons_zero, List.set_cons_succ]
                refine wpAnyH_ready (rs := [18]) (by kernel_rfl) (by simp) ?_
                refine AllReadyH.cons (o := _) rfl (fun K hK => ?_) AllReadyH.nil
                refine step_app el_ints (by rfl) _ _ (by rfl) ((SR3.out.alloc _).drewN _) vq lr.length (lr.map (Value.int .i64)) (by rfl) ((OQ.out.alloc _).drewN _) ⟨wc.heap.size, 0, none⟩ 1 1 [.int .i64 (j : Int)] (by rfl) (by rfl) (new_cells _ _ _ _ (by simp)) (one_cells _ rfl) (by omega) hrn ?_; intro gg cg w6 st2 own2 gr2 bk2; have LN := Lib.hid (KD.out w6 (.slice (some ⟨gg, 0, none⟩) (lr.length + 1) cg) st2.imm (BE.out.trans st2.below) gr2 (InOw.snoc own2) bk2); have LN3 := Lib.hid (by have hh := LN.out; rw [hxl] at hh; exact hh.b3.cl 3 : (w6.setCell ⟨gk, p, none⟩ (.slice (some ⟨gg, 0, none⟩) (lr.length + 1) cg)).cell? ⟨g3, 3, none⟩ = some (.slice (some ⟨gk, 0, none⟩) t.size t.size)); obtain ⟨k1, kf, k3⟩ := KB.out w6 gr2; have ku := KU.out w6 st2.imm; clear st2 own2 gr2 bk2
                refine hK.out _ _ ?_ (fun hHeld4 => ?_)
                · exact ⟨k3, ku⟩
                clear hK K
                try simp only [Act.put, List.setIfInBounds_toArray]
                refine wpAnyH_take (i := 19) (oi := _) (v := ?_) rfl (by kernel_rfl) (by kernel_rfl) (by kernel_rfl) (fun _ _ _ h => h) (Or.inl ⟨by rfl, ?_⟩) (by assumption) ?_
                rotate_left
                · intro w hSw; (try dsimp only at hSw); go_simp <;> with_reducible rfl
                try simp only [Act.put]
                refine wpAnyH_ready (rs := [20]) (by kernel_rfl) (by simp) ?_
                refine AllReadyH.cons (o := _) rfl (fun K hK => ?_) AllReadyH.nil
                go_simp
                refine hK.out _ _ ?_ (fun hHeld5 => ?_)
                · exact ⟨LN3.out, KU.out _ LN.out.imm⟩
                clear hK K
                try simp only [Act.put, List.setIfInBounds_toArray, List.set_cons_zero, List.set_cons_succ]
                refine wpAnyH_done (by kernel_rfl) ?_ _
                refine NoPanic.normal ?_
                clear d0 e3 ek fk
                go_wp2_with fail
                go_roundw
                case rel =>
                  have LG := LN.out
                  rw [hxl] at LG
                  first
                    | exact ⟨j + 1, vp', vs', vals.set p _, by omega, by go_num, LG⟩
                    | (repeat apply Exists.intro
                       refine ⟨?_, rfl⟩
                       exact ⟨j + 1, vp', vs', vals.set p _, by omega, by go_num, LG⟩)
                case measure => simp [intOf]; omega
              · refine AllReadyH.cons (o := _) rfl (fun K hK => ?_) AllReadyH.nil
                go_simp
                refine hK.out _ _ ?_ (fun hHeld2 => ?_)
                · go_keep
                clear hK K
                try simp only [Act.put, List.setIfInBounds_toArray, List.set_cons_zero, List.set_cons_succ]
                refine wpAnyH_ready (rs := [15]) (by kernel_rfl) (by simp) ?_
                refine AllReadyH.cons (o := _) rfl (fun K hK => ?_) AllReadyH.nil
                go_simp
                refine hK.out _ _ ?_ (fun hHeld3 => ?_)
                · assumption
                clear hK K
                try simp only [Act.put, List.setIfInBounds_toArray, List.set_cons_zero, List.set_cons_succ]
                refine wpAnyH_ready (rs := [18]) (by kernel_rfl) (by simp) ?_
                refine AllReadyH.cons (o := _) rfl (fun K hK => ?_) AllReadyH.nil
                refine step_app el_ints (by rfl) _ _ (by rfl) ((SR3.out.alloc _).drewN _) vq lr.length (lr.map (Value.int .i64)) (by rfl) ((OQ.out.alloc _).drewN _) ⟨wc.heap.size, 0, none⟩ 1 1 [.int .i64 (j : Int)] (by rfl) (by rfl) (new_cells _ _ _ _ (by simp)) (one_cells _ rfl) (by omega) hrn ?_; intro gg cg w6 st2 own2 gr2 bk2; have LN := Lib.hid (KD.out w6 (.slice (some ⟨gg, 0, none⟩) (lr.length + 1) cg) st2.imm (BE.out.trans st2.below) gr2 (InOw.snoc own2) bk2); have LN3 := Lib.hid (by have hh := LN.out; rw [hxl] at hh; exact hh.b3.cl 3 : (w6.setCell ⟨gk, p, none⟩ (.slice (some ⟨gg, 0, none⟩) (lr.length + 1) cg)).cell? ⟨g3, 3, none⟩ = some (.slice (some ⟨gk, 0, none⟩) t.size t.size)); obtain ⟨k1, kf, k3⟩ := KB.out w6 gr2; have ku := KU.out w6 st2.imm; clear st2 own2 gr2 bk2
                refine hK.out _ _ ?_ (fun hHeld4 => ?_)
                · exact ⟨k3, ku⟩
                clear hK K
                try simp only [Act.put, List.setIfInBounds_toArray]
                refine wpAnyH_take (i := 19) (oi := _) (v := ?_) rfl (by kernel_rfl) (by kernel_rfl) (by kernel_rfl) (fun _ _ _ h => h) (Or.inl ⟨by rfl, ?_⟩) (by assumption) ?_
                rotate_left
                · intro w hSw; (try dsimp only at hSw); go_simp <;> with_reducible rfl
                try simp only [Act.put]
                refine wpAnyH_ready (rs := [20]) (by kernel_rfl) (by simp) ?_
                refine AllReadyH.cons (o := _) rfl (fun K hK => ?_) AllReadyH.nil
                go_simp
                refine hK.out _ _ ?_ (fun hHeld5 => ?_)
                · exact ⟨LN3.out, KU.out _ LN.out.imm⟩
                clear hK K
                try simp only [Act.put, List.setIfInBounds_toArray, List.set_cons_zero, List.set_cons_succ]
                refine wpAnyH_done (by kernel_rfl) ?_ _
                refine NoPanic.normal ?_
                clear d0 e3 ek fk
                go_wp2_with fail
                go_roundw
                case rel =>
                  have LG := LN.out
                  rw [hxl] at LG
                  first
                    | exact ⟨j + 1, vp', vs', vals.set p _, by omega, by go_num, LG⟩
                    | (repeat apply Exists.intro
                       refine ⟨?_, rfl⟩
                       exact ⟨j + 1, vp', vs', vals.set p _, by omega, by go_num, LG⟩)
                case measure => simp [intOf]; omega
    · obtain rfl : j = t.size := by omega
      have LX : Hid (NuI w h3 g3 an cn (flatP t) (flatP t).length (flatP t).length (flatP t).length (flatP t).length wr vp vs (.slice (some ⟨gk, 0, none⟩) (flatP t).length t.size) vals) := by unfold Hid; rw [hxl]; exact L
      have hsp := (Ow.sl L.op (by simp; omega)).shape
      have hss := (Ow.sl L.os (by simp; omega)).shape
      rw [show (((flatP t).take t.size).map NodeP.parent).length = t.size by simp [hxl]] at hsp
      rw [show (((flatP t).take t.size).map NodeP.size).length = t.size by simp [hxl]] at hss
      obtain ⟨app, cpp, rfl, -⟩ := hsp
      obtain ⟨ass, css, rfl, -⟩ := hss
      have c2 : wr.cell? ⟨g3, 2, none⟩ = some (.slice ass t.size css) := L.b3.cl 2
      have c3 : wr.cell? ⟨g3, 3, none⟩ = some (.slice (some ⟨gk, 0, none⟩) t.size t.size) := L.b3.cl 3
      have c4 : wr.cell? ⟨g3, 4, none⟩ = some (.bool (wideTo (flatP t) t.size)) := L.b3.cl 4
      have e0 : wr.cell? ⟨w.heap.size + 1, 0, none⟩ = some (.slice none 0 0) := L.b2.cl 0
      have e1 : wr.cell? ⟨w.heap.size + 1, 1, none⟩ = some (.slice none 0 0) := L.b2.cl 1
      have e2 : wr.cell? ⟨w.heap.size + 1, 2, none⟩ = some (.slice none 0 0) := L.b2.cl 2
      have e3 : wr.cell? ⟨w.heap.size + 1, 3, none⟩ = some (.slice none 0 0) := L.b2.cl 3
      have e4 : wr.cell? ⟨w.heap.size + 1, 4, none⟩ = some (.bool false) := L.b2.cl 4
      have g0 := L.b2.fz 0
      have g1 := L.b2.fz 1
      have g2 := L.b2.fz 2
      have g3' := L.b2.fz 3
      have g4 := L.b2.fz 4
      have zb := L.b2.lt
      have hne : g3 ≠ w.heap.size + 1 := fun e => apart_ne L.apart (i := 0) (j := 1) (by simp) (by simp) (by omega) _ rfl (by rw [← e]; rfl)
      have BL := Lib.hid L.bel
      have IM := Lib.hid L.imm
      have NO := Lib.hid L.no
      have TT : Hid (∃ ts, Trs h3 (.slice an t.size cn) ts ∧ ts.map sigT = (flatP t).map sigN) := ⟨nodesT t, ⟨csn, by rw [HNL.out]; exact SLN'.out.mono S3'.out.le, EncL.mono (fun _ _ e => e.mono S3'.out.le) ENN'.out⟩, NF.out⟩
      have FI := Lib.hid (fun (W : World) (hkp : ∀ g, g ≠ w.heap.size + 1 → W.heap[g]? = wr.heap[g]?) (hi : Imm h3 W) => by
        obtain ⟨ts, T1, T2⟩ := TT.out
        have := LX.out.fin WX.out (by omega) (node_i64 WX.out (by omega)) hkp hi (ts := ts) (by rw [hxl]; exact T1) T2
        rw [hxl] at this
        exact this : ∀ W : World, (∀ g, g ≠ w.heap.size + 1 → W.heap[g]? = wr.heap[g]?) → Imm h3 W → NumV (h3.fr w.heap.size W) (.agg #[.slice an t.size cn, .slice app t.size cpp, .slice ass t.size css, .slice (some ⟨gk, 0, none⟩) t.size t.size, .bool (wideTo (flatP t) t.size)]) (flatP t))
      have QQ : Hid (∀ W, (((((wr.setCell ⟨w.heap.size + 1, 0, none⟩ (.slice an t.size cn)).setCell ⟨w.heap.size + 1, 1, none⟩ (.slice app t.size cpp)).setCell ⟨w.heap.size + 1, 2, none⟩ (.slice ass t.size css)).setCell ⟨w.heap.size + 1, 3, none⟩ (.slice (some ⟨gk, 0, none⟩) t.size t.size)).setCell ⟨w.heap.size + 1, 4, none⟩ (.bool (wideTo (flatP t) t.size))) = W → St w.heap.size h w (h3.fr w.heap.size W) W ∧ NumV (h3.fr w.heap.size W) (.agg #[.slice an t.size cn, .slice app t.size cpp, .slice ass t.size css, .slice (some ⟨gk, 0, none⟩) t.size t.size, .bool (wideTo (flatP t) t.size)]) (flatP t) ∧ W.cell? ⟨w.heap.size + 1, 0, none⟩ = some (.slice an t.size cn) ∧ W.cell? ⟨w.heap.size + 1, 1, none⟩ = some (.slice app t.size cpp) ∧ W.cell? ⟨w.heap.size + 1, 2, none⟩ = some (.slice ass t.size css) ∧ W.cell? ⟨w.heap.size + 1, 3, none⟩ = some (.slice (some ⟨gk, 0, none⟩) t.size t.size) ∧ W.cell? ⟨w.heap.size + 1, 4, none⟩ = some (.bool (wideTo (flatP t) t.size))) := fun W hW => by
        have HB := ((((L.b2.s50 (.slice an t.size cn)).s51 (.slice app t.size cpp)).s52 (.slice ass t.size css)).s53 (.slice (some ⟨gk, 0, none⟩) t.size t.size)).s54 (.bool (wideTo (flatP t) t.size))
        have hI : Imm h3 W := by
          rw [← hW]
          exact imm1 (imm1 (imm1 (imm1 (imm1 L.imm L.no.1 _ _) L.no.1 _ _) L.no.1 _ _) L.no.1 _ _) L.no.1 _ _
        have hB : Below w.heap.size w W := by
          rw [← hW]
          exact ((((L.bel.setCell (p := ⟨w.heap.size + 1, 0, none⟩) (by simp) _).setCell (p := ⟨w.heap.size + 1, 1, none⟩) (by simp) _).setCell (p := ⟨w.heap.size + 1, 2, none⟩) (by simp) _).setCell (p := ⟨w.heap.size + 1, 3, none⟩) (by simp) _).setCell (p := ⟨w.heap.size + 1, 4, none⟩) (by simp) _
        have hK : ∀ g, g ≠ w.heap.size + 1 → W.heap[g]? = wr.heap[g]? := fun g hg => by
          rw [← hW]
          exact ((((Below.heap_setCell _ ⟨w.heap.size + 1, 4, none⟩ _ _ hg).trans (Below.heap_setCell _ ⟨w.heap.size + 1, 3, none⟩ _ _ hg)).trans (Below.heap_setCell _ ⟨w.heap.size + 1, 2, none⟩ _ _ hg)).trans (Below.heap_setCell _ ⟨w.heap.size + 1, 1, none⟩ _ _ hg)).trans (Below.heap_setCell _ ⟨w.heap.size + 1, 0, none⟩ _ _ hg)
        have st : St w.heap.size h w h3 W := ⟨hB, hI, S3b.out.le, S3b.out.old, Nat.le_refl _⟩
        rw [hW] at HB
        exact ⟨st.fr, FI.out W hK hI, HB.cl 0, HB.cl 1, HB.cl 2, HB.cl 3, HB.cl 4⟩
      clear L LX L'
      go_wp2_with fail
      generalize hW : (((((wr.setCell ⟨w.heap.size + 1, 0, none⟩ (.slice an t.size cn)).setCell ⟨w.heap.size + 1, 1, none⟩ (.slice app t.size cpp)).setCell ⟨w.heap.size + 1, 2, none⟩ (.slice ass t.size css)).setCell ⟨w.heap.size + 1, 3, none⟩ (.slice (some ⟨gk, 0, none⟩) t.size t.size)).setCell ⟨w.heap.size + 1, 4, none⟩ (.bool (wideTo (flatP t) t.size))) = W
      obtain ⟨q1, q2, k0, k1, k2, k3, k4⟩ := QQ.out W hW
      clear hW
      exact bodyPost_ret (v := .agg #[.slice an t.size cn, .slice app t.size cpp, .slice ass t.size css, .slice (some ⟨gk, 0, none⟩) t.size t.size, .bool (wideTo (flatP t) t.size)]) (by simp [results, Try.results34, go_sem, k0, k1, k2, k3, k4]) rfl ⟨_, rfl, _, q1, q2⟩
end Go.Proofs.Ytfifbadepebpeaa
