/- matching.price. -/
import Derived.Test.YtfifbadepebpeaaBp
namespace Go.Proofs.Ytfifbadepebpeaa
open Go.RowKit

def lastP (pre : List (Int × Int)) : Int × Int := pre.getLastD (-1, -1)
def okP (x y : List NodeP) (pre : List (Int × Int)) (p : Int × Int) : Prop :=
  (lastP pre).1 < p.1 ∧ (lastP pre).2 < p.2 ∧ p.1 < x.length ∧ p.2 < y.length ∧ (nd x p.1).kind = (nd y p.2).kind ∧ (p = (0, 0) ↔ pre = []) ∧ (p = (0, 0) ∨ ((nd x p.1).parent, (nd y p.2).parent) ∈ pre)
instance (x y : List NodeP) (pre : List (Int × Int)) (p : Int × Int) : Decidable (okP x y pre p) := by unfold okP; infer_instance

def priceGo (x y : List NodeP) : List (Int × Int) → List (Int × Int) → Int → Option Int
  | _, [], c => some c
  | pre, p :: ps, c => if okP x y pre p then priceGo x y (pre ++ [p]) ps (c + (differP (nd x p.1).text (nd y p.2).text - 2)) else none
def priceP (x y : List NodeP) (pairs : List (Int × Int)) : Option Int := priceGo x y [] pairs (x.length + y.length)

theorem priceGo_step {x y : List NodeP} {pairs : List (Int × Int)} {i : Nat} (h : i < pairs.length) (c : Int) :
    priceGo x y (pairs.take i) (pairs.drop i) c = if okP x y (pairs.take i) pairs[i] then priceGo x y (pairs.take (i + 1)) (pairs.drop (i + 1)) (c + (differP (nd x pairs[i].1).text (nd y pairs[i].2).text - 2)) else none := by
  rw [List.drop_eq_getElem_cons h, priceGo, List.take_add_one, List.getElem?_eq_getElem h]
  rfl

theorem lastP_take (pairs : List (Int × Int)) (i : Nat) (h : i < pairs.length) : lastP (pairs.take (i + 1)) = pairs[i] := by
  rw [List.take_add_one, List.getElem?_eq_getElem h]
  unfold lastP
  simp only [Option.toList_some]
  rw [List.getLastD_concat]

theorem differP_bd (a b : ByteArray) : 0 ≤ differP a b ∧ differP a b ≤ 1 := by unfold differP; split <;> omega

def PriceRes (w : World) (r : Option Int) (e : Ending) (w' : World) : Prop := e = .returned (.tuple #[.int .i64 (r.getD 0), .bool r.isSome]) ∧ Below w.heap.size w w'

structure PrI (h : Hp) (w : World) (pairs : List (Int × Int)) (i : Nat) (wr : World) : Prop where
  st : St w.heap.size h w h wr
  map : ∃ l, MapL wr w.heap.size l ∧ ∀ q, findL l q = if q ∈ pairs.take i then some (.bool true) else none
  c0 : wr.cell? ⟨w.heap.size + 1, 0, none⟩ = some (.int .i64 (lastP (pairs.take i)).1)
  c1 : wr.cell? ⟨w.heap.size + 1, 1, none⟩ = some (.int .i64 (lastP (pairs.take i)).2)
  fz : ∀ i, wr.frozen? ⟨w.heap.size + 1, i, none⟩ = false
  sz : w.heap.size + 2 ≤ wr.heap.size
  lo : -1 ≤ (lastP (pairs.take i)).1 ∧ -1 ≤ (lastP (pairs.take i)).2

theorem PrI.next {h : Hp} {w : World} {pairs : List (Int × Int)} {j : Nat} {wr wc W2 w5 : World} {p : Int × Int} (hi : Imm h w) (P : PrI h w pairs j wr) (hlast : lastP (pairs.take (j + 1)) = p) (hmem : ∀ q, q ∈ pairs.take (j + 1) ↔ q ∈ pairs.take j ∨ q = p) (hp : 0 ≤ p.1 ∧ 0 ≤ p.2)
    (S9 : St w.heap.size h w h wc) (z9 : wr.heap.size < wc.heap.size) {l : List ((Int × Int) × Value)} (hf : ∀ q, findL l q = if q ∈ pairs.take j then some (.bool true) else none) (l9 : wc.heap[w.heap.size + 1]? = wr.heap[w.heap.size + 1]?)
    (hm2 : MapL W2 w.heap.size (setL l p (.bool true))) (hg2 : wc.grownBy W2 (some w.heap.size))
    (hb5 : Below ((W2.setCell ⟨w.heap.size + 1, 0, none⟩ (.int .i64 p.1)).setCell ⟨w.heap.size + 1, 1, none⟩ (.int .i64 p.2)).heap.size ((W2.setCell ⟨w.heap.size + 1, 0, none⟩ (.int .i64 p.1)).setCell ⟨w.heap.size + 1, 1, none⟩ (.int .i64 p.2)) w5) :
    PrI h w pairs (j + 1) w5 := by
  have hsz := P.sz
  have hg2s := hg2.size
  have n0 : h w.heap.size = none := new_own hi _ (Nat.le_refl _)
  have n1 : h (w.heap.size + 1) = none := new_own hi _ (by omega)
  have S2 := S9.grown hg2 (fun k hk => by simp only [Option.some.injEq] at hk; subst hk; exact ⟨Nat.le_refl _, n0⟩)
  have S3 := (S2.setCell (p := ⟨w.heap.size + 1, 0, none⟩) (by show w.heap.size ≤ w.heap.size + 1; omega) n1 (.int .i64 p.1)).setCell (p := ⟨w.heap.size + 1, 1, none⟩) (by show w.heap.size ≤ w.heap.size + 1; omega) n1 (.int .i64 p.2)
  have z3 : ((W2.setCell ⟨w.heap.size + 1, 0, none⟩ (.int .i64 p.1)).setCell ⟨w.heap.size + 1, 1, none⟩ (.int .i64 p.2)).heap.size = W2.heap.size := by simp [World.setCell]
  have hblk : W2.heap[w.heap.size + 1]? = wr.heap[w.heap.size + 1]? := by
    rw [hg2.block _ (by omega) (fun e => by simp only [Option.some.injEq] at e; omega), l9]
  have hcell : ∀ i, W2.cell? ⟨w.heap.size + 1, i, none⟩ = wr.cell? ⟨w.heap.size + 1, i, none⟩ := fun i => World.cell?_of_block (a := ⟨w.heap.size + 1, i, none⟩) hblk
  have hfz : ∀ i, W2.frozen? ⟨w.heap.size + 1, i, none⟩ = false := fun i => by rw [World.frozen?_of_block (a := ⟨w.heap.size + 1, i, none⟩) hblk]; exact P.fz i
  refine ⟨S3.same hb5, ⟨_, hm2.keep ?_, fun q => ?_⟩, ?_, ?_, fun i => ?_, ?_, ?_⟩
  · rw [hb5.block _ (by rw [z3]; omega), Below.heap_setCell _ _ _ _ (by show w.heap.size ≠ w.heap.size + 1; omega), Below.heap_setCell _ _ _ _ (by show w.heap.size ≠ w.heap.size + 1; omega)]
  · rw [findL_set, hf]
    by_cases hq : q = p
    · rw [if_pos hq, if_pos ((hmem q).2 (.inr hq))]
    · rw [if_neg hq]
      by_cases hq2 : q ∈ pairs.take j
      · rw [if_pos hq2, if_pos ((hmem q).2 (.inl hq2))]
      · rw [if_neg hq2, if_neg (fun e => by rcases (hmem q).1 e with e | e; exact hq2 e; exact hq e)]
  · rw [hb5.cell (by rw [z3]; show w.heap.size + 1 < _; omega), hlast]
    have h0 := hcell 0
    rw [P.c0] at h0
    rw [World.cell?_setCell_other _ _ _ _ (by simp)]
    exact World.cell?_setCell_same _ _ _ h0
  · rw [hb5.cell (by rw [z3]; show w.heap.size + 1 < _; omega), hlast]
    have h1 := hcell 1
    rw [P.c1] at h1
    exact World.cell?_setCell_same _ _ _ (by rw [World.cell?_setCell_other _ _ _ _ (by simp)]; exact h1)
  · rw [hb5.frozen (by rw [z3]; show w.heap.size + 1 < _; omega)]
    simp [hfz]
  · have := hb5.size; rw [z3] at this; omega
  · rw [hlast]; omega

set_option maxRecDepth 100000 in
set_option maxHeartbeats 4000000 in
theorem price_any (h : Hp) (w : World) (hi : Imm h w) (vx vy vp : Value) (x y : List NodeP) (pairs : List (Int × Int)) (hx : Nds h vx x) (hy : Nds h vy y) (px : 0 < x.length) (py : 0 < y.length)
    (sx : x.length ≤ 1000000000) (sy : y.length ≤ 1000000000) (hp : Prs h vp pairs) :
    Calls Try.prog 42 #[vx, vy, vp] w (PriceRes w (priceP x y pairs)) := by
  obtain ⟨bx, ox, cx, rfl, hxn, hxc⟩ := hx.openI px
  obtain ⟨by', oy, cy, rfl, hyn, hyc⟩ := hy.openI py
  obtain ⟨ap, cp, rfl, hpn, hpc⟩ := hp.open
  have HX := Lib.hid (fun w' hi => hxc w' hi)
  have HY := Lib.hid (fun w' hi => hyc w' hi)
  have HPC := Lib.hid (fun w' hi => hpc w' hi)
  have HPR := Lib.hid hp.2
  have HI := Lib.hid hi
  clear hx hy hxc hyc hp hpc hi
  have hmm : ∀ W : World, (Instr.makeMap 105 none).run Try.prog W = .ok (.map (some W.heap.size)) (W.alloc (.map #[] 0)) := fun W => rfl
  go_enter Try.func42, Try.ntmps42
  go_wp2_with fail
  have P0 : PrI h w pairs 0 ((w.alloc (.map #[] 0)).alloc (.cells #[.int .i64 (-1), .int .i64 (-1)] 52)) := by
    refine ⟨((St.refl HI.out).alloc _).alloc _, ⟨[], (mapL_new w).keep (Below.heap_alloc _ _ _ (by simp)), by simp [findL]⟩, ?_, ?_, ?_, by simp, ?_⟩
    · rw [World.cell?_alloc_at _ _ _ _ (by simp)]; rfl
    · rw [World.cell?_alloc_at _ _ _ _ (by simp)]; rfl
    · intro i; exact World.frozen?_alloc_at _ _ _ _ (by simp)
    · simp [lastP]
  have P0' := Lib.hid P0
  clear P0
  go_loopw [6, 7, 8, 11, 12, 13, 14, 15, 25, 26, 27, 28, 29, 30, 31, 32, 33, 34, 35, 36, 37, 38, 39, 40, 41, 42, 43, 44, 45, 46, 47, 48, 49, 50, 51, 52, 53, 54, 55, 56, 57, 58, 59, 60, 61, 62, 63, 64, 65, 66, 67, 68, 69, 70, 71, 72, 73, 74, 75, 76, 77, 78, 79, 80, 81, 82, 83, 84, 85, 86, 87, 88, 89, 90, 91, 92, 93, 94, 95, 96, 97, 98, 99, 100, 101] (fun _ _ c _ _ _ _ _ i _ _ _ _ _ _ _ _ _ _ _ _ _ _ _ _ _ _ _ _ _ _ _ _ _ _ _ _ _ _ _ _ _ _ _ _ _ _ _ _ _ _ _ _ _ _ _ _ _ _ _ _ _ _ _ _ _ _ _ _ _ _ _ _ _ _ _ _ _ _ _ _ _ _ _ _ wr => ∃ (j : Nat) (z : Int), j ≤ pairs.length ∧ i = .int .i64 j ∧ c = .int .i64 z ∧ (-2 * (j : Int) ≤ z ∧ z ≤ 2000000000) ∧ PrI h w pairs j wr ∧ Hid (priceGo x y (pairs.take j) (pairs.drop j) z = priceP x y pairs)) (fun _ _ _ _ _ _ _ _ i _ _ _ _ _ _ _ _ _ _ _ _ _ _ _ _ _ _ _ _ _ _ _ _ _ _ _ _ _ _ _ _ _ _ _ _ _ _ _ _ _ _ _ _ _ _ _ _ _ _ _ _ _ _ _ _ _ _ _ _ _ _ _ _ _ _ _ _ _ _ _ _ _ _ _ _ _ => pairs.length - (intOf i).toNat)
  case atStart => exact ⟨0, _, Nat.zero_le _, rfl, rfl, by omega, P0'.out, rfl⟩
  case round =>
    obtain ⟨j, z, hj, rfl, rfl, hz, P, R⟩ := hrel
    by_cases hlt : j < pairs.length
    · obtain ⟨b, off, rfl, hb, hpc⟩ := HPC.out wr P.st.imm (by omega)
      obtain ⟨d0, d1⟩ := hpc j hlt
      obtain ⟨i1, i2⟩ := HPR.out pairs[j] (by simp)
      have HS := Lib.hid (priceGo_step (x := x) (y := y) hlt z)
      have HLT := Lib.hid (lastP_take pairs j hlt)
      have c0 := P.c0
      have c1 := P.c1
      have sz : w.heap.size + 1 < wr.heap.size := by have := P.sz; omega
      have sz0 : w.heap.size < wr.heap.size := by omega
      have P' := Lib.hid P
      have HMem : Hid (∀ q, q ∈ pairs.take (j + 1) ↔ q ∈ pairs.take j ∨ q = pairs[j]) := fun q => by rw [List.take_add_one, List.getElem?_eq_getElem hlt]; simp only [Option.toList_some, List.mem_append, List.mem_singleton]
      have HE : Hid (pairs.take j = [] ↔ j = 0) := by
        unfold Hid
        constructor
        · intro e
          have := congrArg List.length e
          rw [List.length_take, List.length_nil] at this
          omega
        · rintro rfl; rfl
      generalize pairs[j] = p at *
      have HBAD : Hid (¬ okP x y (pairs.take j) p → priceP x y pairs = none) := fun hn => by rw [← R.out, HS.out, if_neg hn]
      generalize hL : lastP (pairs.take j) = L at *
      have HL := Lib.hid hL
      unfold I64 at i1 i2
      clear hpc P hL
      have FIN : Hid (∀ (X : Obj) n, ¬ okP x y (pairs.take j) p → PriceRes w (priceP x y pairs) (.returned (.tuple #[.int .i64 0, .bool false])) ((wr.alloc X).drewN n)) := fun X n hn => by
        rw [HBAD.out hn]
        exact ⟨rfl, (P'.out.st.below.alloc P'.out.st.size _).drewN n⟩
      by_cases h1 : p.1 ≤ L.1
      · go_wp2_with fail
        go_ret2
        exact FIN.out _ 0 (fun ok => by have := ok.1; rw [HL.out] at this; omega)
      have h1' : L.1 < p.1 := by omega
      by_cases h2 : p.2 ≤ L.2
      · go_wp2_with fail
        go_ret2
        exact FIN.out _ 0 (fun ok => by have := ok.2.1; rw [HL.out] at this; omega)
      have h2' : L.2 < p.2 := by omega
      by_cases h3 : (x.length : Int) ≤ p.1
      · go_wp2_with fail
        go_ret2
        exact FIN.out _ 0 (fun ok => by have := ok.2.2.1; omega)
      have h3' : p.1 < x.length := by omega
      by_cases h4 : (y.length : Int) ≤ p.2
      · go_wp2_with fail
        go_ret2
        exact FIN.out _ 0 (fun ok => by have := ok.2.2.2.1; omega)
      have h4' : p.2 < y.length := by omega
      have hL0 : -1 ≤ L.1 ∧ -1 ≤ L.2 := by have := P'.out.lo; rw [HL.out] at this; exact this
      have h5 : 0 ≤ p.1 := by omega
      have h6 : 0 ≤ p.2 := by omega
      obtain ⟨hbx, hxa⟩ := HX.out wr P'.out.st.imm
      obtain ⟨hby, hya⟩ := HY.out wr P'.out.st.imm
      obtain ⟨akx, ckx, x0, x1, x2, x3, x4, -, xi0, xi2, xi4⟩ := hxa p.1 h5 h3'
      obtain ⟨aky, cky, y0, y1, y2, y3, y4, -, yi0, yi2, yi4⟩ := hya p.2 h6 h4'
      clear hxa hya h1 h2 h3 h4
      have hx1 : bx < wr.heap.size + 1 := by omega
      have hx2 : bx < wr.heap.size + 1 + 1 := by omega
      have hy1 : by' < wr.heap.size + 1 := by omega
      have hy2 : by' < wr.heap.size + 1 + 1 := by omega
      go_upto_region 9 with fail
      go_cut [13, 14] (fun s13 s14 wx => ∃ ga gb : Nat, s13 = .pointer (some ⟨ga, 0, none⟩) ∧ s14 = .pointer (some ⟨gb, 0, none⟩) ∧ (St w.heap.size h w h wx ∧ wx.heap[w.heap.size]? = wr.heap[w.heap.size]? ∧ wx.heap[w.heap.size + 1]? = wr.heap[w.heap.size + 1]? ∧ wr.heap.size < wx.heap.size ∧ ga < wx.heap.size ∧ gb < wx.heap.size ∧ wr.heap.size < ga ∧ wr.heap.size < gb ∧
        wx.cell? ⟨wr.heap.size, 0, none⟩ = some (.int .i64 p.1) ∧ wx.cell? ⟨wr.heap.size, 1, none⟩ = some (.int .i64 p.2)) ∧
        (wx.cell? ⟨ga, 0, none⟩ = some (.int .i64 (nd x p.1).kind) ∧ wx.cell? ⟨ga, 1, none⟩ = some (.string (nd x p.1).text) ∧ wx.cell? ⟨ga, 2, none⟩ = some (.int .i64 (nd x p.1).parent) ∧ wx.cell? ⟨ga, 3, none⟩ = some (.slice akx (nd x p.1).kids.length ckx) ∧ wx.cell? ⟨ga, 4, none⟩ = some (.int .i64 (nd x p.1).size)) ∧
        wx.cell? ⟨gb, 0, none⟩ = some (.int .i64 (nd y p.2).kind) ∧ wx.cell? ⟨gb, 1, none⟩ = some (.string (nd y p.2).text) ∧ wx.cell? ⟨gb, 2, none⟩ = some (.int .i64 (nd y p.2).parent) ∧ wx.cell? ⟨gb, 3, none⟩ = some (.slice aky (nd y p.2).kids.length cky) ∧ wx.cell? ⟨gb, 4, none⟩ = some (.int .i64 (nd y p.2).size))
      case first =>
        go_region
        all_goals
          go_wp2_with fail
          go_meet
          refine ⟨_, _, rfl, rfl, ⟨(((P'.out.st.alloc _).alloc _).alloc _).drew, ?_, ?_, ?_, ?_, ?_, ?_, ?_, ?_, ?_⟩, ⟨?_, ?_, ?_, ?_, ?_⟩, ?_, ?_, ?_, ?_, ?_⟩
          · show ((((wr.alloc _).alloc _).alloc _).heap)[w.heap.size]? = _
            rw [Below.heap_alloc _ _ _ (by simp; omega), Below.heap_alloc _ _ _ (by simp; omega), Below.heap_alloc _ _ _ (by omega)]
          · show ((((wr.alloc _).alloc _).alloc _).heap)[w.heap.size + 1]? = _
            rw [Below.heap_alloc _ _ _ (by simp; omega), Below.heap_alloc _ _ _ (by simp; omega), Below.heap_alloc _ _ _ (by omega)]
          all_goals first
            | omega
            | (simp; done)
            | (simp; omega)
            | (simp; done)
            | (rw [World.cell?_drew, World.cell?_alloc_at _ _ _ _ (by simp)]; rfl)
            | (rw [World.cell?_drew, World.cell?_alloc_past _ _ _ (by simp), World.cell?_alloc_at _ _ _ _ (by simp)]; rfl)
            | (rw [World.cell?_drew, World.cell?_alloc_past _ _ _ (by simp; omega), World.cell?_alloc_past _ _ _ (by simp), World.cell?_alloc_at _ _ _ _ rfl]; rfl)
      case rest =>
        obtain ⟨ga, gb, rfl, rfl, ⟨S9, m9, l9, z9, za, zb, zc, zd, p0, p1⟩, ⟨a0, a1, a2, a3, a4⟩, b0, b1, b2, b3, b4⟩ := hcut
        have S9' := Lib.hid S9
        have FI9 : Hid (¬ okP x y (pairs.take j) p → PriceRes w (priceP x y pairs) (.returned (.tuple #[.int .i64 0, .bool false])) wc) := fun hn => by
          rw [HBAD.out hn]
          exact ⟨rfl, S9'.out.below⟩
        have M9 := Lib.hid m9
        have L9 := Lib.hid l9
        clear S9 m9 l9 x0 x1 x2 x3 x4 y0 y1 y2 y3 y4 c0 c1 d0 d1
        by_cases hk : (nd x p.1).kind = (nd y p.2).kind
        case neg =>
          have hk' := ibneT hk
          go_wp2_with fail
          go_ret2
          exact FI9.out (fun ok => hk ok.2.2.2.2.1)
        have hk' := ibneF hk
        have HK := Lib.hid hk
        clear hk
        by_cases hr : p = (0, 0)
        · have r1 : (p.1 == 0) = true := by rw [hr]; rfl
          have r2 : (p.2 == 0) = true := by rw [hr]; rfl
          have HRT := Lib.hid hr
          clear hr
          by_cases hj0 : j = 0
          case neg =>
            have hj1 : ((j : Int) == 0) = false := beqF hj0
            have HJ : Hid (j ≠ 0) := hj0
            clear hj0
            go_wp2_with fail
            go_ret2
            exact FI9.out (fun ok => HJ.out (HE.out.1 (ok.2.2.2.2.2.1.1 HRT.out)))
          have hj1 : ((j : Int) == 0) = true := beqT hj0
          have HOK : Hid (okP x y (pairs.take j) p) := ⟨by rw [HL.out]; exact h1', by rw [HL.out]; exact h2', h3', h4', HK.out, ⟨fun _ => HE.out.2 hj0, fun _ => HRT.out⟩, .inl HRT.out⟩
          clear hj0
          obtain ⟨lm, hlm, hfm⟩ := P'.out.map
          obtain ⟨W2, hrun, hm2, hg2⟩ := (hlm.keep M9.out).put' p (.bool true) 105 4 Try.underlying105
          have u0 := (hg2.cellOf (i := 0) z9 (by simp only [ne_eq, Option.some.injEq]; omega)).1.trans p0
          have u1 := (hg2.cellOf (i := 1) z9 (by simp only [ne_eq, Option.some.injEq]; omega)).1.trans p1
          have v0 := (hg2.cellOf (i := 0) za (by simp only [ne_eq, Option.some.injEq]; omega)).1.trans a0
          have v1 := (hg2.cellOf (i := 1) za (by simp only [ne_eq, Option.some.injEq]; omega)).1.trans a1
          have v2 := (hg2.cellOf (i := 2) za (by simp only [ne_eq, Option.some.injEq]; omega)).1.trans a2
          have v3 := (hg2.cellOf (i := 3) za (by simp only [ne_eq, Option.some.injEq]; omega)).1.trans a3
          have v4 := (hg2.cellOf (i := 4) za (by simp only [ne_eq, Option.some.injEq]; omega)).1.trans a4
          have t0 := (hg2.cellOf (i := 0) zb (by simp only [ne_eq, Option.some.injEq]; omega)).1.trans b0
          have t1 := (hg2.cellOf (i := 1) zb (by simp only [ne_eq, Option.some.injEq]; omega)).1.trans b1
          have t2 := (hg2.cellOf (i := 2) zb (by simp only [ne_eq, Option.some.injEq]; omega)).1.trans b2
          have t3 := (hg2.cellOf (i := 3) zb (by simp only [ne_eq, Option.some.injEq]; omega)).1.trans b3
          have t4 := (hg2.cellOf (i := 4) zb (by simp only [ne_eq, Option.some.injEq]; omega)).1.trans b4
          have hlb : ∀ i, W2.cell? ⟨w.heap.size + 1, i, none⟩ = wr.cell? ⟨w.heap.size + 1, i, none⟩ ∧ W2.frozen? ⟨w.heap.size + 1, i, none⟩ = false := fun i => by
            obtain ⟨e1, e2⟩ := hg2.cellOf (b := w.heap.size + 1) (i := i) (by omega) (by simp only [ne_eq, Option.some.injEq]; omega)
            exact ⟨e1.trans (World.cell?_of_block (a := ⟨w.heap.size + 1, i, none⟩) L9.out), by rw [e2, World.frozen?_of_block (a := ⟨w.heap.size + 1, i, none⟩) L9.out]; exact P'.out.fz i⟩
          have s0 := (hlb 0).1.trans P'.out.c0
          have s1 := (hlb 1).1.trans P'.out.c1
          have f0 := (hlb 0).2
          have f1 := (hlb 1).2
          have n1 : w.heap.size + 1 ≠ ga := by omega
          have n2 : w.heap.size + 1 ≠ gb := by omega
          have n3 : ga ≠ w.heap.size + 1 := by omega
          have n4 : gb ≠ w.heap.size + 1 := by omega
          have n5 : wr.heap.size ≠ w.heap.size + 1 := by omega
          have HM2 := Lib.hid hm2
          have HG2 := Lib.hid hg2
          have HFM := Lib.hid hfm
          have hdb := differP_bd (nd x p.1).text (nd y p.2).text
          clear hm2 hg2 hlb hlm hfm
          go_wp2_with fail
          refine (differ_any _ _ _ _ _ _ _ _ _ _ _ _ _ _ _).mono ?_
          rintro e w5 ⟨rfl, hb5⟩
          have PN := Lib.hid (P'.out.next HI.out HLT.out HMem.out ⟨h5, h6⟩ S9'.out z9 HFM.out L9.out HM2.out HG2.out hb5)
          have RN : Hid (priceGo x y (pairs.take (j + 1)) (pairs.drop (j + 1)) (z + (differP (nd x p.1).text (nd y p.2).text - 2)) = priceP x y pairs) := by
            unfold Hid; rw [← R.out, HS.out, if_pos HOK.out]
          clear hb5
          go_wp2_with fail
          go_roundw
          case rel => exact ⟨j + 1, _, by omega, by go_num, rfl, by omega, PN.out, RN⟩
          case measure => simp [intOf]; omega
        · have r0 : (p.1 == 0 && p.2 == 0) = false := by
            rw [Bool.eq_false_iff]
            intro e
            simp only [Bool.and_eq_true, beq_iff_eq] at e
            exact hr (Prod.ext e.1 e.2)
          have HRT : Hid (p ≠ (0, 0)) := hr
          clear hr
          by_cases hj0 : j = 0
          · have hj1 : ((j : Int) == 0) = true := beqT hj0
            have HJ : Hid (j = 0) := hj0
            clear hj0
            go_wp2_with fail
            go_ret2
            exact FI9.out (fun ok => HRT.out (ok.2.2.2.2.2.1.2 (HE.out.2 HJ.out)))
          have hj1 : ((j : Int) == 0) = false := beqF hj0
          have HJ : Hid (j ≠ 0) := hj0
          clear hj0
          have hlook : Hid (∀ q : Int × Int, (Instr.lookup 105 (.map (some w.heap.size)) (.agg #[.int .i64 q.1, .int .i64 q.2]) false).run Try.prog wc = .ok (.bool (decide (q ∈ pairs.take j))) wc) := fun q => by
            obtain ⟨lm, hlm, hfm⟩ := P'.out.map
            have := hlm.look q 105 4 (.bool false) Try.underlying105 (fun _ => by kernel_rfl) wc M9.out
            rw [this, hfm q]
            by_cases hq : q ∈ pairs.take j
            · rw [if_pos hq, decide_eq_true hq]; rfl
            · rw [if_neg hq, decide_eq_false hq]; rfl
          have hlk := hlook.out ((nd x p.1).parent, (nd y p.2).parent)
          by_cases hs : ((nd x p.1).parent, (nd y p.2).parent) ∈ pairs.take j
          case neg =>
            rw [decide_eq_false hs] at hlk
            have HSN : Hid (((nd x p.1).parent, (nd y p.2).parent) ∉ pairs.take j) := hs
            clear hs
            go_wp2_with fail
            go_ret2
            exact FI9.out (fun ok => by rcases ok.2.2.2.2.2.2 with e | e; exact HRT.out e; exact HSN.out e)
          rw [decide_eq_true hs] at hlk
          have HOK : Hid (okP x y (pairs.take j) p) := ⟨by rw [HL.out]; exact h1', by rw [HL.out]; exact h2', h3', h4', HK.out, ⟨fun e => absurd e HRT.out, fun e => absurd (HE.out.1 e) HJ.out⟩, .inr hs⟩
          clear hs
          obtain ⟨lm, hlm, hfm⟩ := P'.out.map
          obtain ⟨W2, hrun, hm2, hg2⟩ := (hlm.keep M9.out).put' p (.bool true) 105 4 Try.underlying105
          have u0 := (hg2.cellOf (i := 0) z9 (by simp only [ne_eq, Option.some.injEq]; omega)).1.trans p0
          have u1 := (hg2.cellOf (i := 1) z9 (by simp only [ne_eq, Option.some.injEq]; omega)).1.trans p1
          have v0 := (hg2.cellOf (i := 0) za (by simp only [ne_eq, Option.some.injEq]; omega)).1.trans a0
          have v1 := (hg2.cellOf (i := 1) za (by simp only [ne_eq, Option.some.injEq]; omega)).1.trans a1
          have v2 := (hg2.cellOf (i := 2) za (by simp only [ne_eq, Option.some.injEq]; omega)).1.trans a2
          have v3 := (hg2.cellOf (i := 3) za (by simp only [ne_eq, Option.some.injEq]; omega)).1.trans a3
          have v4 := (hg2.cellOf (i := 4) za (by simp only [ne_eq, Option.some.injEq]; omega)).1.trans a4
          have t0 := (hg2.cellOf (i := 0) zb (by simp only [ne_eq, Option.some.injEq]; omega)).1.trans b0
          have t1 := (hg2.cellOf (i := 1) zb (by simp only [ne_eq, Option.some.injEq]; omega)).1.trans b1
          have t2 := (hg2.cellOf (i := 2) zb (by simp only [ne_eq, Option.some.injEq]; omega)).1.trans b2
          have t3 := (hg2.cellOf (i := 3) zb (by simp only [ne_eq, Option.some.injEq]; omega)).1.trans b3
          have t4 := (hg2.cellOf (i := 4) zb (by simp only [ne_eq, Option.some.injEq]; omega)).1.trans b4
          have hlb : ∀ i, W2.cell? ⟨w.heap.size + 1, i, none⟩ = wr.cell? ⟨w.heap.size + 1, i, none⟩ ∧ W2.frozen? ⟨w.heap.size + 1, i, none⟩ = false := fun i => by
            obtain ⟨e1, e2⟩ := hg2.cellOf (b := w.heap.size + 1) (i := i) (by omega) (by simp only [ne_eq, Option.some.injEq]; omega)
            exact ⟨e1.trans (World.cell?_of_block (a := ⟨w.heap.size + 1, i, none⟩) L9.out), by rw [e2, World.frozen?_of_block (a := ⟨w.heap.size + 1, i, none⟩) L9.out]; exact P'.out.fz i⟩
          have s0 := (hlb 0).1.trans P'.out.c0
          have s1 := (hlb 1).1.trans P'.out.c1
          have f0 := (hlb 0).2
          have f1 := (hlb 1).2
          have n1 : w.heap.size + 1 ≠ ga := by omega
          have n2 : w.heap.size + 1 ≠ gb := by omega
          have n3 : ga ≠ w.heap.size + 1 := by omega
          have n4 : gb ≠ w.heap.size + 1 := by omega
          have n5 : wr.heap.size ≠ w.heap.size + 1 := by omega
          have HM2 := Lib.hid hm2
          have HG2 := Lib.hid hg2
          have HFM := Lib.hid hfm
          have hdb := differP_bd (nd x p.1).text (nd y p.2).text
          clear hm2 hg2 hlb hlm hfm
          go_wp2_with fail
          refine (differ_any _ _ _ _ _ _ _ _ _ _ _ _ _ _ _).mono ?_
          rintro e w5 ⟨rfl, hb5⟩
          have PN := Lib.hid (P'.out.next HI.out HLT.out HMem.out ⟨h5, h6⟩ S9'.out z9 HFM.out L9.out HM2.out HG2.out hb5)
          have RN : Hid (priceGo x y (pairs.take (j + 1)) (pairs.drop (j + 1)) (z + (differP (nd x p.1).text (nd y p.2).text - 2)) = priceP x y pairs) := by
            unfold Hid; rw [← R.out, HS.out, if_pos HOK.out]
          clear hb5
          go_wp2_with fail
          go_roundw
          case rel => exact ⟨j + 1, _, by omega, by go_num, rfl, by omega, PN.out, RN⟩
          case measure => simp [intOf]; omega
    · obtain rfl : j = pairs.length := by omega
      go_wp2_with fail
      go_ret2
      have : priceP x y pairs = some z := by
        have := R.out
        rw [List.drop_length, priceGo] at this
        exact this.symm
      rw [this]
      exact ⟨rfl, P.st.below⟩
end Go.Proofs.Ytfifbadepebpeaa
