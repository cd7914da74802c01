/- The reference's byIndex. -/
import Derived.Test.YtfifbadepebpeaaBl
import Derived.Test.YtfifbadepebpeaaBc
namespace Go.Proofs.Ytfifbadepebpeaa
open Go.RowKit

def byTo (x y : List NodeP) (f : Nat) (p : Int × Int) (k : Nat) : List (Int × Int) := p :: ((((nd x p.1).kids.zip (nd y p.2).kids).take k).filter fun q => decide ((nd x q.1).kind = (nd y q.2).kind)).flatMap (foll (kpI x y) f)

theorem byTo_zero (x y : List NodeP) (f : Nat) (p : Int × Int) : byTo x y f p 0 = [p] := by simp [byTo]
theorem byTo_succ {x y : List NodeP} {f : Nat} {p : Int × Int} {k : Nat} (h1 : k < (nd x p.1).kids.length) (h2 : k < (nd y p.2).kids.length) :
    byTo x y f p (k + 1) = byTo x y f p k ++ (if (nd x (nd x p.1).kids[k]).kind = (nd y (nd y p.2).kids[k]).kind then foll (kpI x y) f ((nd x p.1).kids[k], (nd y p.2).kids[k]) else []) := by
  unfold byTo
  have hz : k < ((nd x p.1).kids.zip (nd y p.2).kids).length := by rw [List.length_zip]; omega
  rw [List.take_add_one, List.getElem?_eq_getElem hz, Option.toList_some, List.getElem_zip, List.filter_append, List.flatMap_append, List.cons_append]
  by_cases hk : (nd x (nd x p.1).kids[k]).kind = (nd y (nd y p.2).kids[k]).kind
  · rw [if_pos hk]; simp [hk]
  · rw [if_neg hk]; simp [hk]
theorem byTo_full {x y : List NodeP} {f : Nat} {p : Int × Int} {k : Nat} (h : (nd x p.1).kids.length ≤ k ∨ (nd y p.2).kids.length ≤ k) : byTo x y f p k = foll (kpI x y) (f + 1) p := by
  unfold byTo
  rw [foll, List.take_of_length_le (by rw [List.length_zip]; omega)]
  rfl
theorem sub_flat {α β : Type} {f : α → List β} {l m : List α} (h : l.Sublist m) : (l.flatMap f).length ≤ (m.flatMap f).length := by
  induction h with
  | slnil => simp
  | cons a h ih => rw [List.flatMap_cons, List.length_append]; omega
  | cons_cons a h ih => rw [List.flatMap_cons, List.flatMap_cons, List.length_append, List.length_append]; omega
theorem byTo_le {x y : List NodeP} (px : PO x) (py : PO y) {f : Nat} {p : Int × Int} (hp : InR x y p) (k : Nat) : (byTo x y f p k).length ≤ x.length := by
  have h1 := (asc_len (foll_asc (kpI_ka px.wf py.wf) px py (f + 1) p hp) (fun q hq => (foll_in (kpI_ka px.wf py.wf) px py (f + 1) p hp q hq).1)).1
  have h2 : (byTo x y f p k).length ≤ (foll (kpI x y) (f + 1) p).length := by
    rw [← byTo_full (k := (nd x p.1).kids.length) (f := f) (.inl (Nat.le_refl _))]
    unfold byTo
    rw [List.length_cons, List.length_cons]
    have hs : ((((nd x p.1).kids.zip (nd y p.2).kids).take k).filter fun q => decide ((nd x q.1).kind = (nd y q.2).kind)).Sublist ((((nd x p.1).kids.zip (nd y p.2).kids).take (nd x p.1).kids.length).filter fun q => decide ((nd x q.1).kind = (nd y q.2).kind)) := by
      refine List.Sublist.filter _ ?_
      rw [List.take_of_length_le (l := (nd x p.1).kids.zip (nd y p.2).kids) (i := (nd x p.1).kids.length) (by rw [List.length_zip]; omega)]
      exact List.take_sublist _ _
    have := sub_flat (f := foll (kpI x y) f) hs
    omega
  omega

theorem byEnd {h hj : Hp} {w w2 wr : World} {v : Value} {x y : List NodeP} {f k : Nat} {p : Int × Int} (S2 : St w.heap.size h w h w2) (S : St w2.heap.size h w2 hj wr) (O : PrOw wr hj w2.heap.size v (byTo x y f p k)) (hz : w.heap.size ≤ w2.heap.size) (px : PO x) (py : PO y) (hp : InR x y p) (sx : x.length ≤ 262144) (sy : y.length ≤ 262144) (e : byTo x y f p k = foll (kpI x y) (f + 1) p) :
    ∃ v', Ending.returned v = .returned v' ∧ ∃ h', St w.heap.size h w h' wr ∧ Prs h' v' (foll (kpI x y) (f + 1) p) := by
  have SS := S2.call S
  have hle := byTo_le px py hp (f := f) k
  refine ⟨v, rfl, _, SS.fr, ?_, fun q hq => ?_⟩
  · have := (Ow.base O (B' := w.heap.size) hz).sl (by omega)
    rw [e] at this
    exact this
  · have := (foll_in (kpI_ka px.wf py.wf) px py (f + 1) p hp q hq).1
    unfold InR at this
    unfold I64
    omega

set_option maxRecDepth 100000 in
set_option maxHeartbeats 4000000 in
theorem byIndex_any (x y : List NodeP) (px : PO x) (py : PO y) (sx : x.length ≤ 262144) (sy : y.length ≤ 262144) (m : Nat) : ∀ (h : Hp) (w : World) (_ : Imm h w) (va vb : Value) (_ : NumV h va x) (_ : NumV h vb y) (pa qa : Nat) (_ : pa < x.length) (_ : qa < y.length) (_ : x.length - pa ≤ m),
    Calls Try.prog 36 #[va, vb, .int .i64 pa, .int .i64 qa] w fun e w' => ∃ v, e = .returned v ∧ ∃ h', St w.heap.size h w h' w' ∧ Prs h' v (foll (kpI x y) m ((pa : Int), (qa : Int))) := by
  induction m with
  | zero => intro h w hi va vb ha hb pa qa hpa hqa hm; omega
  | succ f ih =>
    intro h w hi va vb ha hb pa qa hpa hqa hm
    have HA := Lib.hid ha
    have HB := Lib.hid hb
    obtain ⟨ca, rfl, ha⟩ := ha
    obtain ⟨cb, rfl, hb⟩ := hb
    have lx := px.wf.pos
    have ly := py.wf.pos
    obtain ⟨bn, on, cn, bp, op, cp, bs, os, ct, bk, ok, ck, rfl, -, OX⟩ := ha.open lx
    obtain ⟨dn, pn, en, dp, pp, ep, ds, qs, es, dk, pk, ek, rfl, -, OY⟩ := hb.open ly
    have HI := Lib.hid hi
    have PX := Lib.hid px
    have PY := Lib.hid py
    have OX := Lib.hid OX
    have OY := Lib.hid OY
    have IH := Lib.hid ih
    clear hi ha hb px py ih
    have IR : Hid (InR x y ((pa : Int), (qa : Int))) := ⟨by simp, by simp only; omega, by simp, by simp only; omega⟩
    obtain ⟨ar, cr, RX, rx⟩ := OX.out.row pa hpa
    obtain ⟨br, dr, RY, ry⟩ := OY.out.row qa hqa
    have ex : Hid (nd x (pa : Int) = x[pa]) := nd_of (List.getElem?_eq_getElem hpa)
    have ey : Hid (nd y (qa : Int) = y[qa]) := nd_of (List.getElem?_eq_getElem hqa)
    have RX := Lib.hid RX
    have RY := Lib.hid RY
    have RXW := Lib.hid rx
    have RYW := Lib.hid ry
    clear rx ry
    go_enter Try.func36, Try.ntmps36
    go_wp2_with fail
    have I2 : Hid (Imm h ((w.alloc (Obj.cells #[.slice (some ⟨bn, on, none⟩) x.length cn, .slice (some ⟨bp, op, none⟩) x.length cp, .slice (some ⟨bs, os, none⟩) x.length ct, .slice (some ⟨bk, ok, none⟩) x.length ck, .bool (!narrowB x)] 72)).alloc (Obj.cells #[.slice (some ⟨dn, pn, none⟩) y.length en, .slice (some ⟨dp, pp, none⟩) y.length ep, .slice (some ⟨ds, qs, none⟩) y.length es, .slice (some ⟨dk, pk, none⟩) y.length ek, .bool (!narrowB y)] 72))) := (HI.out.alloc _).alloc _
    have S2 := Lib.hid (((St.refl HI.out).alloc (Obj.cells #[.slice (some ⟨bn, on, none⟩) x.length cn, .slice (some ⟨bp, op, none⟩) x.length cp, .slice (some ⟨bs, os, none⟩) x.length ct, .slice (some ⟨bk, ok, none⟩) x.length ck, .bool (!narrowB x)] 72)).alloc (Obj.cells #[.slice (some ⟨dn, pn, none⟩) y.length en, .slice (some ⟨dp, pp, none⟩) y.length ep, .slice (some ⟨ds, qs, none⟩) y.length es, .slice (some ⟨dk, pk, none⟩) y.length ek, .bool (!narrowB y)] 72))
    have X2 := Lib.hid ((Has.new w #[.slice (some ⟨bn, on, none⟩) x.length cn, .slice (some ⟨bp, op, none⟩) x.length cp, .slice (some ⟨bs, os, none⟩) x.length ct, .slice (some ⟨bk, ok, none⟩) x.length ck, .bool (!narrowB x)] 72).alloc (Obj.cells #[.slice (some ⟨dn, pn, none⟩) y.length en, .slice (some ⟨dp, pp, none⟩) y.length ep, .slice (some ⟨ds, qs, none⟩) y.length es, .slice (some ⟨dk, pk, none⟩) y.length ek, .bool (!narrowB y)] 72))
    have Y2 := Lib.hid (Has.new1 w (Obj.cells #[.slice (some ⟨bn, on, none⟩) x.length cn, .slice (some ⟨bp, op, none⟩) x.length cp, .slice (some ⟨bs, os, none⟩) x.length ct, .slice (some ⟨bk, ok, none⟩) x.length ck, .bool (!narrowB x)] 72) #[.slice (some ⟨dn, pn, none⟩) y.length en, .slice (some ⟨dp, pp, none⟩) y.length ep, .slice (some ⟨ds, qs, none⟩) y.length es, .slice (some ⟨dk, pk, none⟩) y.length ek, .bool (!narrowB y)] 72)
    have Z2 : ((w.alloc (Obj.cells #[.slice (some ⟨bn, on, none⟩) x.length cn, .slice (some ⟨bp, op, none⟩) x.length cp, .slice (some ⟨bs, os, none⟩) x.length ct, .slice (some ⟨bk, ok, none⟩) x.length ck, .bool (!narrowB x)] 72)).alloc (Obj.cells #[.slice (some ⟨dn, pn, none⟩) y.length en, .slice (some ⟨dp, pp, none⟩) y.length ep, .slice (some ⟨ds, qs, none⟩) y.length es, .slice (some ⟨dk, pk, none⟩) y.length ek, .bool (!narrowB y)] 72)).heap.size = w.heap.size + 2 := by simp
    generalize hw2 : ((w.alloc (Obj.cells #[.slice (some ⟨bn, on, none⟩) x.length cn, .slice (some ⟨bp, op, none⟩) x.length cp, .slice (some ⟨bs, os, none⟩) x.length ct, .slice (some ⟨bk, ok, none⟩) x.length ck, .bool (!narrowB x)] 72)).alloc (Obj.cells #[.slice (some ⟨dn, pn, none⟩) y.length en, .slice (some ⟨dp, pp, none⟩) y.length ep, .slice (some ⟨ds, qs, none⟩) y.length es, .slice (some ⟨dk, pk, none⟩) y.length ek, .bool (!narrowB y)] 72)) = w2 at *
    have HW2 := Lib.hid hw2
    clear hw2
    have hz2 : w.heap.size + 1 < w2.heap.size := by omega
    have HZ2 := Lib.hid Z2
    clear Z2
    go_wp2_with fail
    go_loopw [9, 10, 11, 12, 17, 18, 19, 20, 21, 22, 23, 24, 25, 26, 27, 28, 29, 30, 31, 32, 33, 34, 35, 36, 37, 38, 39, 40, 41, 42, 43, 44, 45, 46, 47, 48, 49, 50, 51, 52, 53, 54, 55, 56, 57, 58, 59, 60, 61, 62, 63, 64, 65, 66, 67, 68, 69, 70, 71, 72] (fun v i _ _ _ _ _ _ _ _ _ _ _ _ _ _ _ _ _ _ _ _ _ _ _ _ _ _ _ _ _ _ _ _ _ _ _ _ _ _ _ _ _ _ _ _ _ _ _ _ _ _ _ _ _ _ _ _ _ _ wr => ∃ (k : Nat) (hj : Hp), k ≤ x[pa].kids.length ∧ k ≤ y[qa].kids.length ∧ i = .int .i64 k ∧ St w2.heap.size h w2 hj wr ∧ PrOw wr hj w2.heap.size v (byTo x y f ((pa : Int), (qa : Int)) k)) (fun _ i _ _ _ _ _ _ _ _ _ _ _ _ _ _ _ _ _ _ _ _ _ _ _ _ _ _ _ _ _ _ _ _ _ _ _ _ _ _ _ _ _ _ _ _ _ _ _ _ _ _ _ _ _ _ _ _ _ _ _ => x[pa].kids.length - (intOf i).toNat)
    case atStart =>
      refine ⟨0, h, Nat.zero_le _, Nat.zero_le _, rfl, (St.refl I2.out).alloc _, ?_⟩
      rw [byTo_zero, show w.heap.size + 1 + 1 = w2.heap.size by rw [HZ2.out]]
      exact own_lit (w := w2) I2.out (Nat.le_refl _) [.int .i64 (pa : Int), .int .i64 (qa : Int)] 1 2 52 (by simp [maxLen]) rfl
    case round =>
      obtain ⟨k, hj, hk1, hk2, rfl, S, O⟩ := hrel
      have S' := Lib.hid S
      have O' := Lib.hid O
      obtain ⟨am, cm, rfl⟩ := Ow.shape O
      have c3 : wr.cell? ⟨w.heap.size, 3, none⟩ = some (.slice (some ⟨bk, ok, none⟩) x.length ck) := (X2.out.below S.below).cl 3
      have e3 : wr.cell? ⟨w.heap.size + 1, 3, none⟩ = some (.slice (some ⟨dk, pk, none⟩) y.length ek) := (Y2.out.below S.below).cl 3
      have c0 : wr.cell? ⟨w.heap.size, 0, none⟩ = some (.slice (some ⟨bn, on, none⟩) x.length cn) := (X2.out.below S.below).cl 0
      have e0 : wr.cell? ⟨w.heap.size + 1, 0, none⟩ = some (.slice (some ⟨dn, pn, none⟩) y.length en) := (Y2.out.below S.below).cl 0
      have r1 := RXW.out wr S.imm0
      have r2 := RYW.out wr S.imm0
      have v1 : (0 : Int) ≤ (pa : Int) := by omega
      have v2 : (pa : Int) < (x.length : Int) := by omega
      have v3 : (0 : Int) ≤ (qa : Int) := by omega
      have v4 : (qa : Int) < (y.length : Int) := by omega
      have zr : w.heap.size < wr.heap.size := by have := S.below.size; omega
      have zr2 : w.heap.size + 1 < wr.heap.size := by have := S.below.size; omega
      clear S O
      by_cases h1 : k < x[pa].kids.length
      · have g1 : decide (k < x[pa].kids.length) = true := by simpa using h1
        by_cases h2 : k < y[qa].kids.length
        · have g2 : decide (k < y[qa].kids.length) = true := by simpa using h2
          have K1 : Hid (k + 1 ≤ x[pa].kids.length) := h1
          have K2 : Hid (k + 1 ≤ y[qa].kids.length) := h2
          have hkb : k < 262144 := by
            have := kids_len PX.out.wf (i := (pa : Int)) (by omega) (by omega)
            rw [ex.out] at this
            omega
          obtain ⟨b1, o1, cc1, q1, -, hx1⟩ := RX.out.openI (by omega)
          simp only [Value.slice.injEq, true_and] at q1
          obtain ⟨rfl, rfl⟩ := q1
          obtain ⟨b2, o2, cc2, q2, -, hy1⟩ := RY.out.openI (by omega)
          simp only [Value.slice.injEq, true_and] at q2
          obtain ⟨rfl, rfl⟩ := q2
          have kx := (hx1 wr S'.out.imm0).2 k h1
          have ky := (hy1 wr S'.out.imm0).2 k h2
          have hcx : x[pa].kids[k] ∈ (nd x (pa : Int)).kids := by rw [ex.out]; exact List.getElem_mem h1
          have hcy : y[qa].kids[k] ∈ (nd y (qa : Int)).kids := by rw [ey.out]; exact List.getElem_mem h2
          have kix := kid_inr PX.out.wf (i := (pa : Int)) (by omega) (by omega) hcx
          have kiy := kid_inr PY.out.wf (i := (qa : Int)) (by omega) (by omega) hcy
          have BS0 := byTo_succ (x := x) (y := y) (f := f) (p := ((pa : Int), (qa : Int))) (k := k) (by simp only; rw [ex.out]; exact h1) (by simp only; rw [ey.out]; exact h2)
          have BL := byTo_le PX.out PY.out IR.out (f := f) (k + 1)
          have BS : Hid (byTo x y f ((pa : Int), (qa : Int)) (k + 1) = byTo x y f ((pa : Int), (qa : Int)) k ++ (if (nd x x[pa].kids[k]).kind = (nd y y[qa].kids[k]).kind then foll (kpI x y) f (x[pa].kids[k], y[qa].kids[k]) else [])) := by
            unfold Hid
            rw [BS0]
            simp only [ex.out, ey.out]
            try rfl
          clear BS0
          clear hcx hcy hx1 hy1
          generalize x[pa].kids[k] = zc at *
          generalize y[qa].kids[k] = zd at *
          obtain ⟨ia, rfl⟩ : ∃ ia : Nat, zc = (ia : Int) := ⟨zc.toNat, by omega⟩
          obtain ⟨ib, rfl⟩ : ∃ ib : Nat, zd = (ib : Int) := ⟨zd.toNat, by omega⟩
          have hia : ia < x.length := by omega
          have hib : ib < y.length := by omega
          obtain ⟨xk, -⟩ := (OX.out.at_ wr S'.out.imm0).2 ia hia
          obtain ⟨yk, -⟩ := (OY.out.at_ wr S'.out.imm0).2 ib hib
          have exi : nd x (ia : Int) = x[ia] := nd_of (List.getElem?_eq_getElem hia)
          have eyi : nd y (ib : Int) = y[ib] := nd_of (List.getElem?_eq_getElem hib)
          rw [exi, eyi] at BS
          clear exi eyi
          have u1 : (0 : Int) ≤ (k : Int) := by omega
          have u2 : (k : Int) < (x[pa].kids.length : Int) := by omega
          have u3 : (k : Int) < (y[qa].kids.length : Int) := by omega
          have t1 : (0 : Int) ≤ (ia : Int) := by omega
          have t2 : (ia : Int) < (x.length : Int) := by omega
          have t3 : (0 : Int) ≤ (ib : Int) := by omega
          have t4 : (ib : Int) < (y.length : Int) := by omega
          have hfu : x.length - ia ≤ f := by omega
          have NHA := Lib.hid (HA.out.mono S'.out.le)
          have NHB := Lib.hid (HB.out.mono S'.out.le)
          have c1 : wr.cell? ⟨w.heap.size, 1, none⟩ = some (.slice (some ⟨bp, op, none⟩) x.length cp) := (X2.out.below S'.out.below).cl 1
          have c2 : wr.cell? ⟨w.heap.size, 2, none⟩ = some (.slice (some ⟨bs, os, none⟩) x.length ct) := (X2.out.below S'.out.below).cl 2
          have c4 : wr.cell? ⟨w.heap.size, 4, none⟩ = some (.bool (!narrowB x)) := (X2.out.below S'.out.below).cl 4
          have e1 : wr.cell? ⟨w.heap.size + 1, 1, none⟩ = some (.slice (some ⟨dp, pp, none⟩) y.length ep) := (Y2.out.below S'.out.below).cl 1
          have e2 : wr.cell? ⟨w.heap.size + 1, 2, none⟩ = some (.slice (some ⟨ds, qs, none⟩) y.length es) := (Y2.out.below S'.out.below).cl 2
          have e4 : wr.cell? ⟨w.heap.size + 1, 4, none⟩ = some (.bool (!narrowB y)) := (Y2.out.below S'.out.below).cl 4
          by_cases hkk : x[ia].kind = y[ib].kind
          · have g3 : (x[ia].kind == y[ib].kind) = true := ibeqT hkk
            rw [if_pos hkk] at BS
            rw [BS.out, List.length_append] at BL
            have S'' : Hid (∀ n, St w2.heap.size h w2 hj (wr.drewN n)) := fun n => S'.out.drewN n
            have O'' : Hid (∀ n, PrOw (wr.drewN n) hj w2.heap.size (.slice am (byTo x y f ((pa : Int), (qa : Int)) k).length cm) (byTo x y f ((pa : Int), (qa : Int)) k)) := fun n => Ow.drewN O'.out n
            clear hkk
            go_wp2_with fail
            go_quiet (fail)
            go_wp2_with fail
            go_quiet (fail)
            go_wp2_with fail
            refine (IH.out hj _ ((S'.out.drewN _).imm) _ _ NHA.out NHB.out ia ib hia hib hfu).mono ?_
            rintro e w5 ⟨v5, rfl, h5, S5, P5⟩
            have SN := Lib.hid ((S'.out.drewN _).call S5)
            have ON := Lib.hid (Ow.call (Ow.drewN O'.out _) S5)
            have P5' := Lib.hid P5
            have HBN : Hid (((byTo x y f ((pa : Int), (qa : Int)) k).length + (foll (kpI x y) f ((ia : Int), (ib : Int))).length) * 16 ≤ 140737488355328) := by unfold Hid; omega
            have HO : Hid (∀ u ∈ (foll (kpI x y) f ((ia : Int), (ib : Int))).flatMap encP, u.oneCell' = true) := fun u hu => by
              obtain ⟨q, _, hq⟩ := List.mem_flatMap.1 hu
              simp only [encP, List.mem_cons, List.not_mem_nil, or_false] at hq
              rcases hq with rfl | rfl <;> rfl
            clear S5 P5
            go_wp2_with (at_builtin; (refine wpList_appS el_pairs rfl (.tmp 66) (.tmp 71) rfl SN.out (.slice am (byTo x y f ((pa : Int), (qa : Int)) k).length cm) (byTo x y f ((pa : Int), (qa : Int)) k).length ((byTo x y f ((pa : Int), (qa : Int)) k).flatMap encP) rfl ON.out v5 (foll (kpI x y) f ((ia : Int), (ib : Int))).length ((foll (kpI x y) f ((ia : Int), (ib : Int))).flatMap encP) rfl P5'.out.1 HO.out HBN.out ?_); intro v6 w6 st6 own6 gr6 bk6)
            go_roundw
            case rel =>
              refine ⟨k + 1, h5, K1.out, K2.out, by go_num, st6, ?_⟩
              rw [BS.out]
              unfold PrOw
              rw [List.length_append, List.flatMap_append]
              exact own6
            case measure => have := K1.out; simp [intOf]; omega
          · have g3 : (x[ia].kind == y[ib].kind) = false := ibeqF hkk
            rw [if_neg hkk, List.append_nil] at BS
            clear hkk
            go_wp2_with fail
            go_quiet (fail)
            go_wp2_with fail
            go_quiet (fail)
            go_wp2_with fail
            go_roundw
            case rel => exact ⟨k + 1, hj, K1.out, K2.out, by go_num, S'.out.drewN _, by rw [BS.out]; exact Ow.drewN O'.out _⟩
            case measure => have := K1.out; simp [intOf]; omega
        · have g2 : decide (k < y[qa].kids.length) = false := by simpa using h2
          have FN := Lib.hid (byEnd S2.out S'.out O'.out (by omega) PX.out PY.out IR.out sx sy (byTo_full (.inr (by simp only; rw [ey.out]; omega))))
          go_wp2_with fail
          go_ret
          exact FN.out
      · have g1 : decide (k < x[pa].kids.length) = false := by simpa using h1
        have FN := Lib.hid (byEnd S2.out S'.out O'.out (by omega) PX.out PY.out IR.out sx sy (byTo_full (.inl (by simp only; rw [ex.out]; omega))))
        go_wp2_with fail
        go_ret
        exact FN.out
end Go.Proofs.Ytfifbadepebpeaa
