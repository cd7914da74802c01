/- The reference's follow. -/
import Derived.Test.YtfifbadepebpeaaAn
import Derived.Test.YtfifbadepebpeaaRw
namespace Go.Proofs.Ytfifbadepebpeaa
open Go.RowKit

def foTo (x y : List NodeP) (es : List CompP) (f : Nat) (p : Int × Int) (k : Nat) : List (Int × Int) := p :: ((pent es p).kids.pairs.take k).flatMap fun z => foll (kpL x y es) f (kidsAt x y p z)
theorem foTo_zero (x y : List NodeP) (es : List CompP) (f : Nat) (p : Int × Int) : foTo x y es f p 0 = [p] := by simp [foTo]
theorem foTo_succ {x y : List NodeP} {es : List CompP} {f : Nat} {p : Int × Int} {k : Nat} (h : k < (pent es p).kids.pairs.length) : foTo x y es f p (k + 1) = foTo x y es f p k ++ foll (kpL x y es) f (kidsAt x y p (pent es p).kids.pairs[k]) := by
  unfold foTo
  rw [List.take_add_one, List.getElem?_eq_getElem h, Option.toList_some, List.flatMap_append, List.cons_append]
  simp
theorem foTo_full {x y : List NodeP} {es : List CompP} {f : Nat} {p : Int × Int} : foTo x y es f p (pent es p).kids.pairs.length = foll (kpL x y es) (f + 1) p := by
  unfold foTo
  rw [foll, List.take_length]
  unfold kpL
  rw [List.flatMap_map]
theorem foTo_le {x y : List NodeP} {es : List CompP} (K : KA x y (kpL x y es)) (px : PO x) (py : PO y) {f : Nat} {p : Int × Int} (hp : InR x y p) (k : Nat) : (foTo x y es f p k).length ≤ x.length := by
  have h1 := (asc_len (foll_asc K px py (f + 1) p hp) (fun q hq => (foll_in K px py (f + 1) p hp q hq).1)).1
  have h2 : (foTo x y es f p k).length ≤ (foll (kpL x y es) (f + 1) p).length := by
    rw [← foTo_full]
    unfold foTo
    rw [List.length_cons, List.length_cons, List.take_length]
    have := sub_flat (f := fun z => foll (kpL x y es) f (kidsAt x y p z)) (List.take_sublist k (pent es p).kids.pairs)
    omega
  omega
theorem pent_keys {es : List CompP} (hn : (keys es).Nodup) (k : Nat) (hk : k < es.length) : pent es (es[k].a, es[k].b) = es[k] := by
  induction es generalizing k with
  | nil => simp at hk
  | cons e es ih =>
    have hn' : (e.a, e.b) ∉ keys es ∧ (keys es).Nodup := by simpa [keys] using hn
    cases k with
    | zero => simp only [List.getElem_cons_zero]; rw [pent_cons, if_pos rfl]
    | succ k =>
      simp only [List.getElem_cons_succ]
      have hk' : k < es.length := by simpa using hk
      rw [pent_cons, if_neg, ih hn'.2 k hk']
      intro e2
      apply hn'.1
      rw [← e2, ← keys_at es k hk']
      exact List.getElem_mem _

theorem Cmps.row {h : Hp} {b off cap : Nat} {l : List CompP} (hv : Cmps h (.slice (some ⟨b, off, none⟩) l.length cap) l) (K : Nat) (hK : K < l.length) : ∃ ap cp ar cr, (∀ W, Imm h W → b < W.heap.size ∧ W.cell? ⟨b, off + K * 6, none⟩ = some (.int .i64 l[K].a) ∧ W.cell? ⟨b, off + K * 6 + 1, none⟩ = some (.int .i64 l[K].b) ∧ W.cell? ⟨b, off + K * 6 + 2, none⟩ = some (.int .i64 l[K].cost) ∧
    W.cell? ⟨b, off + K * 6 + 3, none⟩ = some (.slice ap l[K].kids.pairs.length cp) ∧ W.cell? ⟨b, off + K * 6 + 4, none⟩ = some (.int .i64 l[K].kids.cost) ∧ W.cell? ⟨b, off + K * 6 + 5, none⟩ = some (.slice ar l[K].kids.pot.length cr)) ∧ Prs h (.slice ap l[K].kids.pairs.length cp) l[K].kids.pairs ∧ Rws h (.slice ar l[K].kids.pot.length cr) l[K].kids.pot := by
  obtain ⟨cs, s, e⟩ := hv
  obtain ⟨b', off', e0, hw⟩ := s.addr (by omega)
  simp only [Option.some.injEq, Addr.mk.injEq, and_true] at e0
  obtain ⟨rfl, rfl⟩ := e0
  obtain ⟨c5, h1, h2⟩ := e.at 6 EncComp.len K hK
  obtain ⟨r, rfl, i1, i2, i3, ap, cp, ar, cr, rfl, i4, h3, h4⟩ := h1
  refine ⟨ap, cp, ar, cr, fun W hW => ⟨(hw W hW).1, ?_, ?_, ?_, ?_, ?_, ?_⟩, h3, h4⟩
  · exact (hw W hW).2 _ _ (h2 0 (by omega))
  · rw [Nat.add_assoc]; exact (hw W hW).2 _ _ (h2 1 (by omega))
  · rw [Nat.add_assoc]; exact (hw W hW).2 _ _ (h2 2 (by omega))
  · rw [Nat.add_assoc]; exact (hw W hW).2 _ _ (h2 3 (by omega))
  · rw [Nat.add_assoc]; exact (hw W hW).2 _ _ (h2 4 (by omega))
  · rw [Nat.add_assoc]; exact (hw W hW).2 _ _ (h2 5 (by omega))

structure FolOk (x y : List NodeP) (es : List CompP) : Prop where
  ka : KA x y (kpL x y es)
  srt : (keys es).Pairwise ltP
  len : es.length ≤ 1000000
  ok : ∀ p ∈ keys es, InR x y p ∧ ∀ z ∈ (pent es p).kids.pairs, 0 ≤ z.1 ∧ z.1 < (nd x p.1).kids.length ∧ 0 ≤ z.2 ∧ z.2 < (nd y p.2).kids.length ∧ kidsAt x y p z ∈ keys es

set_option maxRecDepth 100000 in
set_option maxHeartbeats 4000000 in
theorem follow_own (x y : List NodeP) (px : PO x) (py : PO y) (sx : x.length ≤ 1000) (sy : y.length ≤ 1000) (es : List CompP) (ok : FolOk x y es) (bt bl ol cl : Nat) (m : Nat) : ∀ (h : Hp) (w : World) (_ : Imm h w) (_ : Tab h bt x y (.slice (some ⟨bl, ol, none⟩) es.length cl)) (_ : Cmps h (.slice (some ⟨bl, ol, none⟩) es.length cl) es) (pa qa : Nat) (_ : ((pa : Int), (qa : Int)) ∈ keys es) (_ : x.length - pa ≤ m),
    Calls Try.prog 41 #[.pointer (some ⟨bt, 0, none⟩), .slice (some ⟨bl, ol, none⟩) es.length cl, .int .i64 pa, .int .i64 qa] w fun e w' => ∃ v, e = .returned v ∧ ∃ h', St w.heap.size h w h' w' ∧ Prs h' v (foll (kpL x y es) m ((pa : Int), (qa : Int))) ∧ ∀ g, v.ownBlock = some g → w.heap.size ≤ g := by
  induction m with
  | zero => intro h w hi t hes pa qa hk hm; have := (ok.ok _ hk).1.2.1; simp only at this; omega
  | succ f ih =>
    intro h w hi t hes pa qa hk hm
    have lx := px.wf.pos
    have ly := py.wf.pos
    have IR : Hid (InR x y ((pa : Int), (qa : Int))) := (ok.ok _ hk).1
    have hpa : pa < x.length := by have := IR.out.2.1; simp only at this; omega
    have hqa : qa < y.length := by have := IR.out.2.2.2; simp only at this; omega
    have OKP := Lib.hid (ok.ok _ hk).2
    have T0 := Lib.hid t
    have C0 := Lib.hid hes
    obtain ⟨bn, on, cn, bp, op, cp, bs, os, ct, bk, ok', ck, dn, pn, en, dp, pp, ep, ds, qs, es', dk, pk, ek, ⟨l1, l2⟩, OX0, OY0, hc⟩ := t.open lx ly
    have HI := Lib.hid hi
    have PX := Lib.hid px
    have PY := Lib.hid py
    have OK := Lib.hid ok
    have OX := Lib.hid OX0
    have OY := Lib.hid OY0
    have RD := Lib.hid hc
    have IH := Lib.hid ih
    have hel := ok.len
    have HN : Hid (keys es).Nodup := ok.srt.imp fun {a b} hab e => by subst e; exact ltP_irrefl _ hab
    obtain ⟨K, hK, eK⟩ := List.mem_iff_getElem.1 hk
    have hKe : K < es.length := by rw [keys_len] at hK; exact hK
    have HIX : Hid (idxP (keys es) ((pa : Int), (qa : Int)) = (K : Int)) := by unfold Hid; rw [← eK]; exact idxP_at HN.out K hK
    have HPE : Hid (pent es ((pa : Int), (qa : Int)) = es[K]) := by unfold Hid; rw [← eK, keys_at es K hKe]; exact pent_keys HN.out K hKe
    obtain ⟨a', c', ee, -, hesc⟩ := hes.open
    simp only [Value.slice.injEq, true_and] at ee
    obtain ⟨rfl, rfl⟩ := ee
    have FA : Hid (∀ W, Imm h W → Calls Try.prog 59 #[.slice (some ⟨bl, ol, none⟩) es.length cl, .int .i64 (pa : Int), .int .i64 (qa : Int)] W fun e w' => e = .returned (.int .i64 (K : Int)) ∧ W = w') := fun W hW => by
      have := find_any W (keys es) bl ol cl ((pa : Int), (qa : Int)) (by rw [keys_len]; omega) OK.out.srt (fun k hk => by
        rw [keys_len] at hk
        rw [keys_at es k hk]
        obtain ⟨b, off, ap, cp, ar, cr, e, h1, h2, h3, h4, _⟩ := hesc W hW k hk
        simp only [Option.some.injEq, Addr.mk.injEq, and_true] at e
        obtain ⟨rfl, rfl⟩ := e
        exact ⟨h2, h3⟩)
      rw [keys_len, HIX.out] at this
      exact this
    obtain ⟨ap, cap, ar0, cr0, hrow, PP, -⟩ := hes.row K hKe
    have EP : Hid (∀ W, Imm h W → bl < W.heap.size ∧ W.cell? ⟨bl, ol + K * 6 + 3, none⟩ = some (.slice ap es[K].kids.pairs.length cap)) := fun W hW => ⟨(hrow W hW).1, (hrow W hW).2.2.2.2.1⟩
    have FT0 : Hid (foTo x y es f ((pa : Int), (qa : Int)) 0 = [((pa : Int), (qa : Int))]) := foTo_zero _ _ _ _ _
    have FTS : Hid (∀ k (hk : k < es[K].kids.pairs.length), foTo x y es f ((pa : Int), (qa : Int)) (k + 1) = foTo x y es f ((pa : Int), (qa : Int)) k ++ foll (kpL x y es) f (kidsAt x y ((pa : Int), (qa : Int)) es[K].kids.pairs[k])) := fun k hk => by
      have := foTo_succ (x := x) (y := y) (f := f) (p := ((pa : Int), (qa : Int))) (es := es) (k := k) (by rw [HPE.out]; exact hk)
      simp only [HPE.out] at this
      exact this
    have FTF : Hid (foTo x y es f ((pa : Int), (qa : Int)) es[K].kids.pairs.length = foll (kpL x y es) (f + 1) ((pa : Int), (qa : Int))) := by
      unfold Hid
      have := foTo_full (x := x) (y := y) (es := es) (f := f) (p := ((pa : Int), (qa : Int)))
      rw [HPE.out] at this
      exact this
    have FTL : Hid (∀ k, (foTo x y es f ((pa : Int), (qa : Int)) k).length ≤ x.length) := fun k => foTo_le OK.out.ka PX.out PY.out IR.out k
    rw [HPE.out] at OKP
    obtain ⟨ap2, cap2, ee, hpl, hpc⟩ := PP.open
    simp only [Value.slice.injEq, true_and] at ee
    obtain ⟨rfl, rfl⟩ := ee
    have PW := Lib.hid hpc
    obtain ⟨arx, crx, RX, rx⟩ := OX.out.rowN hpa
    obtain ⟨ary, cry, RY, ry⟩ := OY.out.rowN hqa
    have RX := Lib.hid RX
    have RY := Lib.hid RY
    have RXW := Lib.hid rx
    have RYW := Lib.hid ry
    have KX := Lib.hid (kids_len px.wf (i := (pa : Int)) (by omega) (by omega))
    have KY := Lib.hid (kids_len py.wf (i := (qa : Int)) (by omega) (by omega))
    have v1 : (0 : Int) ≤ (pa : Int) := by omega
    have v2 : (pa : Int) < (x.length : Int) := by omega
    have v3 : (0 : Int) ≤ (qa : Int) := by omega
    have v4 : (qa : Int) < (y.length : Int) := by omega
    have v5 : (0 : Int) ≤ (K : Int) := by omega
    have v6 : (K : Int) < (es.length : Int) := by omega
    clear hi t hes px py ok OX0 OY0 hc ih hk eK hesc hrow PP hpc rx ry HPE HIX
    generalize es[K].kids.pairs = prs at *
    generalize foTo x y es f ((pa : Int), (qa : Int)) = FT at *
    go_enter Try.func41, Try.ntmps41
    go_wp2_with fail
    refine (FA.out _ (HI.out.alloc _)).mono ?_
    rintro e w' ⟨rfl, rfl⟩
    have O1 : Hid (PrOw (w.alloc (Obj.cells #[.int .i64 pa, .int .i64 qa] 52)) h w.heap.size (.slice (some ⟨w.heap.size, 0, none⟩) 1 1) (FT 0)) := by
      unfold Hid
      rw [FT0.out]
      exact own_lit (w := w) HI.out (Nat.le_refl _) [.int .i64 (pa : Int), .int .i64 (qa : Int)] 1 2 52 (by simp [maxLen]) rfl
    have S1 : Hid (St w.heap.size h w h (w.alloc (Obj.cells #[.int .i64 pa, .int .i64 qa] 52))) := (St.refl HI.out).alloc _
    go_wp2_with fail
    go_loopw [9, 11, 12, 21, 22, 23, 24, 25, 26, 27, 28, 29, 30, 31, 32, 33, 34, 35, 36, 37, 38, 39, 40, 41, 42, 43, 44, 45, 46, 47, 48, 49, 50, 51, 52, 53, 54, 55, 56, 57, 58, 59, 60, 61, 62, 63, 64, 65, 66, 67, 68, 69] (fun v i _ _ _ _ _ _ _ _ _ _ _ _ _ _ _ _ _ _ _ _ _ _ _ _ _ _ _ _ _ _ _ _ _ _ _ _ _ _ _ _ _ _ _ _ _ _ _ _ _ _ wr => ∃ (k : Nat) (hj : Hp), k ≤ prs.length ∧ i = .int .i64 k ∧ St w.heap.size h w hj wr ∧ PrOw wr hj w.heap.size v (FT k)) (fun _ i _ _ _ _ _ _ _ _ _ _ _ _ _ _ _ _ _ _ _ _ _ _ _ _ _ _ _ _ _ _ _ _ _ _ _ _ _ _ _ _ _ _ _ _ _ _ _ _ _ _ _ => prs.length - (intOf i).toNat)
    case atStart => exact ⟨0, h, Nat.zero_le _, rfl, S1.out, O1.out⟩
    case round =>
      obtain ⟨k, hj, hkl, rfl, S, O⟩ := hrel
      obtain ⟨am, cm, rfl⟩ := Ow.shape O
      have S' := Lib.hid S
      have O' := Lib.hid O
      have IR0 := Lib.hid S.imm0
      obtain ⟨zb, c3⟩ := EP.out wr IR0.out
      clear S O O1 S1
      by_cases hlt : k < prs.length
      · obtain ⟨b3, o3, rfl, hb3, hc3⟩ := PW.out wr IR0.out (by omega)
        obtain ⟨z0, z1⟩ := hc3 k hlt
        have OKZ := Lib.hid (OKP.out _ (List.getElem_mem hlt))
        have FS := Lib.hid (FTS.out k hlt)
        have FL := FTL.out (k + 1)
        generalize prs[k] = z at *
        obtain ⟨y1, y2, y3, y4, y5⟩ := OKZ.out
        obtain ⟨za, zc⟩ := z
        simp only at z0 z1 y1 y2 y3 y4
        obtain ⟨A, rfl⟩ : ∃ A : Nat, za = (A : Int) := ⟨za.toNat, by omega⟩
        obtain ⟨B, rfl⟩ : ∃ B : Nat, zc = (B : Int) := ⟨zc.toNat, by omega⟩
        have hA : A < (nd x (pa : Int)).kids.length := by omega
        have hB : B < (nd y (qa : Int)).kids.length := by omega
        have hKA : kidsAt x y ((pa : Int), (qa : Int)) ((A : Int), (B : Int)) = ((nd x (pa : Int)).kids[A], (nd y (qa : Int)).kids[B]) := by
          unfold kidsAt
          simp only [Int.toNat_natCast]
          rw [getD_of_lt _ _ _ hA, getD_of_lt _ _ _ hB]
        rw [hKA] at y5 FS
        have KMX := Lib.hid (List.getElem_mem hA)
        have KMY := Lib.hid (List.getElem_mem hB)
        obtain ⟨b4, o4, c4, q4, -, hx1⟩ := RX.out.openI' (by omega)
        simp only [Value.slice.injEq, true_and] at q4
        obtain ⟨rfl, rfl⟩ := q4
        obtain ⟨b5, o5, c5, q5, -, hy1⟩ := RY.out.openI' (by omega)
        simp only [Value.slice.injEq, true_and] at q5
        obtain ⟨rfl, rfl⟩ := q5
        have HX1 : Hid (∀ W, Imm h W → b4 < W.heap.size ∧ W.cell? ⟨b4, o4 + A, none⟩ = some (.int .i64 (nd x (pa : Int)).kids[A])) := fun W hW => ⟨(hx1 W hW).1, (hx1 W hW).2 A hA⟩
        have HY1 : Hid (∀ W, Imm h W → b5 < W.heap.size ∧ W.cell? ⟨b5, o5 + B, none⟩ = some (.int .i64 (nd y (qa : Int)).kids[B])) := fun W hW => ⟨(hy1 W hW).1, (hy1 W hW).2 B hB⟩
        generalize (nd x (pa : Int)).kids[A] = ka at *
        generalize (nd y (qa : Int)).kids[B] = kb at *
        obtain ⟨r1, r2, r3, -⟩ := kid_inr PX.out.wf (i := (pa : Int)) (by omega) (by omega) KMX.out
        obtain ⟨s1, s2, s3, -⟩ := kid_inr PY.out.wf (i := (qa : Int)) (by omega) (by omega) KMY.out
        obtain ⟨P, rfl⟩ : ∃ P : Nat, ka = (P : Int) := ⟨ka.toNat, by omega⟩
        obtain ⟨Q, rfl⟩ : ∃ Q : Nat, kb = (Q : Int) := ⟨kb.toNat, by omega⟩
        have HKY := Lib.hid y5
        have hfu : x.length - P ≤ f := by omega
        have u0 : (0 : Int) ≤ (k : Int) := by omega
        have u1 : (k : Int) < (prs.length : Int) := by omega
        clear hx1 hy1 hc3 hKA OKZ y5 KMX KMY
        go_upto_region 7 with fail
        have ia : Hid (Imm h (wr.alloc (Obj.cells #[.int .i64 (A : Int), .int .i64 (B : Int)] 52))) := IR0.out.alloc _
        have SA := Lib.hid (S'.out.alloc (Obj.cells #[.int .i64 (A : Int), .int .i64 (B : Int)] 52))
        have OA := Lib.hid (Ow.alloc O'.out (Obj.cells #[.int .i64 (A : Int), .int .i64 (B : Int)] 52))
        have HA := Lib.hid (Has.new wr #[.int .i64 (A : Int), .int .i64 (B : Int)] 52)
        clear z0 z1 hb3 zb c3
        have zw : wr.heap.size < (wr.alloc (Obj.cells #[.int .i64 (A : Int), .int .i64 (B : Int)] 52)).heap.size := by simp
        generalize wr.alloc (Obj.cells #[.int .i64 (A : Int), .int .i64 (B : Int)] 52) = W2 at *
        have x0 : W2.cell? ⟨wr.heap.size, 0, none⟩ = some (.int .i64 (A : Int)) := HA.out.cl 0
        have x1 : W2.cell? ⟨wr.heap.size, 1, none⟩ = some (.int .i64 (B : Int)) := HA.out.cl 1
        obtain ⟨zt, ⟨-, -, -, t3⟩, ⟨-, -, -, t8⟩, -⟩ := RD.out W2 ia.out
        obtain ⟨zp, kp⟩ := HX1.out W2 ia.out
        obtain ⟨zq, kq⟩ := HY1.out W2 ia.out
        have cx := RXW.out W2 ia.out
        have cy := RYW.out W2 ia.out
        have zk := (OX.out.at_ W2 ia.out).1.2.2.2
        have zl := (OY.out.at_ W2 ia.out).1.2.2.2
        have w1' : (0 : Int) ≤ (A : Int) := by omega
        have w2' : (A : Int) < ((nd x (pa : Int)).kids.length : Int) := by omega
        have w3' : (0 : Int) ≤ (B : Int) := by omega
        have w4' : (B : Int) < ((nd y (qa : Int)).kids.length : Int) := by omega
        rw [FS.out, List.length_append] at FL
        have HBN : Hid (((FT k).length + (foll (kpL x y es) f ((P : Int), (Q : Int))).length) * 16 ≤ 140737488355328) := by unfold Hid; omega
        have HPOS : Hid (0 < (foll (kpL x y es) f ((P : Int), (Q : Int))).length) := by
          obtain ⟨f', rfl⟩ : ∃ f', f = f' + 1 := ⟨f - 1, by omega⟩
          unfold Hid
          rw [foll]
          simp
        have HO : Hid (∀ u ∈ (foll (kpL x y es) f ((P : Int), (Q : Int))).flatMap encP, u.oneCell' = true) := fun u hu => by
          obtain ⟨q, _, hq⟩ := List.mem_flatMap.1 hu
          simp only [encP, List.mem_cons, List.not_mem_nil, or_false] at hq
          rcases hq with rfl | rfl <;> rfl
        have GEN : Hid (∀ W, Imm h W → W.cell? ⟨wr.heap.size, 0, none⟩ = some (.int .i64 (A : Int)) → W.cell? ⟨wr.heap.size, 1, none⟩ = some (.int .i64 (B : Int)) → W.cell? ⟨wr.heap.size, 0, none⟩ = some (.int .i64 (A : Int)) ∧ W.cell? ⟨wr.heap.size, 1, none⟩ = some (.int .i64 (B : Int)) ∧ W.cell? ⟨bt, 3, none⟩ = some (.slice (some ⟨bk, ok', none⟩) x.length ck) ∧ W.cell? ⟨bt, 8, none⟩ = some (.slice (some ⟨dk, pk, none⟩) y.length ek) ∧ W.cell? ⟨bk, ok' + pa, none⟩ = some (.slice (some ⟨b4, o4, none⟩) (nd x (pa : Int)).kids.length crx) ∧ W.cell? ⟨dk, pk + qa, none⟩ = some (.slice (some ⟨b5, o5, none⟩) (nd y (qa : Int)).kids.length cry) ∧ W.cell? ⟨b4, o4 + A, none⟩ = some (.int .i64 (P : Int)) ∧ W.cell? ⟨b5, o5 + B, none⟩ = some (.int .i64 (Q : Int))) := fun W hW e1 e2 => by
          obtain ⟨-, ⟨-, -, -, t3⟩, ⟨-, -, -, t8⟩, -⟩ := RD.out W hW
          exact ⟨e1, e2, t3, t8, RXW.out W hW, RYW.out W hW, (HX1.out W hW).2, (HY1.out W hW).2⟩
        have hgm : Hid (∀ g, (Value.slice am (FT k).length cm).ownBlock = some g → g < wr.heap.size) := fun g hg => (Ow.lt O'.out g hg).2
        have HIH : Hid (∀ n, Calls Try.prog 41 #[.pointer (some ⟨bt, 0, none⟩), .slice (some ⟨bl, ol, none⟩) es.length cl, .int .i64 (P : Int), .int .i64 (Q : Int)] (W2.drewN n) fun e w' => ∃ b6 o6 c6 : Nat, e = .returned (.slice (some ⟨b6, o6, none⟩) (foll (kpL x y es) f ((P : Int), (Q : Int))).length c6) ∧ ∃ h5, St w.heap.size h w h5 w' ∧ PrOw w' h5 w.heap.size (.slice am (FT k).length cm) (FT k) ∧ (∀ j u, ((foll (kpL x y es) f ((P : Int), (Q : Int))).flatMap encP)[j]? = some u → w'.cell? ((⟨b6, o6, none⟩ : Addr).add j) = some u) ∧ (w'.cell? ⟨wr.heap.size, 0, none⟩ = some (.int .i64 (A : Int)) ∧ w'.cell? ⟨wr.heap.size, 1, none⟩ = some (.int .i64 (B : Int)) ∧ w'.cell? ⟨bt, 3, none⟩ = some (.slice (some ⟨bk, ok', none⟩) x.length ck) ∧ w'.cell? ⟨bt, 8, none⟩ = some (.slice (some ⟨dk, pk, none⟩) y.length ek) ∧ w'.cell? ⟨bk, ok' + pa, none⟩ = some (.slice (some ⟨b4, o4, none⟩) (nd x (pa : Int)).kids.length crx) ∧ w'.cell? ⟨dk, pk + qa, none⟩ = some (.slice (some ⟨b5, o5, none⟩) (nd y (qa : Int)).kids.length cry) ∧ w'.cell? ⟨b4, o4 + A, none⟩ = some (.int .i64 (P : Int)) ∧ w'.cell? ⟨b5, o5 + B, none⟩ = some (.int .i64 (Q : Int))) ∧ ∀ w7, w'.grownBy w7 (Value.slice am (FT k).length cm).ownBlock → St w.heap.size h w h5 w7 → w7.cell? ⟨wr.heap.size, 0, none⟩ = some (.int .i64 (A : Int)) ∧ w7.cell? ⟨wr.heap.size, 1, none⟩ = some (.int .i64 (B : Int)) ∧ w7.cell? ⟨bt, 3, none⟩ = some (.slice (some ⟨bk, ok', none⟩) x.length ck) ∧ w7.cell? ⟨bt, 8, none⟩ = some (.slice (some ⟨dk, pk, none⟩) y.length ek) ∧ w7.cell? ⟨bk, ok' + pa, none⟩ = some (.slice (some ⟨b4, o4, none⟩) (nd x (pa : Int)).kids.length crx) ∧ w7.cell? ⟨dk, pk + qa, none⟩ = some (.slice (some ⟨b5, o5, none⟩) (nd y (qa : Int)).kids.length cry) ∧ w7.cell? ⟨b4, o4 + A, none⟩ = some (.int .i64 (P : Int)) ∧ w7.cell? ⟨b5, o5 + B, none⟩ = some (.int .i64 (Q : Int))) := fun n => by
          refine (IH.out hj _ (SA.out.imm.drewN n) (T0.out.mono SA.out.le) (C0.out.mono SA.out.le) P Q HKY.out hfu).mono ?_
          rintro e w5 ⟨v5, rfl, h5, S5, P5, -⟩
          obtain ⟨a6, c6, rfl, -⟩ := P5.1.shape
          obtain ⟨b6, o6, rfl, hc6⟩ := P5.1.addr HPOS.out
          have HB : Has w5 wr.heap.size #[.int .i64 (A : Int), .int .i64 (B : Int)] := Has.below (W := W2.drewN n) ⟨HA.out.lt, HA.out.cl, HA.out.fz⟩ S5.below
          refine ⟨b6, o6, c6, rfl, h5, (SA.out.drewN n).call S5, Ow.call (Ow.drewN OA.out n) S5, fun j u hu => by rw [Addr.add_lit]; exact (hc6 _ S5.imm).2 j u hu, GEN.out _ ((SA.out.drewN n).call S5).imm0 (HB.cl 0) (HB.cl 1), fun w7 g7 s7 => ?_⟩
          have HB7 := HB.grown g7 (fun e => by have := hgm.out _ e; omega)
          exact GEN.out _ s7.imm0 (HB7.cl 0) (HB7.cl 1)
        clear IH HKY SA OA HA
        generalize foll (kpL x y es) f ((P : Int), (Q : Int)) = fl at *
        go_region_held3 (fun w' => w'.cell? ⟨wr.heap.size, 0, none⟩ = some (.int .i64 (A : Int)) ∧ w'.cell? ⟨wr.heap.size, 1, none⟩ = some (.int .i64 (B : Int)) ∧ w'.cell? ⟨bt, 3, none⟩ = some (.slice (some ⟨bk, ok', none⟩) x.length ck) ∧ w'.cell? ⟨bt, 8, none⟩ = some (.slice (some ⟨dk, pk, none⟩) y.length ek) ∧ w'.cell? ⟨bk, ok' + pa, none⟩ = some (.slice (some ⟨b4, o4, none⟩) (nd x (pa : Int)).kids.length crx) ∧ w'.cell? ⟨dk, pk + qa, none⟩ = some (.slice (some ⟨b5, o5, none⟩) (nd y (qa : Int)).kids.length cry) ∧ w'.cell? ⟨b4, o4 + A, none⟩ = some (.int .i64 (P : Int)) ∧ w'.cell? ⟨b5, o5 + B, none⟩ = some (.int .i64 (Q : Int))) (first | go_keep | with_reducible exact ⟨m0, m1, m2, m3, m4, m5, m6, m7⟩ | with_reducible exact ⟨n0, n1, n2, n3, n4, n5, n6, n7⟩)
          (first | (go_at_call 41; refine (by first | exact HIH.out _ | exact HIH.out 1 | exact HIH.out 0 : Calls _ _ _ _ _).mono ?_; rintro e w5 ⟨b6, o6, c6, rfl, h5, SN0, ON0, hc6, ⟨m0, m1, m2, m3, m4, m5, m6, m7⟩, hnx⟩; have SN := Lib.hid SN0; have ON := Lib.hid ON0; have HC6 := Lib.hid hc6; have HNX := Lib.hid hnx; clear SN0 ON0 hc6 hnx) | (refine step_app el_pairs (by rfl) _ _ (by rfl) SN.out (.slice am (FT k).length cm) (FT k).length ((FT k).flatMap encP) (by rfl) ON.out ⟨b6, o6, none⟩ fl.length c6 (fl.flatMap encP) (by rfl) (encP_len fl) HC6.out HO.out HPOS.out HBN.out ?_; intro gg cg w7 st7 own7 gr7 bk7; obtain ⟨n0, n1, n2, n3, n4, n5, n6, n7⟩ := HNX.out _ gr7 st7; have ST := Lib.hid st7; have OW := Lib.hid own7; clear st7 own7 gr7 bk7))
        all_goals
          go_wp2_with fail
          go_roundw
          case rel =>
            refine ⟨k + 1, h5, by omega, by go_num, ST.out, ?_⟩
            rw [FS.out]
            unfold PrOw
            rw [List.length_append, List.flatMap_append]
            exact OW.out
          case measure => simp [intOf]; omega
      · obtain rfl : k = prs.length := by omega
        have F1 := FTL.out prs.length
        go_wp2_with fail
        go_ret
        refine ⟨_, rfl, _, S'.out.fr, ⟨?_, fun q hq => ?_⟩, fun g hg => (Ow.lt O'.out g hg).1⟩
        · rw [← FTF.out]
          exact Ow.sl O'.out (by omega)
        · have := (foll_in OK.out.ka PX.out PY.out (f + 1) _ IR.out q hq).1
          unfold InR at this
          unfold I64
          omega
end Go.Proofs.Ytfifbadepebpeaa
