/- The reference's compared. -/
import Derived.Test.YtfifbadepebpeaaBk
namespace Go.Proofs.Ytfifbadepebpeaa
open Go.RowKit

set_option maxRecDepth 100000 in
set_option maxHeartbeats 4000000 in
theorem rcompared_any (h : Hp) (w : World) (hi : Imm h w) (va vb : Value) (x y : List NodeP) (ha : NumV h va x) (hb : NumV h vb y) (px : PO x) (py : PO y) (sx : x.length ≤ 262144) (sy : y.length ≤ 262144) (hk : (nd x 0).kind = (nd y 0).kind) (most : Nat) (_hm : most ≤ 9223372036854775807) :
    Calls Try.prog 35 #[va, vb, .int .i64 most] w fun e w' => ∃ v, e = .returned v ∧ ∃ h', St w.heap.size h w h' w' ∧ Prs h' v ((allC x y).take (most + 1)) := by
  obtain ⟨ca, rfl, ha⟩ := ha
  obtain ⟨cb, rfl, hb⟩ := hb
  have lx := px.wf.pos
  have ly := py.wf.pos
  obtain ⟨bn, on, cn, bp, op, cp, bs, os, ct, bk, ok, ck, rfl, -, OX0⟩ := ha.open lx
  obtain ⟨dn, pn, en, dp, pp, ep, ds, qs, es, dk, pk, ek, rfl, -, OY0⟩ := hb.open ly
  have HI := Lib.hid hi
  have PX := Lib.hid px
  have PY := Lib.hid py
  have OX := Lib.hid OX0
  have OY := Lib.hid OY0
  have AL := Lib.hid (allC_len px py)
  have hxy : Hid (x.length * y.length ≤ 262144 * 262144) := Nat.mul_le_mul sx sy
  clear hi ha hb px py OX0 OY0
  go_enter Try.func35, Try.ntmps35
  go_wp2_with fail
  have S2 := Lib.hid (((St.refl HI.out).alloc (Obj.cells #[.slice (some ⟨bn, on, none⟩) x.length cn, .slice (some ⟨bp, op, none⟩) x.length cp, .slice (some ⟨bs, os, none⟩) x.length ct, .slice (some ⟨bk, ok, none⟩) x.length ck, .bool (!narrowB x)] 72)).alloc (Obj.cells #[.slice (some ⟨dn, pn, none⟩) y.length en, .slice (some ⟨dp, pp, none⟩) y.length ep, .slice (some ⟨ds, qs, none⟩) y.length es, .slice (some ⟨dk, pk, none⟩) y.length ek, .bool (!narrowB y)] 72))
  have BA := Lib.hid ((Has.new w #[.slice (some ⟨bn, on, none⟩) x.length cn, .slice (some ⟨bp, op, none⟩) x.length cp, .slice (some ⟨bs, os, none⟩) x.length ct, .slice (some ⟨bk, ok, none⟩) x.length ck, .bool (!narrowB x)] 72).alloc (Obj.cells #[.slice (some ⟨dn, pn, none⟩) y.length en, .slice (some ⟨dp, pp, none⟩) y.length ep, .slice (some ⟨ds, qs, none⟩) y.length es, .slice (some ⟨dk, pk, none⟩) y.length ek, .bool (!narrowB y)] 72))
  have BB := Lib.hid (Has.new1 w (Obj.cells #[.slice (some ⟨bn, on, none⟩) x.length cn, .slice (some ⟨bp, op, none⟩) x.length cp, .slice (some ⟨bs, os, none⟩) x.length ct, .slice (some ⟨bk, ok, none⟩) x.length ck, .bool (!narrowB x)] 72) #[.slice (some ⟨dn, pn, none⟩) y.length en, .slice (some ⟨dp, pp, none⟩) y.length ep, .slice (some ⟨ds, qs, none⟩) y.length es, .slice (some ⟨dk, pk, none⟩) y.length ek, .bool (!narrowB y)] 72)
  have SZ : Hid (w.heap.size ≤ ((w.alloc (Obj.cells #[.slice (some ⟨bn, on, none⟩) x.length cn, .slice (some ⟨bp, op, none⟩) x.length cp, .slice (some ⟨bs, os, none⟩) x.length ct, .slice (some ⟨bk, ok, none⟩) x.length ck, .bool (!narrowB x)] 72)).alloc (Obj.cells #[.slice (some ⟨dn, pn, none⟩) y.length en, .slice (some ⟨dp, pp, none⟩) y.length ep, .slice (some ⟨ds, qs, none⟩) y.length es, .slice (some ⟨dk, pk, none⟩) y.length ek, .bool (!narrowB y)] 72)).heap.size) := by unfold Hid; simp; omega
  generalize ((w.alloc (Obj.cells #[.slice (some ⟨bn, on, none⟩) x.length cn, .slice (some ⟨bp, op, none⟩) x.length cp, .slice (some ⟨bs, os, none⟩) x.length ct, .slice (some ⟨bk, ok, none⟩) x.length ck, .bool (!narrowB x)] 72)).alloc (Obj.cells #[.slice (some ⟨dn, pn, none⟩) y.length en, .slice (some ⟨dp, pp, none⟩) y.length ep, .slice (some ⟨ds, qs, none⟩) y.length es, .slice (some ⟨dk, pk, none⟩) y.length ek, .bool (!narrowB y)] 72)) = w2 at *
  have RD : Hid (∀ W : World, Below w2.heap.size w2 W → (W.cell? ⟨w.heap.size, 0, none⟩ = some (.slice (some ⟨bn, on, none⟩) x.length cn) ∧ W.cell? ⟨w.heap.size, 3, none⟩ = some (.slice (some ⟨bk, ok, none⟩) x.length ck)) ∧ (W.cell? ⟨w.heap.size + 1, 0, none⟩ = some (.slice (some ⟨dn, pn, none⟩) y.length en) ∧ W.cell? ⟨w.heap.size + 1, 3, none⟩ = some (.slice (some ⟨dk, pk, none⟩) y.length ek)) ∧ w.heap.size + 1 < W.heap.size) := fun W hb =>
    ⟨⟨(BA.out.below hb).cl 0, (BA.out.below hb).cl 3⟩, ⟨(BB.out.below hb).cl 0, (BB.out.below hb).cl 3⟩, (BB.out.below hb).lt⟩
  clear BA BB
  have Iw2 := Lib.hid S2.out.imm
  obtain ⟨⟨a0, a3⟩, ⟨b0, b3⟩, zz⟩ := RD.out w2 (Below.refl _ _)
  obtain ⟨zx, -, kx⟩ := OX.out.kindN lx Iw2.out
  obtain ⟨zy, -, ky⟩ := OY.out.kindN ly Iw2.out
  simp only [Nat.zero_mul, Nat.add_zero, Int.natCast_zero] at kx ky
  have hk0 : ((nd x 0).kind != (nd y 0).kind) = false := by simp [hk]
  have HK := Lib.hid hk
  clear hk
  go_quiet (fail)
  go_wp2_with (at_make; refine wpList_mk el_rows rfl _ _ rfl ((St.refl Iw2.out).drewN _) .i64 .i64 _ _ x.length rfl rfl rfl rfl (by omega) ?_; intro w4 st4 own4 gr4; rw [madeCells1] at own4; have ST4 := Lib.hid st4; have OW4 : Hid (Ow w4 h w2.heap.size 35 1 (.slice (some ⟨w2.heap.size, 0, none⟩) x.length x.length) x.length (List.replicate x.length (.slice none 0 0))) := own4; obtain ⟨g4, e4, -, z4, -, cc4, ff4⟩ := OW4.out.cell lx; simp only [Option.some.injEq, Addr.mk.injEq, and_true] at e4; subst e4; have c4 := cc4 0 (.slice none 0 0) (by simp [lx]); have f4' := ff4 0; clear cc4 ff4 st4 own4 gr4)
  have L0 := Lib.hid (CpI.start y PX.out.wf ST4.out OW4.out)
  clear ST4 OW4 c4 f4' z4 kx ky hk0 zx zy a0 a3 b0 b3 zz
  generalize (w4.setCell ⟨w2.heap.size, 0, none⟩ (.slice (some ⟨w4.heap.size, 0, none⟩) 1 1)).alloc (.cells #[.int .i64 0] 3) = w5 at *
  generalize (List.replicate x.length (Value.slice none 0 0)).set 0 (Value.slice (some ⟨w4.heap.size, 0, none⟩) 1 1) = vals0 at *
  go_loopw [6, 8, 9, 10, 11, 12, 13, 14, 15, 34, 35, 36, 37, 38, 39, 40, 41, 42, 43, 44, 45, 46, 47, 48, 49, 50, 51, 52, 53, 54, 55, 56, 57, 58, 59, 60, 61, 62, 63, 64, 65, 66, 67, 68, 69, 70, 71, 72, 73, 74, 75, 76, 77, 78, 79, 80, 81, 82, 83, 84, 85, 86, 87, 88, 89, 90, 91, 92, 93, 94, 95, 96, 97, 98, 99, 100, 101, 102, 103, 104, 105, 106, 107, 108, 109, 110, 111, 112, 113, 114, 115, 116, 117, 118, 119, 120, 121, 122, 123, 124, 125, 126] (fun _ v i _ _ _ _ _ _ _ _ _ _ _ _ _ _ _ _ _ _ _ _ _ _ _ _ _ _ _ _ _ _ _ _ _ _ _ _ _ _ _ _ _ _ _ _ _ _ _ _ _ _ _ _ _ _ _ _ _ _ _ _ _ _ _ _ _ _ _ _ _ _ _ _ _ _ _ _ _ _ _ _ _ _ _ _ _ _ _ _ _ _ _ _ _ _ _ _ _ _ _ wr => ∃ (X : Nat) (vals : List Value), X ≤ x.length ∧ i = .int .i64 X ∧ CpI w2 h x.length (f1 x y X) (oP x y X 0) wr w2.heap.size x.length v vals ∧ (oP x y X 0).length ≤ most) (fun _ _ i _ _ _ _ _ _ _ _ _ _ _ _ _ _ _ _ _ _ _ _ _ _ _ _ _ _ _ _ _ _ _ _ _ _ _ _ _ _ _ _ _ _ _ _ _ _ _ _ _ _ _ _ _ _ _ _ _ _ _ _ _ _ _ _ _ _ _ _ _ _ _ _ _ _ _ _ _ _ _ _ _ _ _ _ _ _ _ _ _ _ _ _ _ _ _ _ _ _ _ _ => x.length - (intOf i).toNat)
  case atStart => exact ⟨0, vals0, Nat.zero_le _, rfl, by rw [oP_zero]; exact L0.out, by rw [oP_zero]; exact Nat.zero_le _⟩
  case round =>
    obtain ⟨wo, rfl⟩ : ∃ wo : World, wo = wr := ⟨_, rfl⟩
    obtain ⟨X, vals, hXl, rfl, L, hmo⟩ := hrel
    obtain ⟨av, cv, rfl⟩ := Ow.shape L.oo
    obtain ⟨⟨a0, a3⟩, ⟨b0, b3⟩, zz⟩ := RD.out wo L.st.below
    clear L0
    by_cases hlt : X < x.length
    · have L1 : Hid (CpI w2 h x.length (f2 x y X 0) (oP x y X 0) wo w2.heap.size x.length (.slice av (oP x y X 0).length cv) vals) := by unfold Hid; rw [f2_zero]; exact L
      obtain ⟨ark, crk, RX, rx⟩ := OX.out.rowN hlt
      have RXW := Lib.hid rx
      have HX1 : Hid (X + 1 ≤ x.length) := hlt
      have RX := Lib.hid RX
      have WL := Lib.hid (wR_len PX.out PY.out (y := y) hlt)
      have WO := Lib.hid (wR_ok PX.out PY.out (y := y) X X (Nat.le_refl _) hlt).1
      have HKL := Lib.hid (kids_len PX.out.wf (i := (X : Int)) (by omega) (by omega))
      clear rx L
      go_wp2_with fail
      clear a0 a3 b0 b3 zz
      go_loopw [6, 8, 10, 11, 12, 13, 14, 15, 41, 42, 43, 44, 45, 46, 47, 48, 49, 50, 51, 52, 53, 54, 55, 56, 57, 58, 59, 60, 61, 62, 63, 64, 65, 66, 67, 68, 69, 70, 71, 72, 73, 74, 75, 76, 77, 78, 79, 80, 81, 82, 83, 84, 85, 86, 87, 88, 89, 90, 91, 92, 93, 94, 95, 96, 97, 98, 99, 100, 101, 102, 103, 104, 105, 106, 107, 108, 109, 110, 111, 112, 113, 114, 115, 116, 117, 118, 119, 120, 121, 122, 123, 124, 125, 126] (fun _ v i _ _ _ _ _ _ _ _ _ _ _ _ _ _ _ _ _ _ _ _ _ _ _ _ _ _ _ _ _ _ _ _ _ _ _ _ _ _ _ _ _ _ _ _ _ _ _ _ _ _ _ _ _ _ _ _ _ _ _ _ _ _ _ _ _ _ _ _ _ _ _ _ _ _ _ _ _ _ _ _ _ _ _ _ _ _ _ _ _ _ _ w3 => ∃ (j : Nat) (vals : List Value), j ≤ (wR x y X).length ∧ i = .int .i64 j ∧ CpI w2 h x.length (f2 x y X j) (oP x y X j) w3 w2.heap.size x.length v vals ∧ (oP x y X j).length ≤ most) (fun _ _ i _ _ _ _ _ _ _ _ _ _ _ _ _ _ _ _ _ _ _ _ _ _ _ _ _ _ _ _ _ _ _ _ _ _ _ _ _ _ _ _ _ _ _ _ _ _ _ _ _ _ _ _ _ _ _ _ _ _ _ _ _ _ _ _ _ _ _ _ _ _ _ _ _ _ _ _ _ _ _ _ _ _ _ _ _ _ _ _ _ _ _ _ => (wR x y X).length - (intOf i).toNat)
      case atStart => exact ⟨0, vals, Nat.zero_le _, rfl, L1.out, hmo⟩
      case round =>
        obtain ⟨w3, rfl⟩ : ∃ w3 : World, w3 = wr := ⟨_, rfl⟩
        obtain ⟨j, vals, hjl, rfl, L, hmo⟩ := hrel
        obtain ⟨av, cv, rfl⟩ := Ow.shape L.oo
        obtain ⟨⟨a0, a3⟩, ⟨b0, b3⟩, zz⟩ := RD.out w3 L.st.below
        have hvl := L.vlen
        obtain ⟨zg, cg, ra, rc, e1, hrd⟩ := L.at_ hlt (by omega) (by rw [f2_len]; exact hlt)
        rw [e1] at cg
        have hrow := f2_row PX.out.wf (y := y) (X := X) (i := j) (by rw [f2_len]; exact hlt)
        rw [hrow] at cg hrd
        have u0 : (0 : Int) ≤ (X : Int) := by omega
        have u1 : (X : Int) < (x.length : Int) := by omega
        by_cases hlt2 : j < (wR x y X).length
        · obtain ⟨bb, rfl, zb, hrd⟩ := hrd (by omega)
          have cb := hrd j hlt2
          have WB := WO.out _ (List.getElem_mem hlt2)
          have OS := Lib.hid (oP_succ hlt2)
          have HJ2 : Hid (j + 1 ≤ (wR x y X).length) := hlt2
          have FF : Hid (∀ k, k < (nd x (X : Int)).kids.length → f4 x y X j k (nd y (wR x y X)[j]).kids.length (wR x y X)[j] = f3 x y X j (k + 1)) := fun k hk => f4_full PX.out.wf hlt hlt2 hk
          have RL : Hid (∀ P jj : Nat, P < x.length → 0 < P → (nd x (P : Int)).parent = (X : Int) → (gK x y P ((wR x y X).take j) ++ gD x y P ((nd y (wR x y X)[j]).kids.take jj)).length ≤ y.length) := fun P jj h1 h2 h3 => f4_row_len PX.out PY.out hlt2 h1 h2 h3
          have OL : Hid ((oP x y X j).length + 1 ≤ (allC x y).length) := by
            have := (oP_pre (y := y) (i := j + 1) hlt).length_le
            rw [oP_succ hlt2, List.length_append] at this
            exact this
          have hol : ((oP x y X j).length + 1) * 16 ≤ 140737488355328 := by have := OL.out; have := AL.out; have := hxy.out; omega
          have OE : Hid ((oP x y X j).length + 1 = most + 1 → oP x y X (j + 1) = (allC x y).take (most + 1)) := fun e => (oP_take hlt (by rw [oP_succ hlt2, List.length_append]; exact e)).symm
          generalize (wR x y X)[j] = b at *
          obtain ⟨Y, rfl⟩ : ∃ Y : Nat, b = (Y : Int) := ⟨b.toNat, by omega⟩
          have hY : Y < y.length := by omega
          obtain ⟨brk, drk, RY, ry⟩ := OY.out.rowN hY
          have RYW := Lib.hid ry
          have RY := Lib.hid RY
          have HKY := Lib.hid (kids_len PY.out.wf (i := (Y : Int)) (by omega) (by omega))
          have L' := Lib.hid L
          clear ry L hrd hrow WB e1
          have LL : Hid (∀ (v2 : Value) (w6 : World), St w2.heap.size h w2 h w6 → Ow w6 h w2.heap.size 52 2 v2 ((oP x y X j).length + 1) ((oP x y X j).flatMap encP ++ encP ((X : Int), (Y : Int))) → (w3.alloc (Obj.cells #[.int .i64 X, .int .i64 Y] 52)).grownBy w6 (Value.slice av (oP x y X j).length cv).ownBlock → (v2.ownBlock = (Value.slice av (oP x y X j).length cv).ownBlock ∨ v2.ownBlock = some (w3.alloc (Obj.cells #[.int .i64 X, .int .i64 Y] 52)).heap.size) → CpI w2 h x.length (f3 x y X j 0) (oP x y X (j + 1)) w6 w2.heap.size x.length v2 vals) := fun v2 w6 st own gr bk => by
            rw [f3_zero, OS.out]
            exact (L'.out.alloc _).pair st own gr bk
          have OO : Hid (Ow (w3.alloc (Obj.cells #[.int .i64 X, .int .i64 Y] 52)) h w2.heap.size 52 2 (Value.slice av (oP x y X j).length cv) (oP x y X j).length ((oP x y X j).flatMap encP)) := Ow.alloc L'.out.oo _
          by_cases hmm : most < (oP x y X j).length + 1
          · go_wp2_with (at_builtin; refine wpList_app el_pairs rfl _ _ rfl (L'.out.st.alloc _) (Value.slice av (oP x y X j).length cv) (oP x y X j).length _ rfl OO.out ⟨_, 0, none⟩ 1 1 (encP ((X : Int), (Y : Int))) rfl rfl (new_cells _ _ _ _ (by simp)) (one_cells _ rfl) (by omega) ?_; intro v2 w6 st2 own2 gr2 bk2; have LP := Lib.hid (LL.out _ _ st2 own2 gr2 bk2); obtain ⟨ao, co, rfl⟩ := Ow.shape own2; clear st2 own2 gr2 bk2)
            go_ret
            exact cEnd S2.out LP.out SZ.out (OE.out (by omega)) PX.out PY.out sx sy
          · go_wp2_with (at_builtin; refine wpList_app el_pairs rfl _ _ rfl (L'.out.st.alloc _) (Value.slice av (oP x y X j).length cv) (oP x y X j).length _ rfl OO.out ⟨_, 0, none⟩ 1 1 (encP ((X : Int), (Y : Int))) rfl rfl (new_cells _ _ _ _ (by simp)) (one_cells _ rfl) (by omega) ?_; intro v2 w6 st2 own2 gr2 bk2; have LP := Lib.hid (LL.out _ _ st2 own2 gr2 bk2); obtain ⟨ao, co, rfl⟩ := Ow.shape own2; clear st2 own2 gr2 bk2)
            have hmn : Hid ((oP x y X (j + 1)).length ≤ most) := by unfold Hid; rw [OS.out, List.length_append]; simp only [List.length_cons, List.length_nil]; omega
            clear LL OO L' a0 a3 b0 b3 zz zg cg cb zb hmm
            go_loopw [12, 13, 14, 15, 68, 69, 70, 71, 72, 73, 74, 75, 76, 77, 78, 79, 80, 81, 82, 83, 84, 85, 86, 87, 88, 89, 90, 91, 92, 93, 94, 95, 96, 97, 98, 99, 100, 101, 102, 103, 104, 105, 106, 107, 108, 109, 110, 111, 112, 113, 114, 115, 116, 117, 118, 119, 120, 121, 122, 123, 124, 125, 126] (fun i _ _ _ _ _ _ _ _ _ _ _ _ _ _ _ _ _ _ _ _ _ _ _ _ _ _ _ _ _ _ _ _ _ _ _ _ _ _ _ _ _ _ _ _ _ _ _ _ _ _ _ _ _ _ _ _ _ _ _ _ _ _ w7 => ∃ (k : Nat) (vals : List Value), k ≤ (nd x (X : Int)).kids.length ∧ i = .int .i64 k ∧ CpI w2 h x.length (f3 x y X j k) (oP x y X (j + 1)) w7 w2.heap.size x.length (.slice ao ((oP x y X j).length + 1) co) vals) (fun i _ _ _ _ _ _ _ _ _ _ _ _ _ _ _ _ _ _ _ _ _ _ _ _ _ _ _ _ _ _ _ _ _ _ _ _ _ _ _ _ _ _ _ _ _ _ _ _ _ _ _ _ _ _ _ _ _ _ _ _ _ _ _ => (nd x (X : Int)).kids.length - (intOf i).toNat)
            case atStart => exact ⟨0, vals, Nat.zero_le _, rfl, LP.out⟩
            case round =>
              obtain ⟨w7, rfl⟩ : ∃ w7 : World, w7 = wr := ⟨_, rfl⟩
              obtain ⟨k, vals, hkl, rfl, L⟩ := hrel
              obtain ⟨⟨a0, a3⟩, ⟨b0, b3⟩, zz⟩ := RD.out w7 L.st.below
              have cx := RXW.out w7 L.st.imm
              have zk := (OX.out.kindN hlt L.st.imm).2.1
              have hkx := HKL.out
              clear LP
              by_cases hlt3 : k < (nd x (X : Int)).kids.length
              · have L4 : Hid (CpI w2 h x.length (f4 x y X j k 0 (Y : Int)) (oP x y X (j + 1)) w7 w2.heap.size x.length (.slice ao ((oP x y X j).length + 1) co) vals) := by unfold Hid; rw [f4_zero]; exact L
                have FFk := Lib.hid (FF.out k hlt3)
                have KM := Lib.hid (List.getElem_mem hlt3)
                have HK1 : Hid (k + 1 ≤ (nd x (X : Int)).kids.length) := hlt3
                have FR : Hid (∀ jj P : Nat, (nd x (X : Int)).kids[k] = (P : Int) → (hPl : P < (f4 x y X j k jj (Y : Int)).length) → (f4 x y X j k jj (Y : Int))[P] = gK x y P ((wR x y X).take j) ++ gD x y P ((nd y (Y : Int)).kids.take jj) ∧ P < x.length ∧ 0 < P ∧ (nd x (P : Int)).parent = (X : Int)) := fun jj P e hPl => f4_row PX.out.wf hlt hlt3 e hPl
                have FS : Hid (∀ (jj P : Nat), (nd x (X : Int)).kids[k] = (P : Int) → (hj : jj < (nd y (Y : Int)).kids.length) → f4 x y X j k (jj + 1) (Y : Int) = (f4 x y X j k jj (Y : Int)).set P ((f4 x y X j k jj (Y : Int)).getD P [] ++ (if (nd x (P : Int)).kind = (nd y (nd y (Y : Int)).kids[jj]).kind then [(nd y (Y : Int)).kids[jj]] else []))) := fun jj P e hj => f4_succ PX.out.wf hlt hlt3 e hj
                obtain ⟨b1, o1, c1, ee, -, hc1⟩ := RX.out.openI' (by omega)
                simp only [Value.slice.injEq, true_and] at ee
                obtain ⟨rfl, rfl⟩ := ee
                have HC1 : Hid (∀ W, Imm h W → b1 < W.heap.size ∧ W.cell? ⟨b1, o1 + k, none⟩ = some (.int .i64 (nd x (X : Int)).kids[k])) := fun W hW => ⟨(hc1 W hW).1, (hc1 W hW).2 k hlt3⟩
                obtain ⟨p1, p2, -⟩ := kid_inr PX.out.wf (i := (X : Int)) (by omega) (by omega) KM.out
                generalize (nd x (X : Int)).kids[k] = p at *
                obtain ⟨P, rfl⟩ : ∃ P : Nat, p = (P : Int) := ⟨p.toNat, by omega⟩
                have hP : P < x.length := by omega
                clear L hc1 KM
                go_wp2_with fail
                clear a0 a3 b0 b3 zz cx zk
                go_loopw [13, 14, 15, 78, 79, 80, 81, 82, 83, 84, 85, 86, 87, 88, 89, 90, 91, 92, 93, 94, 95, 96, 97, 98, 99, 100, 101, 102, 103, 104, 105, 106, 107, 108, 109, 110, 111, 112, 113, 114, 115, 116, 117, 118, 119, 120, 121, 122, 123, 124, 125, 126] (fun i _ _ _ _ _ _ _ _ _ _ _ _ _ _ _ _ _ _ _ _ _ _ _ _ _ _ _ _ _ _ _ _ _ _ _ _ _ _ _ _ _ _ _ _ _ _ _ _ _ _ _ w8 => ∃ (jj : Nat) (vals : List Value), jj ≤ (nd y (Y : Int)).kids.length ∧ i = .int .i64 jj ∧ CpI w2 h x.length (f4 x y X j k jj (Y : Int)) (oP x y X (j + 1)) w8 w2.heap.size x.length (.slice ao ((oP x y X j).length + 1) co) vals) (fun i _ _ _ _ _ _ _ _ _ _ _ _ _ _ _ _ _ _ _ _ _ _ _ _ _ _ _ _ _ _ _ _ _ _ _ _ _ _ _ _ _ _ _ _ _ _ _ _ _ _ _ _ => (nd y (Y : Int)).kids.length - (intOf i).toNat)
                case atStart => exact ⟨0, vals, Nat.zero_le _, rfl, L4.out⟩
                case round =>
                  obtain ⟨jj, vals, hjl, rfl, L⟩ := hrel
                  obtain ⟨⟨a0, a3⟩, ⟨b0, b3⟩, zz⟩ := RD.out wr L.st.below
                  have cx := RXW.out wr L.st.imm
                  have cy := RYW.out wr L.st.imm
                  have zk := (OX.out.kindN hlt L.st.imm).2.1
                  have zl := (OY.out.kindN hY L.st.imm).2.1
                  have hky := HKY.out
                  clear L4
                  have hvl := L.vlen
                  by_cases hlt4 : jj < (nd y (Y : Int)).kids.length
                  · obtain ⟨zp, cp1⟩ := HC1.out wr L.st.imm
                    obtain ⟨b2, o2, c2, ee, -, hc2⟩ := RY.out.openI' (by omega)
                    simp only [Value.slice.injEq, true_and] at ee
                    obtain ⟨rfl, rfl⟩ := ee
                    obtain ⟨zq, hc2⟩ := hc2 wr L.st.imm
                    have cq1 := hc2 jj hlt4
                    have FS' := Lib.hid (FS.out jj P rfl hlt4)
                    obtain ⟨q1, q2, -⟩ := kid_inr PY.out.wf (i := (Y : Int)) (by omega) (by omega) (List.getElem_mem hlt4)
                    generalize (nd y (Y : Int)).kids[jj] = q at *
                    obtain ⟨Q, rfl⟩ : ∃ Q : Nat, q = (Q : Int) := ⟨q.toNat, by omega⟩
                    have hQ : Q < y.length := by omega
                    obtain ⟨zn, -, kp1⟩ := OX.out.kindN hP L.st.imm
                    obtain ⟨zm, -, kq1⟩ := OY.out.kindN hQ L.st.imm
                    have hPl : P < (f4 x y X j k jj (Y : Int)).length := by rw [f4_len]; exact hP
                    obtain ⟨fr1, -, fr2, fr3⟩ := FR.out jj P rfl hPl
                    have hrl := RL.out P jj hP fr2 fr3
                    rw [← fr1] at hrl
                    obtain ⟨zg, cg, ra, rc, e1, -⟩ := L.at_ hP (by omega) hPl
                    have hPv : P < vals.length := by omega
                    have own1 := L.fam.own P hPv hPl
                    have L' := Lib.hid L
                    have u3 : (0 : Int) ≤ (P : Int) := by omega
                    have u4 : (P : Int) < (x.length : Int) := by omega
                    have u5 : (0 : Int) ≤ (Q : Int) := by omega
                    have u6 : (Q : Int) < (y.length : Int) := by omega
                    have u7 : (0 : Int) ≤ (Y : Int) := by omega
                    have u8 : (Y : Int) < (y.length : Int) := by omega
                    have u9 : (k : Int) < ((nd x (X : Int)).kids.length : Int) := by omega
                    have u10 : (jj : Int) < ((nd y (Y : Int)).kids.length : Int) := by omega
                    clear L hc2
                    by_cases hkk : (nd x (P : Int)).kind = (nd y (Q : Int)).kind
                    · have g1 := ibeqT hkk
                      have FN : Hid (f4 x y X j k (jj + 1) (Y : Int) = (f4 x y X j k jj (Y : Int)).set P ((f4 x y X j k jj (Y : Int))[P] ++ [(Q : Int)])) := by
                        have := FS'.out
                        rw [if_pos hkk, List.getD_eq_getElem?_getD, List.getElem?_eq_getElem hPl, Option.getD_some] at this
                        exact this
                      have LNEW : Hid (∀ W, Below wr.heap.size wr W → ∀ v2 w9, St w2.heap.size h w2 h w9 → Ow w9 h w2.heap.size 3 1 v2 ((f4 x y X j k jj (Y : Int))[P].length + 1) ((f4 x y X j k jj (Y : Int))[P].map (Value.int .i64) ++ [.int .i64 Q]) → (W.alloc (Obj.cells #[.int .i64 Q] 3)).grownBy w9 vals[P].ownBlock → (v2.ownBlock = vals[P].ownBlock ∨ v2.ownBlock = some (W.alloc (Obj.cells #[.int .i64 Q] 3)).heap.size) →
                          CpI w2 h x.length (f4 x y X j k (jj + 1) (Y : Int)) (oP x y X (j + 1)) (w9.setCell ⟨w2.heap.size, P, none⟩ v2) w2.heap.size x.length (.slice ao ((oP x y X j).length + 1) co) (vals.set P v2)) := fun W hW v2 w9 s2 o2 g2 b2 => by
                        rw [FN.out]
                        exact ((L'.out.below hW).alloc _).set hP hPv s2 g2 (InOw.snoc o2) b2
                      have OG : Hid (∀ W, Below wr.heap.size wr W → ∀ w9, (W.alloc (Obj.cells #[.int .i64 Q] 3)).grownBy w9 vals[P].ownBlock → w9.cell? ⟨w2.heap.size, P, none⟩ = some vals[P] ∧ w9.frozen? ⟨w2.heap.size, P, none⟩ = false ∧ w2.heap.size < w9.heap.size) := fun W hW w9 g2 => ((L'.out.below hW).alloc _).okg hP hPv g2
                      have OI : Hid (∀ W, Below wr.heap.size wr W → St w2.heap.size h w2 h (W.alloc (Obj.cells #[.int .i64 Q] 3)) ∧ Ow (W.alloc (Obj.cells #[.int .i64 Q] 3)) h w2.heap.size 3 1 vals[P] (f4 x y X j k jj (Y : Int))[P].length ((f4 x y X j k jj (Y : Int))[P].map (Value.int .i64))) := fun W hW => ⟨(L'.out.below hW).st.alloc _, (Ow.same own1 hW).alloc _⟩
                      rw [e1] at LNEW OG OI cg
                      clear own1 hkk fr1 e1 FS' FN
                      have hrl2 : ((f4 x y X j k jj (Y : Int))[P].length + 1) * 8 ≤ 140737488355328 := by omega
                      generalize (f4 x y X j k jj (Y : Int))[P] = r at *
                      go_wp2_with fail
                      go_quiet (fail)
                      go_wp2_with fail
                      go_quiet (fail)
                      go_wp2_with (at_builtin; refine wpList_app el_ints rfl _ _ rfl (OI.out _ (by first | exact (Below.refl _ _).drewN _ | exact ((Below.refl _ _).drewN _).drewN _)).1 _ r.length (r.map (Value.int .i64)) rfl (OI.out _ (by first | exact (Below.refl _ _).drewN _ | exact ((Below.refl _ _).drewN _).drewN _)).2 ⟨_, 0, none⟩ 1 1 [.int .i64 Q] rfl rfl (new_cells _ _ _ _ (by simp)) (one_cells _ rfl) (by omega) ?_; intro v2 w9 st2 own2 gr2 bk2; have LN := Lib.hid (LNEW.out _ (by first | exact (Below.refl _ _).drewN _ | exact ((Below.refl _ _).drewN _).drewN _) _ _ st2 own2 gr2 bk2); obtain ⟨t1, t2, t3⟩ := OG.out _ (by first | exact (Below.refl _ _).drewN _ | exact ((Below.refl _ _).drewN _).drewN _) _ gr2; obtain ⟨a2, c2', rfl⟩ := Ow.shape own2; clear st2 own2 gr2 bk2)
                      go_roundw
                      case rel => exact ⟨jj + 1, _, by omega, by go_num, LN.out⟩
                      case measure => simp [intOf]; omega
                    · have g1 := ibeqF hkk
                      have LN : Hid (∀ W, Below wr.heap.size wr W → CpI w2 h x.length (f4 x y X j k (jj + 1) (Y : Int)) (oP x y X (j + 1)) W w2.heap.size x.length (.slice ao ((oP x y X j).length + 1) co) vals) := fun W hW => by
                        have := FS'.out
                        rw [if_neg hkk, List.append_nil, List.getD_eq_getElem?_getD, List.getElem?_eq_getElem hPl, Option.getD_some, List.set_getElem_self] at this
                        rw [this]
                        exact L'.out.below hW
                      clear own1 hkk fr1 e1 FS' cg
                      go_wp2_with fail
                      go_quiet (fail)
                      go_wp2_with fail
                      go_quiet (fail)
                      go_wp2_with fail
                      go_roundw
                      case rel => exact ⟨jj + 1, vals, by omega, by go_num, LN.out _ (by first | exact (Below.refl _ _).drewN _ | exact ((Below.refl _ _).drewN _).drewN _)⟩
                      case measure => simp [intOf]; omega
                  · obtain rfl : jj = (nd y (Y : Int)).kids.length := by omega
                    have LN : Hid (CpI w2 h x.length (f3 x y X j (k + 1)) (oP x y X (j + 1)) wr w2.heap.size x.length (.slice ao ((oP x y X j).length + 1) co) vals) := by
                      unfold Hid
                      rw [← FFk.out]; exact L
                    clear L
                    go_wp2_with fail
                    go_roundw
                    case rel => exact ⟨k + 1, vals, HK1.out, by go_num, LN.out⟩
                    case measure => have := HK1.out; simp [intOf]; omega
              · obtain rfl : k = (nd x (X : Int)).kids.length := by omega
                have LN : Hid (CpI w2 h x.length (f2 x y X (j + 1)) (oP x y X (j + 1)) w7 w2.heap.size x.length (.slice ao ((oP x y X j).length + 1) co) vals) := by
                  unfold Hid
                  rw [← f3_full PX.out.wf]; exact L
                clear L
                have hjb : j < 262144 := by have := HJ2.out; have := WL.out; omega
                go_wp2_with fail
                go_roundw
                case rel => have := HJ2.out; have := WL.out; exact ⟨j + 1, vals, HJ2.out, by go_num, LN.out, hmn.out⟩
                case measure => have := HJ2.out; have := WL.out; simp [intOf]; omega
        · obtain rfl : j = (wR x y X).length := by omega
          have LN : Hid (CpI w2 h x.length (f1 x y (X + 1)) (oP x y (X + 1) 0) w3 w2.heap.size x.length (.slice av (oP x y X (wR x y X).length).length cv) vals) := by
            unfold Hid
            rw [← oP_next, ← f2_full PX.out.wf]; exact L
          have hmo' : Hid ((oP x y (X + 1) 0).length ≤ most) := by unfold Hid; rw [← oP_next]; exact hmo
          clear L hrd hrow e1
          go_wp2_with fail
          go_roundw
          case rel => exact ⟨X + 1, vals, HX1.out, by go_num, LN.out, hmo'.out⟩
          case measure => have := HX1.out; simp [intOf]; omega
    · obtain rfl : X = x.length := by omega
      have hmo' : Hid ((allC x y).length ≤ most) := by unfold Hid; rw [← oP_all]; exact hmo
      have L' := Lib.hid L
      clear L
      go_wp2_with fail
      go_ret
      exact cEnd S2.out L'.out SZ.out (by have := hmo'.out; rw [oP_all, List.take_of_length_le (by omega)]) PX.out PY.out sx sy
end Go.Proofs.Ytfifbadepebpeaa
