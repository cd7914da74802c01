/- The walk of the reference's cost. -/
import Derived.Test.YtfifbadepebpeaaBq
import Derived.Test.YtfifbadepebpeaaBe
namespace Go.Proofs.Ytfifbadepebpeaa
open Go.RowKit

theorem quiet_addl {P : Program} {f : FuncId} {args : Array Value} {w : World} {a n : Nat} {v : Value}
    (h : Calls P f args (w.drewN (a + n)) fun e w' => e = .returned v ∧ w.drewN (a + n) = w') :
    Calls P f args (w.drewN (a + n)) fun e w'' => e = .returned v ∧ ∃ m, w'' = w.drewN (a + m) :=
  h.mono fun _ _ ⟨he, hm⟩ => ⟨he, n, hm.symm⟩

set_option maxRecDepth 100000 in
set_option maxHeartbeats 8000000 in
theorem rcost_any (h : Hp) (w : World) (hi : Imm h w) (va vb vp : Value) (x y : List NodeP) (ps : List (Int × Int)) (ha : NumV h va x) (hb : NumV h vb y) (px : PO x) (py : PO y) (sx : x.length ≤ 262144) (sy : y.length ≤ 262144) (hp : Prs h vp ps) :
    Calls Try.prog 37 #[va, vb, vp] w (PriceRes w (priceP x y ps)) := by
  obtain ⟨ca, rfl, ha⟩ := ha
  obtain ⟨cb, rfl, hb⟩ := hb
  have lx := px.wf.pos
  have ly := py.wf.pos
  obtain ⟨bn, on, cn, bp, op, cp, bs, os, ct, bk, ok, ck, rfl, -, OX⟩ := ha.open lx
  obtain ⟨dn, pn, en, dp, pp, ep, ds, qs, es, dk, pk, ek, rfl, -, OY⟩ := hb.open ly
  have HP := Lib.hid hp
  obtain ⟨apz, cpz, rfl, hpn, hpc⟩ := hp.open
  have HI := Lib.hid hi
  have PX := Lib.hid px
  have PY := Lib.hid py
  have OX := Lib.hid OX
  have OY := Lib.hid OY
  have HPO := Lib.hid hpc
  clear hi ha hb hp px py hpc
  go_enter Try.func37, Try.ntmps37
  go_wp2_with fail
  have I2 : Hid (Imm h ((w.alloc (Obj.cells #[.slice (some ⟨bn, on, none⟩) x.length cn, .slice (some ⟨bp, op, none⟩) x.length cp, .slice (some ⟨bs, os, none⟩) x.length ct, .slice (some ⟨bk, ok, none⟩) x.length ck, .bool (!narrowB x)] 72)).alloc (Obj.cells #[.slice (some ⟨dn, pn, none⟩) y.length en, .slice (some ⟨dp, pp, none⟩) y.length ep, .slice (some ⟨ds, qs, none⟩) y.length es, .slice (some ⟨dk, pk, none⟩) y.length ek, .bool (!narrowB y)] 72))) := (HI.out.alloc _).alloc _
  have B2 : Hid (Below w.heap.size w ((w.alloc (Obj.cells #[.slice (some ⟨bn, on, none⟩) x.length cn, .slice (some ⟨bp, op, none⟩) x.length cp, .slice (some ⟨bs, os, none⟩) x.length ct, .slice (some ⟨bk, ok, none⟩) x.length ck, .bool (!narrowB x)] 72)).alloc (Obj.cells #[.slice (some ⟨dn, pn, none⟩) y.length en, .slice (some ⟨dp, pp, none⟩) y.length ep, .slice (some ⟨ds, qs, none⟩) y.length es, .slice (some ⟨dk, pk, none⟩) y.length ek, .bool (!narrowB y)] 72))) := ((Below.refl _ _).alloc (Nat.le_refl _) _).alloc (by simp) _
  have X2 := Lib.hid ((Has.new w #[.slice (some ⟨bn, on, none⟩) x.length cn, .slice (some ⟨bp, op, none⟩) x.length cp, .slice (some ⟨bs, os, none⟩) x.length ct, .slice (some ⟨bk, ok, none⟩) x.length ck, .bool (!narrowB x)] 72).alloc (Obj.cells #[.slice (some ⟨dn, pn, none⟩) y.length en, .slice (some ⟨dp, pp, none⟩) y.length ep, .slice (some ⟨ds, qs, none⟩) y.length es, .slice (some ⟨dk, pk, none⟩) y.length ek, .bool (!narrowB y)] 72))
  have Y2 := Lib.hid (Has.new1 w (Obj.cells #[.slice (some ⟨bn, on, none⟩) x.length cn, .slice (some ⟨bp, op, none⟩) x.length cp, .slice (some ⟨bs, os, none⟩) x.length ct, .slice (some ⟨bk, ok, none⟩) x.length ck, .bool (!narrowB x)] 72) #[.slice (some ⟨dn, pn, none⟩) y.length en, .slice (some ⟨dp, pp, none⟩) y.length ep, .slice (some ⟨ds, qs, none⟩) y.length es, .slice (some ⟨dk, pk, none⟩) y.length ek, .bool (!narrowB y)] 72)
  generalize hw2 : ((w.alloc (Obj.cells #[.slice (some ⟨bn, on, none⟩) x.length cn, .slice (some ⟨bp, op, none⟩) x.length cp, .slice (some ⟨bs, os, none⟩) x.length ct, .slice (some ⟨bk, ok, none⟩) x.length ck, .bool (!narrowB x)] 72)).alloc (Obj.cells #[.slice (some ⟨dn, pn, none⟩) y.length en, .slice (some ⟨dp, pp, none⟩) y.length ep, .slice (some ⟨ds, qs, none⟩) y.length es, .slice (some ⟨dk, pk, none⟩) y.length ek, .bool (!narrowB y)] 72)) = w2 at *
  have HW2 := Lib.hid hw2
  clear hw2
  have m0 : w2.cell? ⟨w.heap.size, 0, none⟩ = some (.slice (some ⟨bn, on, none⟩) x.length cn) := X2.out.cl 0
  have m1 : w2.cell? ⟨w.heap.size, 1, none⟩ = some (.slice (some ⟨bp, op, none⟩) x.length cp) := X2.out.cl 1
  have n0 : w2.cell? ⟨w.heap.size + 1, 0, none⟩ = some (.slice (some ⟨dn, pn, none⟩) y.length en) := Y2.out.cl 0
  have n1 : w2.cell? ⟨w.heap.size + 1, 1, none⟩ = some (.slice (some ⟨dp, pp, none⟩) y.length ep) := Y2.out.cl 1
  have HXC := Lib.hid (OX.out.at_ w2 I2.out).2
  have HYC := Lib.hid (OY.out.at_ w2 I2.out).2
  have IM : Hid (∀ m, Imm h (w2.drewN m)) := fun m => I2.out.drewN m
  have BEL : Hid (∀ m, Below w.heap.size w (w2.drewN m)) := fun m => B2.out.drewN m
  go_wp2_with fail
  go_loopw [6, 7, 8, 9, 10, 11, 19, 20, 21, 22, 23, 24, 25, 26, 27, 28, 29, 30, 31, 32, 33, 34, 35, 36, 37, 38, 39, 40, 41, 42, 43, 44, 45, 46, 47, 48, 49, 50, 51, 52, 53, 54, 55, 56, 57, 58, 59, 60, 61, 62, 63, 64, 65, 66, 67, 68, 69, 70, 71, 72, 73, 74, 75, 76, 77, 78, 79, 80, 81, 82, 83, 84, 85, 86, 87, 88, 89, 90, 91, 92, 93, 94, 95, 96, 97, 98, 99, 100, 101, 102, 103, 104, 105, 106, 107, 108, 109, 110, 111, 112, 113, 114, 115, 116, 117, 118, 119, 120, 121, 122, 123, 124, 125, 126, 127, 128, 129, 130, 131, 132, 133, 134, 135, 136, 137, 138, 139] (fun _ _ n i _ _ _ _ _ _ _ _ _ _ _ _ _ _ _ _ _ _ _ _ _ _ _ _ _ _ _ _ _ _ _ _ _ _ _ _ _ _ _ _ _ _ _ _ _ _ _ _ _ _ _ _ _ _ _ _ _ _ _ _ _ _ _ _ _ _ _ _ _ _ _ _ _ _ _ _ _ _ _ _ _ _ _ _ _ _ _ _ _ _ _ _ _ _ _ _ _ _ _ _ _ _ _ _ _ _ _ _ _ _ _ _ _ _ _ _ _ _ _ _ _ _ _ wr => ∃ (k m : Nat), k ≤ ps.length ∧ i = .int .i64 k ∧ n = .int .i64 ((x.length : Int) + y.length + wsum x y (ps.take k)) ∧ Hid (∀ j, j < k → rokP x y ps j) ∧ wr = w2.drewN m) (fun _ _ _ i _ _ _ _ _ _ _ _ _ _ _ _ _ _ _ _ _ _ _ _ _ _ _ _ _ _ _ _ _ _ _ _ _ _ _ _ _ _ _ _ _ _ _ _ _ _ _ _ _ _ _ _ _ _ _ _ _ _ _ _ _ _ _ _ _ _ _ _ _ _ _ _ _ _ _ _ _ _ _ _ _ _ _ _ _ _ _ _ _ _ _ _ _ _ _ _ _ _ _ _ _ _ _ _ _ _ _ _ _ _ _ _ _ _ _ _ _ _ _ _ _ _ _ _ => ps.length - (intOf i).toNat)
  case atStart => exact ⟨0, 0, Nat.zero_le _, rfl, by simp [wsum], fun j hj => by omega, rfl⟩
  case round =>
    obtain ⟨k, m, hkl0, rfl, rfl, AR, rfl⟩ := hrel
    by_cases hlt : k < ps.length
    · obtain ⟨ba, oa, rfl, -, hcc⟩ := HPO.out w2 I2.out (by omega)
      have HPC := Lib.hid hcc
      clear hcc
      have NR : Hid (¬ rokP x y ps k → priceP x y ps = none) := fun hn => by
        cases hc : priceP x y ps with
        | none => rfl
        | some c => exact absurd (price_rok (by rw [hc]; simp) k hlt) hn
      obtain ⟨c0, c1⟩ := HPC.out k hlt
      have gk : Hid (ps.getD k (0, 0) = ps[k]) := getD_of_lt _ _ _ hlt
      have RET : Hid (¬ rokP x y ps k → ∀ W, Below w.heap.size w W → PriceRes w (priceP x y ps) (.returned (.tuple #[.int .i64 0, .bool false])) W) := fun hn W hb => by rw [NR.out hn]; exact ⟨rfl, hb⟩
      have u1 : (0 : Int) ≤ (k : Int) := by omega
      have u2 : (k : Int) < (ps.length : Int) := by omega
      have RK : Hid (rokP x y ps k ↔ (0 ≤ ps[k].1 ∧ ps[k].1 < x.length ∧ 0 ≤ ps[k].2 ∧ ps[k].2 < y.length) ∧ (nd x ps[k].1).kind = (nd y ps[k].2).kind ∧ (0 < k → (ps.getD (k - 1) (0, 0)).1 < ps[k].1 ∧ (ps.getD (k - 1) (0, 0)).2 < ps[k].2) ∧ (k = 0 → ps[k].1 = 0 ∧ ps[k].2 = 0) ∧ (0 < k → partnerP ps (nd x ps[k].1).parent = (nd y ps[k].2).parent)) := by unfold Hid rokP; rw [gk.out]
      have HW : Hid (wsum x y (ps.take (k + 1)) = wsum x y (ps.take k) + (differP (nd x ps[k].1).text (nd y ps[k].2).text - 2)) := by
        unfold Hid; rw [List.take_add_one, List.getElem?_eq_getElem hlt, Option.toList_some, wsum_append, wsum_cons]; simp [wsum]
      have WB := wsum_ge x y (ps.take k)
      have hkl : ((ps.take k).length : Int) ≤ 140737488355328 := by rw [List.length_take]; omega
      generalize ps[k] = p at *
      by_cases h1 : p.1 < 0
      · have g1 : decide (p.1 < 0) = true := by simpa using h1
        go_wp2_with fail
        go_quiet (fail)
        go_wp2_with fail
        go_quiet (fail)
        go_wp2_with fail
        go_ret2
        exact RET.out (by rw [RK.out]; omega) _ (by first | exact BEL.out _ | exact (BEL.out _).drewN _ | exact ((BEL.out _).drewN _).drewN _ | exact (((BEL.out _).drewN _).drewN _).drewN _)
      have g1 : decide (p.1 < 0) = false := by simpa using h1
      by_cases h2 : (x.length : Int) ≤ p.1
      · have g2 : decide ((x.length : Int) ≤ p.1) = true := by simpa using h2
        go_wp2_with fail
        go_quiet (fail)
        go_wp2_with fail
        go_quiet (fail)
        go_wp2_with fail
        go_ret2
        exact RET.out (by rw [RK.out]; omega) _ (by first | exact BEL.out _ | exact (BEL.out _).drewN _ | exact ((BEL.out _).drewN _).drewN _ | exact (((BEL.out _).drewN _).drewN _).drewN _)
      have g2 : decide ((x.length : Int) ≤ p.1) = false := by simpa using h2
      by_cases h3 : p.2 < 0
      · have g3 : decide (p.2 < 0) = true := by simpa using h3
        go_wp2_with fail
        go_quiet (fail)
        go_wp2_with fail
        go_quiet (fail)
        go_wp2_with fail
        go_ret2
        exact RET.out (by rw [RK.out]; omega) _ (by first | exact BEL.out _ | exact (BEL.out _).drewN _ | exact ((BEL.out _).drewN _).drewN _ | exact (((BEL.out _).drewN _).drewN _).drewN _)
      have g3 : decide (p.2 < 0) = false := by simpa using h3
      by_cases h4 : (y.length : Int) ≤ p.2
      · have g4 : decide ((y.length : Int) ≤ p.2) = true := by simpa using h4
        go_wp2_with fail
        go_quiet (fail)
        go_wp2_with fail
        go_quiet (fail)
        go_wp2_with fail
        go_ret2
        exact RET.out (by rw [RK.out]; omega) _ (by first | exact BEL.out _ | exact (BEL.out _).drewN _ | exact ((BEL.out _).drewN _).drewN _ | exact (((BEL.out _).drewN _).drewN _).drewN _)
      have g4 : decide ((y.length : Int) ≤ p.2) = false := by simpa using h4
      obtain ⟨pa, qa, rfl⟩ : ∃ pa qa : Nat, p = ((pa : Int), (qa : Int)) := ⟨p.1.toNat, p.2.toNat, Prod.ext (by simp only; omega) (by simp only; omega)⟩
      simp only at *
      have hpa : pa < x.length := by omega
      have hqa : qa < y.length := by omega
      obtain ⟨xk, xt, xp, -, -⟩ := HXC.out pa hpa
      obtain ⟨yk, yt, yp, -, -⟩ := HYC.out qa hqa
      have ex : nd x (pa : Int) = x[pa] := nd_of (List.getElem?_eq_getElem hpa)
      have ey : nd y (qa : Int) = y[qa] := nd_of (List.getElem?_eq_getElem hqa)
      rw [ex, ey] at RK HW
      generalize x[pa] = nx at *
      generalize y[qa] = ny at *
      clear ex ey
      have g2' : decide (x.length ≤ pa) = false := by simp; omega
      have g4' : decide (y.length ≤ qa) = false := by simp; omega
      have v1 : (0 : Int) ≤ (pa : Int) := by omega
      have v2 : (pa : Int) < (x.length : Int) := by omega
      have v3 : (0 : Int) ≤ (qa : Int) := by omega
      have v4 : (qa : Int) < (y.length : Int) := by omega
      by_cases h5 : nx.kind = ny.kind
      case neg =>
        have g5 : (nx.kind != ny.kind) = true := ibneT h5
        go_wp2_with fail
        go_quiet (fail)
        go_wp2_with fail
        go_quiet (fail)
        go_wp2_with fail
        go_ret2
        exact RET.out (by rw [RK.out]; exact fun q => h5 q.2.1) _ (by first | exact BEL.out _ | exact (BEL.out _).drewN _ | exact ((BEL.out _).drewN _).drewN _ | exact (((BEL.out _).drewN _).drewN _).drewN _)
      have g5 : (nx.kind != ny.kind) = false := ibneF h5
      have H5 := Lib.hid h5
      clear h5
      by_cases h6 : 0 < k
      · have g6 : decide (0 < k) = true := by simpa using h6
        have g6' : decide ((0 : Int) < (k : Int)) = true := by simp; omega
        obtain ⟨d0, d1⟩ := HPC.out (k - 1) (by omega)
        have gk1 : ps.getD (k - 1) (0, 0) = ps[k - 1] := getD_of_lt _ _ _ (by omega)
        rw [gk1] at RK
        clear gk1
        generalize ps[k - 1] = z at *
        obtain ⟨k1, rfl⟩ : ∃ k1, k = k1 + 1 := ⟨k - 1, by omega⟩
        simp only [Nat.add_sub_cancel] at d0 d1
        have W1 : Hid (IntKind.i64.wrap (k1 : Int) = (k1 : Int)) := w64 (by omega)
        have u3 : (0 : Int) ≤ (k1 : Int) := by omega
        have u4 : (k1 : Int) < (ps.length : Int) := by omega
        have g0 : (((k1 + 1 : Nat) : Int) == 0) = false := by simp; omega
        have g0' : ((k1 : Int) + 1 == 0) = false := by simp; omega
        by_cases h7 : (pa : Int) ≤ z.1
        · have g7 : decide ((pa : Int) ≤ z.1) = true := by simpa using h7
          have w1 := W1.out
          go_wp2_with fail
          go_quiet (fail)
          go_wp2_with fail
          go_quiet (fail)
          go_wp2_with fail
          go_ret2
          clear w1
          exact RET.out (by rw [RK.out]; intro q; have := q.2.2.1 (by omega); omega) _ (by first | exact BEL.out _ | exact (BEL.out _).drewN _ | exact ((BEL.out _).drewN _).drewN _ | exact (((BEL.out _).drewN _).drewN _).drewN _)
        have g7 : decide ((pa : Int) ≤ z.1) = false := by simpa using h7
        by_cases h8 : (qa : Int) ≤ z.2
        · have g8 : decide ((qa : Int) ≤ z.2) = true := by simpa using h8
          have w1 := W1.out
          go_wp2_with fail
          go_quiet (fail)
          go_wp2_with fail
          go_quiet (fail)
          go_wp2_with fail
          go_ret2
          clear w1
          exact RET.out (by rw [RK.out]; intro q; have := q.2.2.1 (by omega); omega) _ (by first | exact BEL.out _ | exact (BEL.out _).drewN _ | exact ((BEL.out _).drewN _).drewN _ | exact (((BEL.out _).drewN _).drewN _).drewN _)
        have g8 : decide ((qa : Int) ≤ z.2) = false := by simpa using h8
        by_cases h9 : partnerP ps nx.parent = ny.parent
        case neg =>
          have g9 : (partnerP ps nx.parent != ny.parent) = true := ibneT h9
          have w1 := W1.out
          go_wp2_with fail
          go_quiet (fail)
          go_wp2_with fail
          go_quiet (fail)
          go_wp2_with fail
          go_quiet (first | (go_at_call 58; exact quiet_left' (partner_any h _ (by first | exact IM.out _ | exact (IM.out _).drewN _ | exact ((IM.out _).drewN _).drewN _ | exact (((IM.out _).drewN _).drewN _).drewN _) _ ps _ HP.out)) | (go_at_call 58; exact quiet_addl (partner_any h _ (by first | exact IM.out _ | exact (IM.out _).drewN _ | exact ((IM.out _).drewN _).drewN _ | exact (((IM.out _).drewN _).drewN _).drewN _) _ ps _ HP.out)))
          go_wp2_with fail
          go_ret2
          clear w1
          exact RET.out (by rw [RK.out]; intro q; exact h9 (q.2.2.2.2 (by omega))) _ (by first | exact BEL.out _ | exact (BEL.out _).drewN _ | exact ((BEL.out _).drewN _).drewN _ | exact (((BEL.out _).drewN _).drewN _).drewN _)
        have g9 : (partnerP ps nx.parent != ny.parent) = false := ibneF h9
        have OK : Hid (rokP x y ps (k1 + 1)) := by unfold Hid; rw [RK.out]; exact ⟨⟨by omega, by omega, by omega, by omega⟩, H5.out, fun _ => ⟨by omega, by omega⟩, fun e => by omega, fun _ => h9⟩
        clear h9
        have NX : Hid (∀ (z : Int) (W : World), z = (x.length : Int) + y.length + wsum x y (ps.take (k1 + 1)) + (differP nx.text ny.text - 2) → (∃ m', W = w2.drewN m') → ∃ (k' m' : Nat), k' ≤ ps.length ∧ Value.int .i64 (((k1 + 1 : Nat) : Int) + 1) = .int .i64 k' ∧ Value.int .i64 z = .int .i64 ((x.length : Int) + y.length + wsum x y (ps.take k')) ∧ Hid (∀ j, j < k' → rokP x y ps j) ∧ W = w2.drewN m') := fun z W hz ⟨m', hm'⟩ => by
          refine ⟨k1 + 1 + 1, m', by omega, by rw [show (((k1 + 1 : Nat) : Int) + 1) = ((k1 + 1 + 1 : Nat) : Int) by omega], by rw [hz, HW.out]; congr 1; omega, fun j hj => ?_, hm'⟩
          by_cases e : j = k1 + 1
          · subst e; exact OK.out
          · exact AR.out j (by omega)
        by_cases ht : nx.text = ny.text
        · have g10 : (nx.text.toList == ny.text.toList) = true := strT ht
          have g11 : (nx.text.toList != ny.text.toList) = false := by simp [ht]
          have DD : Hid (differP nx.text ny.text = 0) := by unfold Hid differP; rw [if_pos ht]
          clear ht
          have w1 := W1.out
          go_wp2_with fail
          go_quiet (fail)
          go_wp2_with fail
          go_quiet (fail)
          go_wp2_with fail
          go_quiet (first | (go_at_call 58; exact quiet_left' (partner_any h _ (by first | exact IM.out _ | exact (IM.out _).drewN _ | exact ((IM.out _).drewN _).drewN _ | exact (((IM.out _).drewN _).drewN _).drewN _) _ ps _ HP.out)) | (go_at_call 58; exact quiet_addl (partner_any h _ (by first | exact IM.out _ | exact (IM.out _).drewN _ | exact ((IM.out _).drewN _).drewN _ | exact (((IM.out _).drewN _).drewN _).drewN _) _ ps _ HP.out)))
          go_wp2_with fail
          go_quiet (fail)
          go_wp2_with fail
          go_roundw
          case rel => clear w1; exact NX.out _ _ (by rw [DD.out]; omega) (by first | exact ⟨_, rfl⟩ | exact ⟨_, by rw [World.drewN_drewN]⟩ | exact ⟨_, by rw [World.drewN_drewN, World.drewN_drewN]⟩ | exact ⟨_, by rw [World.drewN_drewN, World.drewN_drewN, World.drewN_drewN]⟩ | exact ⟨_, by rw [World.drewN_drewN, World.drewN_drewN, World.drewN_drewN, World.drewN_drewN]⟩)
          case measure => clear w1; simp [intOf]; omega
        · have g10 : (nx.text.toList == ny.text.toList) = false := strF ht
          have g11 : (nx.text.toList != ny.text.toList) = true := by rw [bne, g10]; rfl
          have DD : Hid (differP nx.text ny.text = 1) := by unfold Hid differP; rw [if_neg ht]
          clear ht
          have w1 := W1.out
          go_wp2_with fail
          go_quiet (fail)
          go_wp2_with fail
          go_quiet (fail)
          go_wp2_with fail
          go_quiet (first | (go_at_call 58; exact quiet_left' (partner_any h _ (by first | exact IM.out _ | exact (IM.out _).drewN _ | exact ((IM.out _).drewN _).drewN _ | exact (((IM.out _).drewN _).drewN _).drewN _) _ ps _ HP.out)) | (go_at_call 58; exact quiet_addl (partner_any h _ (by first | exact IM.out _ | exact (IM.out _).drewN _ | exact ((IM.out _).drewN _).drewN _ | exact (((IM.out _).drewN _).drewN _).drewN _) _ ps _ HP.out)))
          go_wp2_with fail
          go_quiet (fail)
          go_wp2_with fail
          go_roundw
          case rel => clear w1; exact NX.out _ _ (by rw [DD.out]; omega) (by first | exact ⟨_, rfl⟩ | exact ⟨_, by rw [World.drewN_drewN]⟩ | exact ⟨_, by rw [World.drewN_drewN, World.drewN_drewN]⟩ | exact ⟨_, by rw [World.drewN_drewN, World.drewN_drewN, World.drewN_drewN]⟩ | exact ⟨_, by rw [World.drewN_drewN, World.drewN_drewN, World.drewN_drewN, World.drewN_drewN]⟩)
          case measure => clear w1; simp [intOf]; omega
      · obtain rfl : k = 0 := by omega
        simp only [Nat.zero_mul, Nat.add_zero] at c0 c1
        have u0 : 0 < ps.length := hlt
        have u5 : (0 : Int) < (ps.length : Int) := by omega
        have wb1 : 0 ≤ wsum x y [] := by simp [wsum]
        have wb2 : wsum x y [] ≤ 0 := by simp [wsum]
        by_cases h7 : pa = 0
        case neg =>
          have g7 : ((pa : Int) != 0) = true := by simp; omega
          go_wp2_with fail
          go_quiet (fail)
          go_wp2_with fail
          go_quiet (fail)
          go_wp2_with fail
          go_quiet (fail)
          go_wp2_with fail
          go_ret2
          exact RET.out (by rw [RK.out]; intro q; have := q.2.2.2.1 (by simp); omega) _ (by first | exact BEL.out _ | exact (BEL.out _).drewN _ | exact ((BEL.out _).drewN _).drewN _ | exact (((BEL.out _).drewN _).drewN _).drewN _)
        have g7 : ((pa : Int) != 0) = false := by simp [h7]
        have H7 := Lib.hid h7
        clear h7
        by_cases h8 : qa = 0
        case neg =>
          have g8 : ((qa : Int) != 0) = true := by simp; omega
          go_wp2_with fail
          go_quiet (fail)
          go_wp2_with fail
          go_quiet (fail)
          go_wp2_with fail
          go_quiet (fail)
          go_wp2_with fail
          go_ret2
          exact RET.out (by rw [RK.out]; intro q; have := q.2.2.2.1 (by simp); omega) _ (by first | exact BEL.out _ | exact (BEL.out _).drewN _ | exact ((BEL.out _).drewN _).drewN _ | exact (((BEL.out _).drewN _).drewN _).drewN _)
        have g8 : ((qa : Int) != 0) = false := by simp [h8]
        have H8 := Lib.hid h8
        clear h8
        have OK : Hid (rokP x y ps 0) := by unfold Hid; rw [RK.out]; exact ⟨⟨by omega, by omega, by omega, by omega⟩, H5.out, fun e => by omega, fun _ => ⟨by rw [H7.out]; rfl, by rw [H8.out]; rfl⟩, fun e => by omega⟩
        have NX : Hid (∀ (z : Int) (W : World), z = (x.length : Int) + y.length + wsum x y (ps.take 0) + (differP nx.text ny.text - 2) → (∃ m', W = w2.drewN m') → ∃ (k' m' : Nat), k' ≤ ps.length ∧ Value.int .i64 1 = .int .i64 k' ∧ Value.int .i64 z = .int .i64 ((x.length : Int) + y.length + wsum x y (ps.take k')) ∧ Hid (∀ j, j < k' → rokP x y ps j) ∧ W = w2.drewN m') := fun z W hz ⟨m', hm'⟩ => by
          refine ⟨1, m', by omega, rfl, by rw [hz, HW.out]; congr 1; omega, fun j hj => ?_, hm'⟩
          obtain rfl : j = 0 := by omega
          exact OK.out
        by_cases ht : nx.text = ny.text
        · have g10 : (nx.text.toList == ny.text.toList) = true := strT ht
          have g11 : (nx.text.toList != ny.text.toList) = false := by simp [ht]
          have DD : Hid (differP nx.text ny.text = 0) := by unfold Hid differP; rw [if_pos ht]
          clear ht
          go_wp2_with fail
          go_quiet (fail)
          go_wp2_with fail
          go_quiet (fail)
          go_wp2_with fail
          go_quiet (fail)
          go_wp2_with fail
          go_quiet (fail)
          go_wp2_with fail
          go_roundw
          case rel => exact NX.out _ _ (by rw [DD.out]; have q0 : wsum x y (ps.take 0) = 0 := (by simp [wsum]); have q1 : wsum x y [] = 0 := (by simp [wsum]); omega) (by first | exact ⟨_, rfl⟩ | exact ⟨_, by rw [World.drewN_drewN]⟩ | exact ⟨_, by rw [World.drewN_drewN, World.drewN_drewN]⟩ | exact ⟨_, by rw [World.drewN_drewN, World.drewN_drewN, World.drewN_drewN]⟩ | exact ⟨_, by rw [World.drewN_drewN, World.drewN_drewN, World.drewN_drewN, World.drewN_drewN]⟩)
          case measure => simp [intOf]; omega
        · have g10 : (nx.text.toList == ny.text.toList) = false := strF ht
          have g11 : (nx.text.toList != ny.text.toList) = true := by rw [bne, g10]; rfl
          have DD : Hid (differP nx.text ny.text = 1) := by unfold Hid differP; rw [if_neg ht]
          clear ht
          go_wp2_with fail
          go_quiet (fail)
          go_wp2_with fail
          go_quiet (fail)
          go_wp2_with fail
          go_quiet (fail)
          go_wp2_with fail
          go_quiet (fail)
          go_wp2_with fail
          go_roundw
          case rel => exact NX.out _ _ (by rw [DD.out]; have q0 : wsum x y (ps.take 0) = 0 := (by simp [wsum]); have q1 : wsum x y [] = 0 := (by simp [wsum]); omega) (by first | exact ⟨_, rfl⟩ | exact ⟨_, by rw [World.drewN_drewN]⟩ | exact ⟨_, by rw [World.drewN_drewN, World.drewN_drewN]⟩ | exact ⟨_, by rw [World.drewN_drewN, World.drewN_drewN, World.drewN_drewN]⟩ | exact ⟨_, by rw [World.drewN_drewN, World.drewN_drewN, World.drewN_drewN, World.drewN_drewN]⟩)
          case measure => simp [intOf]; omega
    · obtain rfl : k = ps.length := by omega
      have FR : Hid (PriceRes w (priceP x y ps) (.returned (.tuple #[.int .i64 ((x.length : Int) + y.length + wsum x y (ps.take ps.length)), .bool true])) (w2.drewN m)) := by
        unfold Hid
        rw [rok_price PX.out PY.out AR.out, List.take_length]
        exact ⟨rfl, BEL.out m⟩
      go_wp2_with fail
      go_ret2
      exact FR.out
end Go.Proofs.Ytfifbadepebpeaa
