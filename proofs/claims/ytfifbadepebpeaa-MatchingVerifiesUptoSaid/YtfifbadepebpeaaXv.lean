/- The reference's Verify of an alignment. -/
import Derived.Test.YtfifbadepebpeaaWt
import Derived.Test.YtfifbadepebpeaaXc
namespace Go.Proofs.Ytfifbadepebpeaa
open Go.RowKit

theorem within_at {lo hi : Int} {l : List Int} (h : withinB lo hi l = true) (j : Nat) (hj : j < l.length) : lo ≤ l[j] ∧ l[j] ≤ hi := by
  exact (withinB_iff _ _ _).1 h l[j] (List.getElem_mem hj)
theorem within_snoc (lo hi : Int) (l : List Int) (j : Nat) (hj : j < l.length) (h : withinB lo hi (l.take j) = true) (h1 : lo ≤ l[j]) (h2 : l[j] ≤ hi) : withinB lo hi (l.take (j + 1)) = true := withinB_take lo hi l j hj h1 h2 h

set_option maxRecDepth 100000 in
set_option maxHeartbeats 8000000 in
theorem r17verify_any (h : Hp) (w : World) (hi : Imm h w) (vd va vc vx : Value) (drop add : List Int) (cost : List (List Int)) (x : AlignP) (hd : Ints h vd drop) (ha : Ints h va add) (hc : Rws h vc cost) (hx : AlignV h vx x) :
    Calls Try.prog 44 #[vd, va, vc, vx] w (VerRes w (decide (SVer drop add cost x))) := by
  obtain ⟨cs, rfl, ap, cp, ar, cr, rfl, i1, hp, hr⟩ := hx
  have HI := Lib.hid hi
  have Hd := Lib.hid hd
  have Ha := Lib.hid ha
  have Hc := Lib.hid hc
  have Hp' := Lib.hid hp
  have Hr := Lib.hid hr
  obtain ⟨ad, cd, rfl, hdn, hdc⟩ := hd.open
  obtain ⟨aa, ca, rfl, han, hac⟩ := ha.open
  obtain ⟨ac, cc, rfl, hcn, -⟩ := hc.open
  obtain ⟨ar', cr', he, hrn, -⟩ := hr.open
  simp only [Value.slice.injEq, true_and] at he
  obtain ⟨rfl, rfl⟩ := he
  have HD := Lib.hid (fun w' hi => hdc w' hi)
  have HA := Lib.hid (fun w' hi => hac w' hi)
  clear hd ha hc hp hr hdc hac hi
  generalize hsc : scostP drop add cost x.pairs = sc
  have HSC := Lib.hid hsc
  clear hsc
  go_enter Try.func44, Try.ntmps44
  go_upto_region 1 with fail
  have S0 : Hid (Below w.heap.size w (w.alloc (Obj.cells #[.slice ap x.pairs.length cp, .int .i64 x.cost, .slice ar x.pot.length cr] 43))) := (Below.refl _ _).alloc (Nat.le_refl _) _
  go_wp2_with fail
  refine (r17cost_any h _ (HI.out.alloc _) _ _ _ _ drop add cost x.pairs Hd.out Ha.out Hc.out Hp'.out).mono ?_
  rintro e w1 ⟨rfl, hb1⟩
  rw [HSC.out]
  have z1 : w.heap.size < w1.heap.size := by have := hb1.size; simp at this; omega
  have hbx : Hid (∀ W, Below w1.heap.size w1 W → W.cell? ⟨w.heap.size, 1, none⟩ = some (.int .i64 x.cost) ∧ W.cell? ⟨w.heap.size, 2, none⟩ = some (.slice ar x.pot.length cr)) := fun W hW => by
    rw [hW.cell z1, hW.cell z1, hb1.cell (by simp), hb1.cell (by simp), World.cell?_alloc_at _ _ _ _ rfl, World.cell?_alloc_at _ _ _ _ rfl]
    exact ⟨rfl, rfl⟩
  have B1 : Hid (Below w.heap.size w w1) := S0.out.trans (hb1.mono (by simp))
  obtain ⟨k1, k2⟩ := hbx.out w1 (Below.refl _ _)
  have I1 := Lib.hid (HI.out.below B1.out)
  clear hb1
  cases sc with
  | none =>
    simp only [Option.getD_none, Option.isSome_none]
    go_wp2_with fail
    go_ret
    exact ⟨by rw [decide_eq_false (p := SVer drop add cost x) (fun hs => by have := hs.1; rw [HSC.out] at this; cases this)]; rfl, B1.out⟩
  | some c =>
  simp only [Option.getD_some, Option.isSome_some]
  by_cases hcx : c = x.cost
  case neg =>
    have g1 := ibneT hcx
    have HN : Hid (c ≠ x.cost) := hcx
    clear hcx
    go_wp2_with fail
    go_ret
    exact ⟨by rw [decide_eq_false (p := SVer drop add cost x) (fun hs => by have := hs.1; rw [HSC.out] at this; exact HN.out (Option.some.inj this))]; rfl, B1.out⟩
  subst hcx
  have g1 : (x.cost != x.cost) = false := by simp
  have PR : Hid (Prop17 drop add cost) := by
    have := HSC.out
    unfold scostP at this
    split at this
    · rename_i hh; exact properB_iff.1 hh
    · cases this
  have hdl := PR.out.dl
  have hal := PR.out.al
  by_cases hpl : x.pot.length = drop.length + 1
  case neg =>
    have g2 : ((x.pot.length : Int) != (drop.length : Int) + 1) = true := by rw [bne_iff_ne]; omega
    have HN : Hid (x.pot.length ≠ drop.length + 1) := hpl
    clear hpl
    go_wp2_with fail
    go_ret
    exact ⟨by rw [decide_eq_false (p := SVer drop add cost x) (fun hs => HN.out hs.2.1)]; rfl, B1.out⟩
  have g2 : ((x.pot.length : Int) != (drop.length : Int) + 1) = false := by rw [bne_eq_false_iff_eq]; omega
  have HPL := Lib.hid hpl
  have hpp : 0 < x.pot.length := by omega
  have hpx : x.pot.length ≤ 401 := by omega
  clear hpl
  obtain ⟨ar', cr', he, -, hrc⟩ := Hr.out.openI
  simp only [Value.slice.injEq, true_and] at he
  obtain ⟨rfl, rfl⟩ := he
  obtain ⟨bo, oo, rfl, hrc2⟩ := hrc hpp
  have HRC := Lib.hid (fun w' hi => hrc2 w' hi)
  clear hrc hrc2
  have q2 : (drop.length : Int) < (x.pot.length : Int) := by have := HPL.out; omega
  go_wp2_with fail
  clear g1 g2
  go_loop [8, 13, 14, 46, 47, 48, 49, 50, 51, 52, 53, 54, 55, 56, 57, 58, 59, 60, 61, 62, 63, 64, 65, 66, 67, 68, 69, 70, 71, 72, 73, 74, 75, 76, 77, 78, 79, 80, 81, 82, 83, 84] (fun _ i _ _ _ _ _ _ _ _ _ _ _ _ _ _ _ _ _ _ _ _ _ _ _ _ _ _ _ _ _ _ _ _ _ _ _ _ _ _ _ _ => ∃ k : Nat, k ≤ x.pot.length ∧ i = .int .i64 k ∧ Hid (∀ r ∈ x.pot.take k, rowOk (add.length + 1) r)) (fun _ i _ _ _ _ _ _ _ _ _ _ _ _ _ _ _ _ _ _ _ _ _ _ _ _ _ _ _ _ _ _ _ _ _ _ _ _ _ _ _ _ => x.pot.length - (intOf i).toNat)
  case atStart => exact ⟨0, Nat.zero_le _, rfl, fun r hr => by simp at hr⟩
  case round =>
    obtain ⟨k, hk, rfl, hw⟩ := hrel
    by_cases hlt : k < x.pot.length
    · as_aux_lemma =>
      obtain ⟨hbo, hcell⟩ := HRC.out w1 I1.out
      obtain ⟨aw, cw, e0, hrow⟩ := hcell k hlt
      have hrl := hrow.1.len.1
      have Hrow := Lib.hid hrow
      have H1 := Lib.hid (fun hh => rowOk_take (add.length + 1) x.pot k hlt hh hw.out)
      have H2 : Hid (x.pot[k] ∈ x.pot) := by unfold Hid; simp
      have u0 : (0 : Int) ≤ (k : Int) := by omega
      have u1 : (k : Int) < (x.pot.length : Int) := by omega
      have u2 : (k : Int) ≤ (drop.length : Int) := by have := HPL.out; omega
      clear hcell hrow
      generalize x.pot[k] = r at *
      have HBAD : Hid (¬ rowOk (add.length + 1) r → decide (SVer drop add cost x) = false) := fun hn => by rw [decide_eq_false]; intro hs; exact hn (hs.2.2.1 r H2.out)
      by_cases h4 : r.length = add.length + 1
      · have g4 : ((r.length : Int) != (add.length : Int) + 1) = false := by rw [bne_eq_false_iff_eq]; omega
        have H4 := Lib.hid h4
        have hlr : (add.length : Int) < (r.length : Int) := by omega
        clear h4
        go_wp2_with fail
        go_loop [8, 14, 60, 61, 62, 63, 64, 65, 66, 67, 68, 69, 70, 71, 72, 73, 74, 75, 76, 77, 78, 79, 80, 81, 82, 83, 84] (fun _ q _ _ _ _ _ _ _ _ _ _ _ _ _ _ _ _ _ _ _ _ _ _ _ _ _ => ∃ j : Nat, j ≤ r.length ∧ q = .int .i64 j ∧ Hid (withinB 0 1099511627776 (r.take j) = true)) (fun _ q _ _ _ _ _ _ _ _ _ _ _ _ _ _ _ _ _ _ _ _ _ _ _ _ _ => r.length - (intOf q).toNat)
        case atStart => exact ⟨0, Nat.zero_le _, rfl, by unfold Hid; simp [withinB]⟩
        case round =>
          obtain ⟨j, hj, rfl, hwi⟩ := hrel
          by_cases hltj : j < r.length
          · obtain ⟨ai, ci, he, -, hcc⟩ := Hrow.out.open
            simp only [Value.slice.injEq, true_and] at he
            obtain ⟨rfl, rfl⟩ := he
            obtain ⟨bi, oi, rfl, hbi, hcc⟩ := hcc w1 I1.out (by omega)
            have e1 := hcc j hltj
            have HS := Lib.hid (within_snoc 0 1099511627776 r j hltj)
            have HAL : Hid (withinB 0 1099511627776 r = true → 0 ≤ r[j] ∧ r[j] ≤ 1099511627776) := fun hh => within_at hh j hltj
            generalize r[j] = z at *
            have u3 : (0 : Int) ≤ (j : Int) := by omega
            have u4 : (j : Int) < (r.length : Int) := by omega
            have u5 : (j : Int) ≤ (add.length : Int) := by have := H4.out; omega
            clear hcc
            by_cases h5 : z < 0
            · go_wp2_with fail
              go_ret
              exact ⟨by rw [HBAD.out (fun hh => by have := HAL.out hh.2; omega)]; rfl, B1.out⟩
            have g5 : decide (z < 0) = false := by simpa using h5
            by_cases h6 : 1099511627776 < z
            · go_wp2_with fail
              go_ret
              exact ⟨by rw [HBAD.out (fun hh => by have := HAL.out hh.2; omega)]; rfl, B1.out⟩
            have g6 : decide (1099511627776 < z) = false := by simpa using h6
            have HN : Hid (withinB 0 1099511627776 (r.take (j + 1)) = true) := HS.out hwi.out (by omega) (by omega)
            go_wp2_with fail
            go_round
            case rel => exact ⟨j + 1, by omega, by go_num, HN⟩
            case measure => simp [intOf]; omega
          · have HW : Hid (withinB 0 1099511627776 r = true) := by
              have := hwi.out
              unfold Hid
              rwa [List.take_of_length_le (by omega)] at this
            obtain rfl : j = r.length := by omega
            go_wp2_with fail
            go_round
            case rel => exact ⟨k + 1, by omega, by go_num, H1.out ⟨H4.out, HW.out⟩⟩
            case measure => simp [intOf]; omega
      · have g4 : ((r.length : Int) != (add.length : Int) + 1) = true := by rw [bne_iff_ne]; omega
        have HN : Hid (r.length ≠ add.length + 1) := h4
        clear h4
        go_wp2_with fail
        go_ret
        exact ⟨by rw [HBAD.out (fun hh => HN.out hh.1)]; rfl, B1.out⟩
    · as_aux_lemma =>
      have ROW : Hid (∀ r ∈ x.pot, rowOk (add.length + 1) r) := by
        have := hw.out
        unfold Hid
        rwa [List.take_of_length_le (by omega)] at this
      obtain ⟨b2, o2, c2, he, hpc⟩ := rws_cells Hr.out hpp (fun r hr => (ROW.out r hr).1) (by omega)
      simp only [Value.slice.injEq, Option.some.injEq, Addr.mk.injEq, and_true, true_and] at he
      obtain ⟨⟨rfl, rfl⟩, rfl⟩ := he
      have PC := Lib.hid (fun w' hi => hpc w' hi)
      have PB := Lib.hid (cg_within ROW.out)
      clear hpc hw
      obtain ⟨hbo, hcell⟩ := PC.out w1 I1.out
      obtain ⟨ba, oa, ca', e0, hba, e1⟩ := hcell 0 hpp
      obtain ⟨bb, ob, cb', f0, hbb, f1⟩ := hcell drop.length (by rw [HPL.out]; omega)
      have e2 := e1 0 (by omega)
      have f2 := f1 add.length (by omega)
      simp only [Nat.add_zero] at e0 e2
      clear hcell e1 f1
      have q1 : (0 : Int) < (x.pot.length : Int) := by omega
      have q3 : (add.length : Int) < (add.length : Int) + 1 := by omega
      have q4 : (0 : Int) < (add.length : Int) + 1 := by omega
      have q5 : (0 : Int) ≤ (drop.length : Int) := by omega
      have q6 : (0 : Int) ≤ (add.length : Int) := by omega
      by_cases h5 : cg x.pot 0 0 = 0
      case neg =>
        have g5 := ibneT h5
        have HN : Hid (cg x.pot 0 0 ≠ 0) := h5
        clear h5
        go_wp2_with fail
        go_quiet (fail)
        go_wp2_with fail
        go_ret
        exact ⟨by rw [decide_eq_false (p := SVer drop add cost x) (fun hs => HN.out hs.2.2.2.1)]; rfl, B1.out.drewN _⟩
      have g5 := ibneF h5
      have H5 := Lib.hid h5
      clear h5
      by_cases h6 : cg x.pot drop.length add.length = x.cost
      case neg =>
        have g6 := ibneT h6
        have HN : Hid (cg x.pot drop.length add.length ≠ x.cost) := h6
        clear h6
        go_wp2_with fail
        go_quiet (fail)
        go_wp2_with fail
        go_ret
        exact ⟨by rw [decide_eq_false (p := SVer drop add cost x) (fun hs => HN.out hs.2.2.2.2.1)]; rfl, B1.out.drewN _⟩
      have g6 := ibneF h6
      have H6 := Lib.hid h6
      clear h6
      go_wp2_with fail
      go_quiet (fail)
      go_wp2_with fail
      clear g5 g6 e0 e2 f0 f2 q1 q2 q3 q4
      have HBAD : Hid (∀ i j, i ≤ drop.length → j ≤ add.length → ¬ edgeP drop add cost x.pot i j → decide (SVer drop add cost x) = false) := fun i j h1 h2 hn => by
        rw [decide_eq_false]; intro hs; exact hn (hs.2.2.2.2.2 i (by omega) j (by omega))
      have Z1 := Lib.hid z1
      go_loopw [8, 15, 16, 105, 106, 107, 108, 109, 110, 111, 112, 113, 114, 115, 116, 117, 118, 119, 120, 121, 122, 123, 124, 125, 126, 127, 128, 129, 130, 131, 132, 133, 134, 135, 136, 137, 138, 139, 140, 141, 142, 143, 144, 145, 146, 147, 148, 149, 150, 151, 152, 153, 154, 155, 156, 157, 158, 159, 160, 161, 162, 163, 164, 165, 166, 167, 168, 169, 170, 171, 172, 173, 174, 175, 176, 177, 178, 179, 180, 181, 182, 183, 184, 185, 186, 187, 188, 189, 190, 191, 192, 193, 194, 195, 196, 197, 198, 199, 200, 201, 202, 203, 204, 205, 206, 207, 208, 209, 210, 211, 212, 213, 214, 215, 216, 217, 218, 219] (fun _ i _ _ _ _ _ _ _ _ _ _ _ _ _ _ _ _ _ _ _ _ _ _ _ _ _ _ _ _ _ _ _ _ _ _ _ _ _ _ _ _ _ _ _ _ _ _ _ _ _ _ _ _ _ _ _ _ _ _ _ _ _ _ _ _ _ _ _ _ _ _ _ _ _ _ _ _ _ _ _ _ _ _ _ _ _ _ _ _ _ _ _ _ _ _ _ _ _ _ _ _ _ _ _ _ _ _ _ _ _ _ _ _ _ _ _ _ wr => ∃ i' : Nat, i' ≤ drop.length + 1 ∧ i = .int .i64 i' ∧ Below w1.heap.size w1 wr ∧ Hid (∀ i, i < i' → ∀ j, j < add.length + 1 → edgeP drop add cost x.pot i j)) (fun _ i _ _ _ _ _ _ _ _ _ _ _ _ _ _ _ _ _ _ _ _ _ _ _ _ _ _ _ _ _ _ _ _ _ _ _ _ _ _ _ _ _ _ _ _ _ _ _ _ _ _ _ _ _ _ _ _ _ _ _ _ _ _ _ _ _ _ _ _ _ _ _ _ _ _ _ _ _ _ _ _ _ _ _ _ _ _ _ _ _ _ _ _ _ _ _ _ _ _ _ _ _ _ _ _ _ _ _ _ _ _ _ _ _ _ _ _ _ => drop.length + 1 - (intOf i).toNat)
      case atStart => exact ⟨0, Nat.zero_le _, rfl, (Below.refl _ _).drewN _, fun i hi => by omega⟩
      case round =>
        obtain ⟨wo, rfl⟩ : ∃ wo : World, wo = wr := ⟨_, rfl⟩
        obtain ⟨i, hi, rfl, hB, HE⟩ := hrel
        by_cases hlt : i < drop.length + 1
        · have hltI : (i : Int) ≤ (drop.length : Int) := by omega
          go_wp2_with fail
          go_loopw [8, 16, 110, 111, 112, 113, 114, 115, 116, 117, 118, 119, 120, 121, 122, 123, 124, 125, 126, 127, 128, 129, 130, 131, 132, 133, 134, 135, 136, 137, 138, 139, 140, 141, 142, 143, 144, 145, 146, 147, 148, 149, 150, 151, 152, 153, 154, 155, 156, 157, 158, 159, 160, 161, 162, 163, 164, 165, 166, 167, 168, 169, 170, 171, 172, 173, 174, 175, 176, 177, 178, 179, 180, 181, 182, 183, 184, 185, 186, 187, 188, 189, 190, 191, 192, 193, 194, 195, 196, 197, 198, 199, 200, 201, 202, 203, 204, 205, 206, 207, 208, 209, 210, 211, 212, 213, 214, 215, 216, 217, 218, 219] (fun _ q _ _ _ _ _ _ _ _ _ _ _ _ _ _ _ _ _ _ _ _ _ _ _ _ _ _ _ _ _ _ _ _ _ _ _ _ _ _ _ _ _ _ _ _ _ _ _ _ _ _ _ _ _ _ _ _ _ _ _ _ _ _ _ _ _ _ _ _ _ _ _ _ _ _ _ _ _ _ _ _ _ _ _ _ _ _ _ _ _ _ _ _ _ _ _ _ _ _ _ _ _ _ _ _ _ _ _ _ _ _ wr => ∃ j' : Nat, j' ≤ add.length + 1 ∧ q = .int .i64 j' ∧ Below w1.heap.size w1 wr ∧ Hid (∀ j, j < j' → edgeP drop add cost x.pot i j)) (fun _ q _ _ _ _ _ _ _ _ _ _ _ _ _ _ _ _ _ _ _ _ _ _ _ _ _ _ _ _ _ _ _ _ _ _ _ _ _ _ _ _ _ _ _ _ _ _ _ _ _ _ _ _ _ _ _ _ _ _ _ _ _ _ _ _ _ _ _ _ _ _ _ _ _ _ _ _ _ _ _ _ _ _ _ _ _ _ _ _ _ _ _ _ _ _ _ _ _ _ _ _ _ _ _ _ _ _ _ _ _ _ _ => add.length + 1 - (intOf q).toNat)
          case atStart => exact ⟨0, Nat.zero_le _, rfl, hB, fun j hj => by omega⟩
          case round =>
            obtain ⟨j, hj, rfl, hB2, HE2⟩ := hrel
            by_cases hltj : j < add.length + 1
            · have hltJ : (j : Int) ≤ (add.length : Int) := by omega
              have IW := Lib.hid (I1.out.below hB2)
              obtain ⟨n1, n2⟩ := hbx.out wr hB2
              obtain ⟨hbo3, hcell⟩ := PC.out wr IW.out
              obtain ⟨ba, oa, ca', e0, hba, e1⟩ := hcell i (by rw [HPL.out]; omega)
              have eij := e1 j (by omega)
              have pb := PB.out i j
              have hz1 : w.heap.size < wr.heap.size := by have := hB2.size; omega
              have ri0 : (0 : Int) ≤ (i : Int) := by omega
              have ri1 : (i : Int) < (x.pot.length : Int) := by have := HPL.out; omega
              have rj0 : (0 : Int) ≤ (j : Int) := by omega
              have BADE : Hid (¬ edgeP drop add cost x.pot i j → decide (SVer drop add cost x) = false) := fun hn => HBAD.out i j (by omega) (by omega) hn
              have E1 := Lib.hid e1
              have HCELL := Lib.hid hcell
              clear e1 hcell
              obtain ⟨p00, hp00⟩ : ∃ p, p = cg x.pot i j := ⟨_, rfl⟩
              rw [← hp00] at eij pb
              have HP00 := Lib.hid hp00
              have BW : Hid (Below w.heap.size w wr) := B1.out.trans (hB2.mono (Nat.le_of_lt z1))
              clear hp00
              by_cases hi1 : i < drop.length
              · as_aux_lemma =>
                obtain ⟨bb, ob, cb', f0, hbb, f1⟩ := HCELL.out (i + 1) (by rw [HPL.out]; omega)
                have f10 := f1 j (by omega)
                have pb10 := PB.out (i + 1) j
                have F1 := Lib.hid f1
                obtain ⟨bd, od, rfl, hbd, hdc⟩ := HD.out wr IW.out (by omega)
                have d0 := hdc i hi1
                have db := PR.out.d drop[i] (by simp)
                have hdg : Hid (drop.getD i 0 = drop[i]) := getD_of_lt _ _ _ _
                have r1 : IntKind.i64.wrap ((i : Int) + 1) = (i : Int) + 1 := w64 (by omega)
                have r2 : (0 : Int) ≤ (i : Int) + 1 := by omega
                have r3 : (i : Int) + 1 < (x.pot.length : Int) := by have := HPL.out; omega
                have r4 : ((i : Int) + 1).toNat = i + 1 := by omega
                have r6 : (i : Int) < (drop.length : Int) := by omega
                generalize drop[i] = xd at *
                obtain ⟨p10, hp10⟩ : ∃ p, p = cg x.pot (i + 1) j := ⟨_, rfl⟩
                rw [← hp10] at f10 pb10
                have HP10 := Lib.hid hp10
                have w1' : IntKind.i64.wrap (p00 + xd) = p00 + xd := w64 (by omega)
                clear hdc f1 hp10
                by_cases t1 : p00 + xd < p10
                · have HN : Hid (¬ edgeP drop add cost x.pot i j) := fun hh => by have := hh.1 hi1; rw [← HP10.out, ← HP00.out, hdg.out] at this; omega
                  go_wp2_with fail
                  go_quiet (fail)
                  go_wp2_with fail
                  go_ret
                  refine ⟨by rw [BADE.out (fun hh => HN.out hh)]; rfl, ?_⟩
                  first | exact (BW.out).drewN _ | exact ((BW.out).drewN _).drewN _ | exact (((BW.out).drewN _).drewN _).drewN _
                · have g1 : decide (p00 + xd < p10) = false := by simpa using t1
                  have HT1 : Hid (i < drop.length → cg x.pot (i + 1) j ≤ cg x.pot i j + drop.getD i 0) := fun _ => by rw [← HP10.out, ← HP00.out, hdg.out]; omega
                  by_cases hj1 : j < add.length
                  · obtain ⟨bd2, od2, rfl, hbd2, hac⟩ := HA.out wr IW.out (by omega)
                    have a0 := hac j hj1
                    have ab := PR.out.a add[j] (by simp)
                    have hag : Hid (add.getD j 0 = add[j]) := getD_of_lt _ _ _ _
                    have f01 := E1.out (j + 1) (by omega)
                    have pb01 := PB.out i (j + 1)
                    have s1 : IntKind.i64.wrap ((j : Int) + 1) = (j : Int) + 1 := w64 (by omega)
                    have s2 : (0 : Int) ≤ (j : Int) + 1 := by omega
                    have s3 : (j : Int) + 1 < (add.length : Int) + 1 := by omega
                    have s4 : ((j : Int) + 1).toNat = j + 1 := by omega
                    have s6 : (j : Int) < (add.length : Int) := by omega
                    generalize add[j] = xa at *
                    obtain ⟨p01, hp01⟩ : ∃ p, p = cg x.pot i (j + 1) := ⟨_, rfl⟩
                    rw [← hp01] at f01 pb01
                    have HP01 := Lib.hid hp01
                    have w2 : IntKind.i64.wrap (p00 + xa) = p00 + xa := w64 (by omega)
                    clear hac hp01
                    by_cases t2 : p00 + xa < p01
                    · have HN : Hid (¬ edgeP drop add cost x.pot i j) := fun hh => by have := hh.2.1 hj1; rw [← HP01.out, ← HP00.out, hag.out] at this; omega
                      go_wp2_with fail
                      go_quiet (fail)
                      go_wp2_with fail
                      go_ret
                      refine ⟨by rw [BADE.out (fun hh => HN.out hh)]; rfl, ?_⟩
                      first | exact (BW.out).drewN _ | exact ((BW.out).drewN _).drewN _ | exact (((BW.out).drewN _).drewN _).drewN _
                    · have g2 : decide (p00 + xa < p01) = false := by simpa using t2
                      have HT2 : Hid (j < add.length → cg x.pot i (j + 1) ≤ cg x.pot i j + add.getD j 0) := fun _ => by rw [← HP01.out, ← HP00.out, hag.out]; omega
                      go_wp2_with fail
                      go_quiet (fail)
                      obtain ⟨b2, o2, c2, he, hcc⟩ := rws_cells Hc.out (by rw [PR.out.cl]; omega) (fun r hr => by obtain ⟨i', hi', rfl⟩ := List.mem_iff_getElem.1 hr; exact PR.out.rl i' hi') (by omega)
                      simp only [Value.slice.injEq, true_and] at he
                      obtain ⟨rfl, rfl⟩ := he
                      obtain ⟨hbc, hcc⟩ := hcc wr IW.out
                      obtain ⟨bc, oc, cc', k0, hbc2, k1'⟩ := hcc i (by rw [PR.out.cl]; omega)
                      have k3 := k1' j hj1
                      have f11 := F1.out (j + 1) (by omega)
                      have pb11 := PB.out (i + 1) (j + 1)
                      have cb : -1 ≤ cg cost i j ∧ cg cost i j ≤ 1048576 := by
                        have hcl := PR.out.cl
                        have hrl := PR.out.rl i (by omega)
                        have := PR.out.c i (by omega) ((cost[i]'(by omega))[j]'(by omega)) (by simp)
                        unfold cg
                        rw [getD_of_lt cost i _ (by omega), getD_of_lt _ j _ (by omega)]
                        exact this
                      have s5 : (i : Int) < (cost.length : Int) := by have := PR.out.cl; omega
                      clear hcc k1'
                      obtain ⟨p11, hp11⟩ : ∃ p, p = cg x.pot (i + 1) (j + 1) := ⟨_, rfl⟩
                      rw [← hp11] at f11 pb11
                      have HP11 := Lib.hid hp11
                      obtain ⟨c, hcc⟩ : ∃ p, p = cg cost i j := ⟨_, rfl⟩
                      rw [← hcc] at k3 cb
                      have HPC2 := Lib.hid hcc
                      clear hp11 hcc
                      have w3 : IntKind.i64.wrap (p00 + c) = p00 + c := w64 (by omega)
                      by_cases hc : 0 ≤ c
                      · by_cases t3 : p00 + c < p11
                        · have HN : Hid (¬ edgeP drop add cost x.pot i j) := fun hh => by have := hh.2.2 hi1 hj1; rw [← HP11.out, ← HP00.out, ← HPC2.out] at this; have := this hc; omega
                          go_wp2_with fail
                          go_quiet (fail)
                          go_wp2_with fail
                          go_ret
                          refine ⟨by rw [BADE.out (fun hh => HN.out hh)]; rfl, ?_⟩
                          first | exact (BW.out).drewN _ | exact ((BW.out).drewN _).drewN _ | exact (((BW.out).drewN _).drewN _).drewN _
                        · have g3 : decide (p00 + c < p11) = false := by simpa using t3
                          have HT3 : Hid (i < drop.length → j < add.length → 0 ≤ cg cost i j → cg x.pot (i + 1) (j + 1) ≤ cg x.pot i j + cg cost i j) := fun _ _ _ => by rw [← HP11.out, ← HP00.out, ← HPC2.out]; omega
                          go_wp2_with fail
                          go_quiet (fail)
                          clear r1 r4 w1' s1 s4 w2 w3
                          go_wp2_with fail
                          go_roundw
                          case rel =>
                            refine ⟨j + 1, by omega, by go_num, by first | exact hB2.drewN _ | exact (hB2.drewN _).drewN _ | exact ((hB2.drewN _).drewN _).drewN _, fun j' hj' => ?_⟩
                            by_cases hjj : j' = j
                            · subst hjj; exact ⟨HT1.out, HT2.out, HT3.out⟩
                            · exact HE2.out j' (by omega)
                          case measure => simp [intOf]; omega
                      · have gc : decide (0 ≤ c) = false := by simpa using hc
                        have HT3 : Hid (i < drop.length → j < add.length → 0 ≤ cg cost i j → cg x.pot (i + 1) (j + 1) ≤ cg x.pot i j + cg cost i j) := fun _ _ hh => by rw [← HPC2.out] at hh; exact absurd hh hc
                        go_wp2_with fail
                        go_quiet (fail)
                        clear r1 r4 w1' s1 s4 w2 w3
                        go_wp2_with fail
                        go_roundw
                        case rel =>
                          refine ⟨j + 1, by omega, by go_num, by first | exact hB2.drewN _ | exact (hB2.drewN _).drewN _ | exact ((hB2.drewN _).drewN _).drewN _, fun j' hj' => ?_⟩
                          by_cases hjj : j' = j
                          · subst hjj; exact ⟨HT1.out, HT2.out, HT3.out⟩
                          · exact HE2.out j' (by omega)
                        case measure => simp [intOf]; omega
                  · have gj : decide (j < add.length) = false := by simpa using hj1
                    have HT2 : Hid (j < add.length → cg x.pot i (j + 1) ≤ cg x.pot i j + add.getD j 0) := fun hh => absurd hh hj1
                    go_wp2_with fail
                    go_quiet (fail)
                    have HT3 : Hid (i < drop.length → j < add.length → 0 ≤ cg cost i j → cg x.pot (i + 1) (j + 1) ≤ cg x.pot i j + cg cost i j) := fun h1 h2 => absurd h2 hj1

                    go_wp2_with fail
                    go_quiet (fail)
                    clear r1 r4 w1'
                    go_wp2_with fail
                    go_roundw
                    case rel =>
                      refine ⟨j + 1, by omega, by go_num, by first | exact hB2.drewN _ | exact (hB2.drewN _).drewN _ | exact ((hB2.drewN _).drewN _).drewN _, fun j' hj' => ?_⟩
                      by_cases hjj : j' = j
                      · subst hjj; exact ⟨HT1.out, HT2.out, HT3.out⟩
                      · exact HE2.out j' (by omega)
                    case measure => simp [intOf]; omega
              · as_aux_lemma =>
                have gi : decide (i < drop.length) = false := by simpa using hi1
                have HT1 : Hid (i < drop.length → cg x.pot (i + 1) j ≤ cg x.pot i j + drop.getD i 0) := fun hh => absurd hh hi1
                by_cases hj1 : j < add.length
                · obtain ⟨bd2, od2, rfl, hbd2, hac⟩ := HA.out wr IW.out (by omega)
                  have a0 := hac j hj1
                  have ab := PR.out.a add[j] (by simp)
                  have hag : Hid (add.getD j 0 = add[j]) := getD_of_lt _ _ _ _
                  have f01 := E1.out (j + 1) (by omega)
                  have pb01 := PB.out i (j + 1)
                  have s1 : IntKind.i64.wrap ((j : Int) + 1) = (j : Int) + 1 := w64 (by omega)
                  have s2 : (0 : Int) ≤ (j : Int) + 1 := by omega
                  have s3 : (j : Int) + 1 < (add.length : Int) + 1 := by omega
                  have s4 : ((j : Int) + 1).toNat = j + 1 := by omega
                  have s6 : (j : Int) < (add.length : Int) := by omega
                  generalize add[j] = xa at *
                  obtain ⟨p01, hp01⟩ : ∃ p, p = cg x.pot i (j + 1) := ⟨_, rfl⟩
                  rw [← hp01] at f01 pb01
                  have HP01 := Lib.hid hp01
                  have w2 : IntKind.i64.wrap (p00 + xa) = p00 + xa := w64 (by omega)
                  clear hac hp01
                  by_cases t2 : p00 + xa < p01
                  · have HN : Hid (¬ edgeP drop add cost x.pot i j) := fun hh => by have := hh.2.1 hj1; rw [← HP01.out, ← HP00.out, hag.out] at this; omega
                    go_wp2_with fail
                    go_quiet (fail)
                    go_wp2_with fail
                    go_ret
                    refine ⟨by rw [BADE.out (fun hh => HN.out hh)]; rfl, ?_⟩
                    first | exact (BW.out).drewN _ | exact ((BW.out).drewN _).drewN _ | exact (((BW.out).drewN _).drewN _).drewN _
                  · have g2 : decide (p00 + xa < p01) = false := by simpa using t2
                    have HT2 : Hid (j < add.length → cg x.pot i (j + 1) ≤ cg x.pot i j + add.getD j 0) := fun _ => by rw [← HP01.out, ← HP00.out, hag.out]; omega
                    go_wp2_with fail
                    go_quiet (fail)
                    have HT3 : Hid (i < drop.length → j < add.length → 0 ≤ cg cost i j → cg x.pot (i + 1) (j + 1) ≤ cg x.pot i j + cg cost i j) := fun h1 h2 => absurd h1 hi1

                    go_wp2_with fail
                    go_quiet (fail)
                    clear s1 s4 w2
                    go_wp2_with fail
                    go_roundw
                    case rel =>
                      refine ⟨j + 1, by omega, by go_num, by first | exact hB2.drewN _ | exact (hB2.drewN _).drewN _ | exact ((hB2.drewN _).drewN _).drewN _, fun j' hj' => ?_⟩
                      by_cases hjj : j' = j
                      · subst hjj; exact ⟨HT1.out, HT2.out, HT3.out⟩
                      · exact HE2.out j' (by omega)
                    case measure => simp [intOf]; omega
                · have gj : decide (j < add.length) = false := by simpa using hj1
                  have HT2 : Hid (j < add.length → cg x.pot i (j + 1) ≤ cg x.pot i j + add.getD j 0) := fun hh => absurd hh hj1
                  go_wp2_with fail
                  go_quiet (fail)
                  have HT3 : Hid (i < drop.length → j < add.length → 0 ≤ cg cost i j → cg x.pot (i + 1) (j + 1) ≤ cg x.pot i j + cg cost i j) := fun h1 h2 => absurd h1 hi1

                  go_wp2_with fail
                  go_quiet (fail)
                  skip
                  go_wp2_with fail
                  go_roundw
                  case rel =>
                    refine ⟨j + 1, by omega, by go_num, by first | exact hB2.drewN _ | exact (hB2.drewN _).drewN _ | exact ((hB2.drewN _).drewN _).drewN _, fun j' hj' => ?_⟩
                    by_cases hjj : j' = j
                    · subst hjj; exact ⟨HT1.out, HT2.out, HT3.out⟩
                    · exact HE2.out j' (by omega)
                  case measure => simp [intOf]; omega
            · obtain rfl : j = add.length + 1 := by omega
              have hne : decide (add.length + 1 < add.length + 1) = false := by simp
              go_wp2_with fail
              go_roundw
              case rel =>
                refine ⟨i + 1, by omega, by go_num, hB2, fun i' hi' j hj => ?_⟩
                by_cases hii : i' = i
                · subst hii; exact HE2.out j hj
                · exact HE.out i' (by omega) j hj
              case measure => simp [intOf]; omega
        · obtain rfl : i = drop.length + 1 := by omega
          go_wp2_with fail
          go_ret
          exact ⟨by rw [decide_eq_true (p := SVer drop add cost x) ⟨HSC.out, HPL.out, ROW.out, H5.out, H6.out, HE.out⟩]; rfl, B1.out.trans (hB.mono (Nat.le_of_lt z1))⟩
end Go.Proofs.Ytfifbadepebpeaa
