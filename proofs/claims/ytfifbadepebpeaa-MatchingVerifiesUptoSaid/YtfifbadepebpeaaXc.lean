/- The reference's cost of an alignment. -/
import Derived.Test.YtfifbadepebpeaaWs
import Derived.Test.YtfifbadepebpeaaBg
namespace Go.Proofs.Ytfifbadepebpeaa
open Go.RowKit

set_option maxRecDepth 100000 in
set_option maxHeartbeats 8000000 in
theorem r17cost_any (h : Hp) (w : World) (hi : Imm h w) (vd va vc vp : Value) (drop add : List Int) (cost : List (List Int)) (pairs : List (Int × Int)) (hd : Ints h vd drop) (ha : Ints h va add) (hc : Rws h vc cost) (hp : Prs h vp pairs) :
    Calls Try.prog 62 #[vd, va, vc, vp] w (CostRes w (scostP drop add cost pairs)) := by
  have HI := Lib.hid hi
  have Hd := Lib.hid hd
  have Ha := Lib.hid ha
  have Hc := Lib.hid hc
  have HPR := Lib.hid hp.2
  obtain ⟨ad, cd, rfl, hdn, hdc⟩ := hd.open
  obtain ⟨aa, ca, rfl, han, hac⟩ := ha.open
  obtain ⟨ac, cc, rfl, hcn, hcc⟩ := hc.open
  obtain ⟨ap, cp, rfl, hpn, hpc⟩ := hp.open
  have HD := Lib.hid (fun w' hi => hdc w' hi)
  have HA := Lib.hid (fun w' hi => hac w' hi)
  have HC := Lib.hid (fun w' hi => hcc w' hi)
  have HPC := Lib.hid (fun w' hi => hpc w' hi)
  clear hd ha hc hp hdc hac hcc hpc hi
  generalize hpB : properB drop add cost = pB
  have HPB := Lib.hid hpB
  clear hpB
  go_enter Try.func62, Try.ntmps62
  go_wp2_with fail
  refine (rproper_any h _ HI.out _ _ _ drop add cost Hd.out Ha.out Hc.out).mono ?_
  rintro e w' ⟨rfl, rfl⟩
  rw [HPB.out]
  cases pB
  · go_wp2_with fail
    go_ret2
    have : scostP drop add cost pairs = none := by unfold scostP; rw [if_neg (by rw [HPB.out]; simp)]
    rw [this]
    exact ⟨rfl, Below.refl _ _⟩
  have PR := Lib.hid (properB_iff.1 HPB.out)
  have hdl := PR.out.dl
  have hal := PR.out.al
  have SBD := Lib.hid (take_sum_bd PR.out.d)
  have SBA := Lib.hid (take_sum_bd PR.out.a)
  go_wp2_with fail
  go_loop [10, 11, 21, 22, 23, 24, 25, 26, 27, 28, 29, 30, 31, 32] (fun c i _ _ _ _ _ _ _ _ _ _ _ _ => ∃ k : Nat, k ≤ drop.length ∧ i = .int .i64 k ∧ c = .int .i64 (drop.take k).sum) (fun _ i _ _ _ _ _ _ _ _ _ _ _ _ => drop.length - (intOf i).toNat)
  case atStart => exact ⟨0, Nat.zero_le _, rfl, rfl⟩
  case round =>
    obtain ⟨k, hk, rfl, rfl⟩ := hrel
    by_cases hlt : k < drop.length
    · obtain ⟨b, off, rfl, -, hc⟩ := HD.out w HI.out (by omega)
      have d0 := hc k hlt
      have b1 := SBD.out k
      have b2 := PR.out.d drop[k] (by simp)
      have hs := Lib.hid (take_sum drop k hlt)
      generalize drop[k] = z at *
      generalize (drop.take k).sum = t at *
      clear hc
      go_wp2_with fail
      go_round
      case rel => exact ⟨k + 1, by omega, by go_num, by rw [hs.out]⟩
      case measure => simp [intOf]; omega
    · obtain rfl : k = drop.length := by omega
      rw [List.take_length]
      have b1 := SBD.out drop.length
      rw [List.take_length] at b1
      go_wp2_with fail
      go_loop [10, 12, 33, 34, 35, 36, 37, 38, 39, 40, 41, 42, 43, 44] (fun c i _ _ _ _ _ _ _ _ _ _ _ _ => ∃ k : Nat, k ≤ add.length ∧ i = .int .i64 k ∧ c = .int .i64 (drop.sum + (add.take k).sum)) (fun _ i _ _ _ _ _ _ _ _ _ _ _ _ => add.length - (intOf i).toNat)
      case atStart => exact ⟨0, Nat.zero_le _, rfl, by simp⟩
      case round =>
        obtain ⟨k, hk, rfl, rfl⟩ := hrel
        by_cases hlt : k < add.length
        · obtain ⟨b, off, rfl, -, hc⟩ := HA.out w HI.out (by omega)
          have d0 := hc k hlt
          have b3 := SBA.out k
          have b2 := PR.out.a add[k] (by simp)
          have hs := Lib.hid (take_sum add k hlt)
          generalize add[k] = z at *
          generalize (add.take k).sum = t at *
          clear hc
          go_wp2_with fail
          go_round
          case rel => exact ⟨k + 1, by omega, by go_num, by rw [hs.out]; congr 1; omega⟩
          case measure => simp [intOf]; omega
        · obtain rfl : k = add.length := by omega
          rw [List.take_length]
          have b3 := SBA.out add.length
          rw [List.take_length] at b3
          have HR : Hid (scostP drop add cost pairs = scGo drop add cost (-1, -1) pairs (drop.sum + add.sum)) := by unfold Hid scostP; rw [if_pos HPB.out]
          generalize hs0 : drop.sum + add.sum = s0 at *
          go_wp2_with fail
          have hs1 : 0 ≤ s0 ∧ s0 ≤ 838860800 := by omega
          clear hs0
          go_loopw [8, 9, 10, 13, 14, 15, 45, 46, 47, 48, 49, 50, 51, 52, 53, 54, 55, 56, 57, 58, 59, 60, 61, 62, 63, 64, 65, 66, 67, 68, 69, 70, 71, 72, 73, 74, 75, 76, 77, 78, 79, 80, 81, 82, 83, 84, 85, 86, 87, 88, 89, 90, 91, 92, 93, 94, 95, 96, 97, 98, 99, 100, 101, 102, 103, 104, 105, 106, 107, 108, 109, 110, 111, 112, 113, 114, 115, 116, 117, 118, 119, 120, 121, 122, 123, 124, 125, 126, 127, 128, 129, 130, 131] (fun _ _ c i _ _ _ _ _ _ _ _ _ _ _ _ _ _ _ _ _ _ _ _ _ _ _ _ _ _ _ _ _ _ _ _ _ _ _ _ _ _ _ _ _ _ _ _ _ _ _ _ _ _ _ _ _ _ _ _ _ _ _ _ _ _ _ _ _ _ _ _ _ _ _ _ _ _ _ _ _ _ _ _ _ _ _ _ _ _ _ _ _ wr => ∃ (j : Nat) (z : Int) (last : Int × Int), j ≤ pairs.length ∧ i = .int .i64 j ∧ c = .int .i64 z ∧ (s0 - j * 2097152 ≤ z ∧ z ≤ s0 + j * 1048576) ∧ ((j : Int) ≤ last.1 + 1 ∧ last.1 < 400) ∧ Below w.heap.size w wr ∧ Hid ((j = 0 → last = (-1, -1)) ∧ (0 < j → 0 ≤ last.1 ∧ 0 ≤ last.2 ∧ pairs[j - 1]? = some last)) ∧ Hid (scGo drop add cost last (pairs.drop j) z = scostP drop add cost pairs)) (fun _ _ _ i _ _ _ _ _ _ _ _ _ _ _ _ _ _ _ _ _ _ _ _ _ _ _ _ _ _ _ _ _ _ _ _ _ _ _ _ _ _ _ _ _ _ _ _ _ _ _ _ _ _ _ _ _ _ _ _ _ _ _ _ _ _ _ _ _ _ _ _ _ _ _ _ _ _ _ _ _ _ _ _ _ _ _ _ _ _ _ _ _ _ => pairs.length - (intOf i).toNat)
          case atStart => exact ⟨0, s0, (-1, -1), Nat.zero_le _, rfl, rfl, by omega, by simp, Below.refl _ _, ⟨fun _ => rfl, fun h => absurd h (by omega)⟩, HR.out.symm⟩
          case round =>
            obtain ⟨j, z, last, hj, rfl, rfl, hz, hjl, P, LA, R⟩ := hrel
            have IW := Lib.hid (HI.out.below P)
            by_cases hlt : j < pairs.length
            · obtain ⟨bp, op, rfl, hbp, hpc⟩ := HPC.out wr IW.out (by omega)
              obtain ⟨d0, d1⟩ := hpc j hlt
              obtain ⟨i1, i2⟩ := HPR.out pairs[j] (by simp)
              have HS := Lib.hid (scGo_step (drop := drop) (add := add) (cost := cost) hlt last z)
              have HPJ : Hid (pairs[j]? = some pairs[j]) := List.getElem?_eq_getElem hlt
              have HLC : Hid (0 < j → wr.cell? ⟨bp, op + (j - 1) * 2, none⟩ = some (.int .i64 last.1) ∧ wr.cell? ⟨bp, op + (j - 1) * 2 + 1, none⟩ = some (.int .i64 last.2)) := fun h0 => by
                have := (LA.out.2 h0).2.2
                have hlt' : j - 1 < pairs.length := by omega
                rw [List.getElem?_eq_getElem hlt'] at this
                have e := hpc (j - 1) hlt'
                rw [Option.some.inj this] at e
                exact e
              have P' := Lib.hid P
              generalize pairs[j] = p at *
              have HBAD : Hid (¬ scOk drop add cost last p → scostP drop add cost pairs = none) := fun hn => by rw [← R.out, HS.out, if_neg hn]
              have FIN : Hid (∀ n, ¬ scOk drop add cost last p → CostRes w (scostP drop add cost pairs) (.returned (.tuple #[.int .i64 0, .bool false])) (wr.drewN n)) := fun n hn => by
                rw [HBAD.out hn]
                exact ⟨rfl, P'.out.drewN n⟩
              have u0 : (0 : Int) ≤ (j : Int) := by omega
              have u1 : (j : Int) < (pairs.length : Int) := by omega
              have lo : -1 ≤ last.1 ∧ -1 ≤ last.2 := by
                rcases Nat.eq_zero_or_pos j with h0 | h0
                · have := LA.out.1 h0; rw [this]; simp
                · have := LA.out.2 h0; omega
              unfold I64 at i1 i2
              clear hpc P
              by_cases h1 : p.1 < 0
              · go_wp2_with fail
                go_quiet (fail)
                go_wp2_with fail
                go_ret2
                exact FIN.out _ (fun ok => by have := ok.1; omega)
              have h1' : 0 ≤ p.1 := by omega
              have g1 : decide (p.1 < 0) = false := by simpa using h1
              by_cases h3 : (drop.length : Int) ≤ p.1
              · go_wp2_with fail
                go_quiet (fail)
                go_wp2_with fail
                go_ret2
                exact FIN.out _ (fun ok => by have := ok.2.2.1; omega)
              have h3' : p.1 < drop.length := by omega
              by_cases h2 : p.2 < 0
              · go_wp2_with fail
                go_quiet (fail)
                go_wp2_with fail
                go_ret2
                exact FIN.out _ (fun ok => by have := ok.2.1; omega)
              have h2' : 0 ≤ p.2 := by omega
              have g2 : decide (p.2 < 0) = false := by simpa using h2
              by_cases h4 : (add.length : Int) ≤ p.2
              · go_wp2_with fail
                go_quiet (fail)
                go_wp2_with fail
                go_ret2
                exact FIN.out _ (fun ok => by have := ok.2.2.2.1; omega)
              have h4' : p.2 < add.length := by omega
              have hcl := PR.out.cl
              have m1 : p.1.toNat < cost.length := by omega
              have m2 : p.1.toNat < drop.length := by omega
              have m3 : p.2.toNat < add.length := by omega
              have hrl := PR.out.rl p.1.toNat m1
              obtain ⟨bc, oc, rfl, hbc, hcc⟩ := HC.out wr IW.out (by omega)
              obtain ⟨ar, cr, e0, hrow⟩ := hcc _ m1
              obtain ⟨ar', cr', hre, -, hrc⟩ := hrow.open
              simp only [Value.slice.injEq, true_and] at hre
              obtain ⟨rfl, rfl⟩ := hre
              obtain ⟨br, or, rfl, hbr, hrc⟩ := hrc wr IW.out (by omega)
              have e1 := hrc p.2.toNat (by omega)
              have b5 := PR.out.c p.1.toNat m1 (cost[p.1.toNat][p.2.toNat]'(by omega)) (by simp)
              obtain ⟨bd, od, rfl, hbd, hdc⟩ := HD.out wr IW.out (by omega)
              obtain ⟨ba, oa, rfl, hba, hac⟩ := HA.out wr IW.out (by omega)
              have e2 := hdc _ m2
              have e3 := hac _ m3
              have b6 := PR.out.d (drop[p.1.toNat]) (by simp)
              have b7 := PR.out.a (add[p.2.toNat]) (by simp)
              have hcg : Hid (cg cost p.1.toNat p.2.toNat = cost[p.1.toNat][p.2.toNat]'(by omega)) := by unfold Hid cg; rw [getD_of_lt cost _ _ m1, getD_of_lt _ _ _ (by omega)]
              have hdg : Hid (drop.getD p.1.toNat 0 = drop[p.1.toNat]) := getD_of_lt _ _ _ _
              have hag : Hid (add.getD p.2.toNat 0 = add[p.2.toNat]) := getD_of_lt _ _ _ _
              rw [hrl] at e0
              generalize (cost[p.1.toNat][p.2.toNat]'(by omega)) = xc at *
              generalize drop[p.1.toNat] = xd at *
              generalize add[p.2.toNat] = xa at *
              have n1 : p.1 < (cost.length : Int) := by omega
              clear hcc hrow hrc hdc hac hrl hcl
              by_cases h7 : xc < 0
              · go_wp2_with fail
                go_quiet (fail)
                go_wp2_with fail
                go_ret2
                exact FIN.out _ (fun ok => by have := ok.2.2.2.2; rw [hcg.out] at this; omega)
              have h7' : 0 ≤ xc := by omega
              have g7 : decide (xc < 0) = false := by simpa using h7
              by_cases hj0 : j = 0
              · have hl0 := LA.out.1 hj0
                have gj : decide ((0 : Int) < (j : Int)) = false := by rw [hj0]; rfl
                have gjn : decide (0 < j) = false := by rw [hj0]; rfl
                have hjle : (j : Int) ≤ p.1 := by omega
                clear hj0
                have HOK : Hid (scOk drop add cost last p) := ⟨by rw [hl0]; show (-1 : Int) < _; omega, by rw [hl0]; show (-1 : Int) < _; omega, h3', h4', by rw [hcg.out]; exact h7'⟩
                have RN : Hid (scGo drop add cost p (pairs.drop (j + 1)) (z + (xc - xd - xa)) = scostP drop add cost pairs) := by
                  unfold Hid; rw [← R.out, HS.out, if_pos HOK.out, hcg.out, hdg.out, hag.out]
                have HZ : Hid (z - xd - xa + xc = z + (xc - xd - xa)) := by unfold Hid; omega
                have w1 : IntKind.i64.wrap (z - xd) = z - xd := w64 (by omega)
                have w2 : IntKind.i64.wrap (z - xd - xa) = z - xd - xa := w64 (by omega)
                have w3 : IntKind.i64.wrap (z - xd - xa + xc) = z - xd - xa + xc := w64 (by omega)
                go_wp2_with fail
                go_quiet (fail)
                go_wp2_with fail
                go_quiet (fail)
                clear w1 w2 w3
                go_wp2_with fail
                go_roundw
                case rel =>
                  exact ⟨j + 1, _, p, by omega, by go_num, rfl, by omega, by omega, P'.out.drewN _, ⟨fun h => absurd h (by omega), fun _ => ⟨h1', h2', by rw [Nat.add_sub_cancel]; exact HPJ.out⟩⟩, by rw [HZ.out]; exact RN⟩
                case measure => simp [intOf]; omega
              have hjp : 0 < j := by omega
              obtain ⟨e4, e5⟩ := HLC.out hjp
              have gj : decide ((0 : Int) < (j : Int)) = true := by simpa using hjp
              have gjn : decide (0 < j) = true := by simpa using hjp
              have rj1 : IntKind.i64.wrap ((j : Int) - 1) = (j : Int) - 1 := w64 (by omega)
              have rj2 : ((j : Int) - 1).toNat = j - 1 := by omega
              have rj3 : (0 : Int) ≤ (j : Int) - 1 := by omega
              have rj4 : (j : Int) - 1 < (pairs.length : Int) := by omega
              by_cases h8 : p.1 ≤ last.1
              · go_wp2_with fail
                go_quiet (fail)
                go_wp2_with fail
                go_ret2
                exact FIN.out _ (fun ok => by have := ok.1; omega)
              have g8 : decide (p.1 ≤ last.1) = false := by simpa using h8
              by_cases h9 : p.2 ≤ last.2
              · go_wp2_with fail
                go_quiet (fail)
                go_wp2_with fail
                go_ret2
                exact FIN.out _ (fun ok => by have := ok.2.1; omega)
              have g9 : decide (p.2 ≤ last.2) = false := by simpa using h9
              have HOK : Hid (scOk drop add cost last p) := ⟨by omega, by omega, h3', h4', by rw [hcg.out]; exact h7'⟩
              have RN : Hid (scGo drop add cost p (pairs.drop (j + 1)) (z + (xc - xd - xa)) = scostP drop add cost pairs) := by
                unfold Hid; rw [← R.out, HS.out, if_pos HOK.out, hcg.out, hdg.out, hag.out]
              have HZ : Hid (z - xd - xa + xc = z + (xc - xd - xa)) := by unfold Hid; omega
              have w1 : IntKind.i64.wrap (z - xd) = z - xd := w64 (by omega)
              have w2 : IntKind.i64.wrap (z - xd - xa) = z - xd - xa := w64 (by omega)
              have w3 : IntKind.i64.wrap (z - xd - xa + xc) = z - xd - xa + xc := w64 (by omega)
              go_wp2_with fail
              go_quiet (fail)
              go_wp2_with fail
              go_quiet (fail)
              clear w1 w2 w3 rj1 rj2
              go_wp2_with fail
              go_roundw
              case rel =>
                exact ⟨j + 1, _, p, by omega, by go_num, rfl, by omega, by omega, P'.out.drewN _, ⟨fun h => absurd h (by omega), fun _ => ⟨h1', h2', by rw [Nat.add_sub_cancel]; exact HPJ.out⟩⟩, by rw [HZ.out]; exact RN⟩
              case measure => simp [intOf]; omega
            · obtain rfl : j = pairs.length := by omega
              go_wp2_with fail
              go_ret2
              have : scostP drop add cost pairs = some z := by
                have := R.out
                rw [List.drop_length, scGo] at this
                exact this.symm
              rw [this]
              exact ⟨rfl, P⟩
end Go.Proofs.Ytfifbadepebpeaa
