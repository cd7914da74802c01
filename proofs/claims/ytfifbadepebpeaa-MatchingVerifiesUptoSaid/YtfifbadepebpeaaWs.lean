/- sequence.Cost. -/
import Derived.Test.YtfifbadepebpeaaBb
import Derived.Test.YtfifbadepebpeaaBp
namespace Go.Proofs.Ytfifbadepebpeaa
open Go.RowKit

theorem take_sum (l : List Int) (k : Nat) (h : k < l.length) : (l.take (k + 1)).sum = (l.take k).sum + l[k] := by
  rw [List.take_add_one, List.getElem?_eq_getElem h, List.sum_append]; simp
theorem take_sum_bd {l : List Int} (h : ∀ x ∈ l, 0 ≤ x ∧ x ≤ 1048576) : ∀ k, 0 ≤ (l.take k).sum ∧ (l.take k).sum ≤ 1048576 * k
  | 0 => by simp
  | k + 1 => by
    have ih := take_sum_bd h k
    rcases Nat.lt_or_ge k l.length with hk | hk
    · rw [take_sum l k hk]
      have := h l[k] (List.getElem_mem hk)
      omega
    · rw [List.take_of_length_le (by omega)]
      rw [List.take_of_length_le (by omega)] at ih
      omega

theorem scGo_step {drop add : List Int} {cost : List (List Int)} {pairs : List (Int × Int)} {i : Nat} (h : i < pairs.length) (last : Int × Int) (c : Int) :
    scGo drop add cost last (pairs.drop i) c = if scOk drop add cost last pairs[i] then scGo drop add cost pairs[i] (pairs.drop (i + 1)) (c + (cg cost pairs[i].1.toNat pairs[i].2.toNat - drop.getD pairs[i].1.toNat 0 - add.getD pairs[i].2.toNat 0)) else none := by
  rw [List.drop_eq_getElem_cons h, scGo]

def CostRes (w : World) (r : Option Int) (e : Ending) (w' : World) : Prop := e = .returned (.tuple #[.int .i64 (r.getD 0), .bool r.isSome]) ∧ Below w.heap.size w w'

structure ScI (w : World) (last : Int × Int) (wr : World) : Prop where
  bel : Below w.heap.size w wr
  c0 : wr.cell? ⟨w.heap.size, 0, none⟩ = some (.int .i64 last.1)
  c1 : wr.cell? ⟨w.heap.size, 1, none⟩ = some (.int .i64 last.2)
  fz : ∀ i, wr.frozen? ⟨w.heap.size, i, none⟩ = false
  sz : w.heap.size < wr.heap.size
  lo : -1 ≤ last.1 ∧ -1 ≤ last.2

theorem ScI.next {w : World} {last p : Int × Int} {wr : World} (P : ScI w last wr) (hp : 0 ≤ p.1 ∧ 0 ≤ p.2) (o : Obj) (n : Nat) :
    ScI w p ((((wr.alloc o).drewN n).setCell ⟨w.heap.size, 0, none⟩ (.int .i64 p.1)).setCell ⟨w.heap.size, 1, none⟩ (.int .i64 p.2)) := by
  have e0 : ((wr.alloc o).drewN n).cell? ⟨w.heap.size, 0, none⟩ = some (.int .i64 last.1) := by
    show (wr.alloc o).cell? _ = _
    rw [World.cell?_alloc_past _ _ _ P.sz]; exact P.c0
  have e1 : ((wr.alloc o).drewN n).cell? ⟨w.heap.size, 1, none⟩ = some (.int .i64 last.2) := by
    show (wr.alloc o).cell? _ = _
    rw [World.cell?_alloc_past _ _ _ P.sz]; exact P.c1
  refine ⟨(((P.bel.alloc P.bel.size o).drewN n).setCell (Nat.le_refl _) _).setCell (Nat.le_refl _) _, ?_, ?_, fun i => ?_, ?_, by omega⟩
  · rw [World.cell?_setCell_other _ _ _ _ (by simp)]; exact World.cell?_setCell_same _ _ _ e0
  · exact World.cell?_setCell_same _ _ _ (by rw [World.cell?_setCell_other _ _ _ _ (by simp)]; exact e1)
  · have : ((wr.alloc o).drewN n).frozen? ⟨w.heap.size, i, none⟩ = false := by
      show (wr.alloc o).frozen? _ = _
      rw [World.frozen?_alloc_past _ _ _ P.sz]; exact P.fz i
    simp [this]
  · have := P.sz; simp [World.setCell]; omega

set_option maxRecDepth 100000 in
set_option maxHeartbeats 4000000 in
theorem scost_any (h : Hp) (w : World) (hi : Imm h w) (vd va vc vp : Value) (drop add : List Int) (cost : List (List Int)) (pairs : List (Int × Int)) (hd : Ints h vd drop) (ha : Ints h va add) (hc : Rws h vc cost) (hp : Prs h vp pairs) :
    Calls Try.prog 73 #[vd, va, vc, vp] w (CostRes w (scostP drop add cost pairs)) := by
  have HI := Lib.hid hi
  have Hd := Lib.hid hd
  have Ha := Lib.hid ha
  have Hc := Lib.hid hc
  have HPR := Lib.hid hp.2
  obtain ⟨ad, cd, rfl, hdn, hdc⟩ := hd.open
  obtain ⟨aa, ca, rfl, han, hac⟩ := ha.open
  obtain ⟨ac, cc, rfl, hcn, hcc⟩ := hc.open
  obtain ⟨ap, cp, rfl, hpn, hpc⟩ := hp.open
  have HD := Lib.hid (fun w' hi => hdc w' hi)
  have HA := Lib.hid (fun w' hi => hac w' hi)
  have HC := Lib.hid (fun w' hi => hcc w' hi)
  have HPC := Lib.hid (fun w' hi => hpc w' hi)
  clear hd ha hc hp hdc hac hcc hpc hi
  generalize hpB : properB drop add cost = pB
  have HPB := Lib.hid hpB
  clear hpB
  go_enter Try.func73, Try.ntmps73
  go_wp2_with fail
  refine (proper_any h _ HI.out _ _ _ drop add cost Hd.out Ha.out Hc.out).mono ?_
  rintro e w' ⟨rfl, rfl⟩
  rw [HPB.out]
  cases pB
  · go_wp2_with fail
    go_ret2
    have : scostP drop add cost pairs = none := by unfold scostP; rw [if_neg (by rw [HPB.out]; simp)]
    rw [this]
    exact ⟨rfl, Below.refl _ _⟩
  have PR := Lib.hid (properB_iff.1 HPB.out)
  have hdl := PR.out.dl
  have hal := PR.out.al
  have SBD := Lib.hid (take_sum_bd PR.out.d)
  have SBA := Lib.hid (take_sum_bd PR.out.a)
  go_wp2_with fail
  go_loop [10, 12, 27, 28, 29, 30, 31, 32, 33, 34] (fun c _ i _ _ _ _ _ _ _ => ∃ k : Nat, k ≤ drop.length ∧ i = .int .i64 k ∧ c = .int .i64 (drop.take k).sum) (fun _ _ i _ _ _ _ _ _ _ => drop.length - (intOf i).toNat)
  case atStart => exact ⟨0, Nat.zero_le _, rfl, rfl⟩
  case round =>
    obtain ⟨k, hk, rfl, rfl⟩ := hrel
    by_cases hlt : k < drop.length
    · obtain ⟨b, off, rfl, -, hc⟩ := HD.out w HI.out (by omega)
      have d0 := hc k hlt
      have b1 := SBD.out k
      have b2 := PR.out.d drop[k] (by simp)
      have hs := Lib.hid (take_sum drop k hlt)
      generalize drop[k] = z at *
      generalize (drop.take k).sum = t at *
      clear hc
      go_wp2_with fail
      go_round
      case rel => exact ⟨k + 1, by omega, by go_num, by rw [hs.out]⟩
      case measure => simp [intOf]; omega
    · obtain rfl : k = drop.length := by omega
      rw [List.take_length]
      have b1 := SBD.out drop.length
      rw [List.take_length] at b1
      go_wp2_with fail
      go_loop [10, 14, 37, 38, 39, 40, 41, 42, 43, 44] (fun c _ i _ _ _ _ _ _ _ => ∃ k : Nat, k ≤ add.length ∧ i = .int .i64 k ∧ c = .int .i64 (drop.sum + (add.take k).sum)) (fun _ _ i _ _ _ _ _ _ _ => add.length - (intOf i).toNat)
      case atStart => exact ⟨0, Nat.zero_le _, rfl, by simp⟩
      case round =>
        obtain ⟨k, hk, rfl, rfl⟩ := hrel
        by_cases hlt : k < add.length
        · obtain ⟨b, off, rfl, -, hc⟩ := HA.out w HI.out (by omega)
          have d0 := hc k hlt
          have b3 := SBA.out k
          have b2 := PR.out.a add[k] (by simp)
          have hs := Lib.hid (take_sum add k hlt)
          generalize add[k] = z at *
          generalize (add.take k).sum = t at *
          clear hc
          go_wp2_with fail
          go_round
          case rel => exact ⟨k + 1, by omega, by go_num, by rw [hs.out]; congr 1; omega⟩
          case measure => simp [intOf]; omega
        · obtain rfl : k = add.length := by omega
          rw [List.take_length]
          have b3 := SBA.out add.length
          rw [List.take_length] at b3
          have HR : Hid (scostP drop add cost pairs = scGo drop add cost (-1, -1) pairs (drop.sum + add.sum)) := by unfold Hid scostP; rw [if_pos HPB.out]
          generalize hs0 : drop.sum + add.sum = s0 at *
          go_wp2_with fail
          have B0 : Hid (Below w.heap.size w (w.alloc (Obj.cells #[.int .i64 (-1), .int .i64 (-1)] 52))) := (Below.refl _ _).alloc (Nat.le_refl _) _
          have P0 : ScI w (-1, -1) (w.alloc (Obj.cells #[.int .i64 (-1), .int .i64 (-1)] 52)) := by
            refine ⟨B0.out, ?_, ?_, fun i => World.frozen?_alloc_at _ _ _ _ rfl, by simp, by simp⟩
            · rw [World.cell?_alloc_at _ _ _ _ rfl]; rfl
            · rw [World.cell?_alloc_at _ _ _ _ rfl]; rfl
          have P0' := Lib.hid P0
          have hs1 : 0 ≤ s0 ∧ s0 ≤ 838860800 := by omega
          clear P0 hs0
          go_loopw [8, 9, 10, 17, 18, 19, 48, 49, 50, 51, 52, 53, 54, 55, 56, 57, 58, 59, 60, 61, 62, 63, 64, 65, 66, 67, 68, 69, 70, 71, 72, 73, 74, 75, 76, 77, 78, 79, 80, 81, 82, 83, 84, 85, 86, 87, 88, 89, 90, 91, 92, 93, 94, 95, 96, 97, 98, 99, 100, 101, 102, 103, 104, 105, 106, 107, 108] (fun _ _ c _ _ _ i _ _ _ _ _ _ _ _ _ _ _ _ _ _ _ _ _ _ _ _ _ _ _ _ _ _ _ _ _ _ _ _ _ _ _ _ _ _ _ _ _ _ _ _ _ _ _ _ _ _ _ _ _ _ _ _ _ _ _ _ wr => ∃ (j : Nat) (z : Int) (last : Int × Int), j ≤ pairs.length ∧ i = .int .i64 j ∧ c = .int .i64 z ∧ (s0 - j * 2097152 ≤ z ∧ z ≤ s0 + j * 1048576) ∧ ((j : Int) ≤ last.1 + 1 ∧ last.1 < 400) ∧ ScI w last wr ∧ Hid (scGo drop add cost last (pairs.drop j) z = scostP drop add cost pairs)) (fun _ _ _ _ _ _ i _ _ _ _ _ _ _ _ _ _ _ _ _ _ _ _ _ _ _ _ _ _ _ _ _ _ _ _ _ _ _ _ _ _ _ _ _ _ _ _ _ _ _ _ _ _ _ _ _ _ _ _ _ _ _ _ _ _ _ _ _ => pairs.length - (intOf i).toNat)
          case atStart => exact ⟨0, s0, (-1, -1), Nat.zero_le _, rfl, rfl, by omega, by simp, P0'.out, HR.out.symm⟩
          case round =>
            obtain ⟨j, z, last, hj, rfl, rfl, hz, hjl, P, R⟩ := hrel
            have IW := Lib.hid (HI.out.below P.bel)
            by_cases hlt : j < pairs.length
            · obtain ⟨bp, op, rfl, hbp, hpc⟩ := HPC.out wr IW.out (by omega)
              obtain ⟨d0, d1⟩ := hpc j hlt
              obtain ⟨i1, i2⟩ := HPR.out pairs[j] (by simp)
              have HS := Lib.hid (scGo_step (drop := drop) (add := add) (cost := cost) hlt last z)
              have c0 := P.c0
              have c1 := P.c1
              have sz : w.heap.size < wr.heap.size := P.sz
              have f0 := P.fz 0
              have f1 := P.fz 1
              have hlo := P.lo
              have P' := Lib.hid P
              generalize pairs[j] = p at *
              have HBAD : Hid (¬ scOk drop add cost last p → scostP drop add cost pairs = none) := fun hn => by rw [← R.out, HS.out, if_neg hn]
              have FIN : Hid (∀ (X : Obj) n, ¬ scOk drop add cost last p → CostRes w (scostP drop add cost pairs) (.returned (.tuple #[.int .i64 0, .bool false])) ((wr.alloc X).drewN n)) := fun X n hn => by
                rw [HBAD.out hn]
                exact ⟨rfl, (P'.out.bel.alloc P'.out.bel.size _).drewN n⟩
              unfold I64 at i1 i2
              clear hpc P
              by_cases h1 : p.1 ≤ last.1
              · go_wp2_with fail
                go_quiet (fail)
                go_wp2_with fail
                go_ret2
                exact FIN.out _ _ (fun ok => by have := ok.1; omega)
              have h1' : last.1 < p.1 := by omega
              have g1 : decide (p.1 ≤ last.1) = false := by simpa using h1'
              by_cases h2 : p.2 ≤ last.2
              · go_wp2_with fail
                go_quiet (fail)
                go_wp2_with fail
                go_ret2
                exact FIN.out _ _ (fun ok => by have := ok.2.1; omega)
              have h2' : last.2 < p.2 := by omega
              have g2 : decide (p.2 ≤ last.2) = false := by simpa using h2'
              by_cases h3 : (drop.length : Int) ≤ p.1
              · go_wp2_with fail
                go_quiet (fail)
                go_wp2_with fail
                go_ret2
                exact FIN.out _ _ (fun ok => by have := ok.2.2.1; omega)
              have h3' : p.1 < drop.length := by omega
              by_cases h4 : (add.length : Int) ≤ p.2
              · go_wp2_with fail
                go_quiet (fail)
                go_wp2_with fail
                go_ret2
                exact FIN.out _ _ (fun ok => by have := ok.2.2.2.1; omega)
              have h4' : p.2 < add.length := by omega
              have h5 : 0 ≤ p.1 := by omega
              have h6 : 0 ≤ p.2 := by omega
              have hcl := PR.out.cl
              have m1 : p.1.toNat < cost.length := by omega
              have m2 : p.1.toNat < drop.length := by omega
              have m3 : p.2.toNat < add.length := by omega
              have hrl := PR.out.rl p.1.toNat m1
              obtain ⟨bc, oc, rfl, hbc, hcc⟩ := HC.out wr IW.out (by omega)
              obtain ⟨ar, cr, e0, hrow⟩ := hcc _ m1
              obtain ⟨ar', cr', hre, -, hrc⟩ := hrow.open
              simp only [Value.slice.injEq, true_and] at hre
              obtain ⟨rfl, rfl⟩ := hre
              obtain ⟨br, or, rfl, hbr, hrc⟩ := hrc wr IW.out (by omega)
              have e1 := hrc p.2.toNat (by omega)
              have b5 := PR.out.c p.1.toNat m1 (cost[p.1.toNat][p.2.toNat]'(by omega)) (by simp)
              obtain ⟨bd, od, rfl, hbd, hdc⟩ := HD.out wr IW.out (by omega)
              obtain ⟨ba, oa, rfl, hba, hac⟩ := HA.out wr IW.out (by omega)
              have e2 := hdc _ m2
              have e3 := hac _ m3
              have b6 := PR.out.d (drop[p.1.toNat]) (by simp)
              have b7 := PR.out.a (add[p.2.toNat]) (by simp)
              have hcg : Hid (cg cost p.1.toNat p.2.toNat = cost[p.1.toNat][p.2.toNat]'(by omega)) := by unfold Hid cg; rw [getD_of_lt cost _ _ m1, getD_of_lt _ _ _ (by omega)]
              have hdg : Hid (drop.getD p.1.toNat 0 = drop[p.1.toNat]) := getD_of_lt _ _ _ _
              have hag : Hid (add.getD p.2.toNat 0 = add[p.2.toNat]) := getD_of_lt _ _ _ _
              rw [hrl] at e0
              generalize (cost[p.1.toNat][p.2.toNat]'(by omega)) = xc at *
              generalize drop[p.1.toNat] = xd at *
              generalize add[p.2.toNat] = xa at *
              have HCL := Lib.hid hcl
              have n1 : p.1 < (cost.length : Int) := by omega
              clear hcc hrow hrc hdc hac hrl hcl
              have hx1 : bc < wr.heap.size + 1 := by omega
              have hx2 : br < wr.heap.size + 1 := by omega
              have hx3 : bd < wr.heap.size + 1 := by omega
              have hx4 : ba < wr.heap.size + 1 := by omega
              have y1 : ¬ wr.heap.size = w.heap.size := by omega
              by_cases h7 : xc < 0
              · go_wp2_with fail
                go_quiet (fail)
                go_wp2_with fail
                go_ret2
                exact FIN.out _ _ (fun ok => by have := ok.2.2.2.2; rw [hcg.out] at this; omega)
              have h7' : 0 ≤ xc := by omega
              have HOK : Hid (scOk drop add cost last p) := ⟨h1', h2', h3', h4', by rw [hcg.out]; exact h7'⟩
              have RN : Hid (scGo drop add cost p (pairs.drop (j + 1)) (z + (xc - xd - xa)) = scostP drop add cost pairs) := by
                unfold Hid; rw [← R.out, HS.out, if_pos HOK.out, hcg.out, hdg.out, hag.out]
              have PN := Lib.hid (fun o n => P'.out.next ⟨h5, h6⟩ o n)
              have w1 : IntKind.i64.wrap (xc - xd) = xc - xd := w64 (by omega)
              have w2 : IntKind.i64.wrap (xc - xd - xa) = xc - xd - xa := w64 (by omega)
              have w3 : IntKind.i64.wrap (z + (xc - xd - xa)) = z + (xc - xd - xa) := w64 (by omega)
              go_wp2_with fail
              go_quiet (fail)
              go_wp2_with fail
              go_quiet (fail)
              clear w1 w2 w3
              go_wp2_with fail
              go_roundw
              case rel =>
                exact ⟨j + 1, _, p, by omega, by go_num, rfl, by omega, by omega, PN.out _ _, RN⟩
              case measure => simp [intOf]; omega
            · obtain rfl : j = pairs.length := by omega
              go_wp2_with fail
              go_ret2
              have : scostP drop add cost pairs = some z := by
                have := R.out
                rw [List.drop_length, scGo] at this
                exact this.symm
              rw [this]
              exact ⟨rfl, P.bel⟩
end Go.Proofs.Ytfifbadepebpeaa
