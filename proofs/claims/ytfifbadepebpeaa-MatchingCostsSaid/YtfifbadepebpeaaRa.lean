/- The reference's Proper. -/
import Derived.Test.YtfifbadepebpeaaBg
namespace Go.Proofs.Ytfifbadepebpeaa
open Go.RowKit

set_option maxHeartbeats 1000000 in
theorem rproper_any (h : Hp) (w : World) (hi : Imm h w) (vd va vc : Value) (drop add : List Int) (cost : List (List Int)) (hd : Ints h vd drop) (ha : Ints h va add) (hc : Rws h vc cost) :
    Calls Try.prog 60 #[vd, va, vc] w fun e w' => e = .returned (.bool (properB drop add cost)) ∧ w = w' := by
  have Hd := Lib.hid hd
  have Ha := Lib.hid ha
  have HI := Lib.hid hi
  obtain ⟨ad, cd, rfl, hdn, -⟩ := hd.open
  obtain ⟨aa, ca, rfl, han, -⟩ := ha.open
  obtain ⟨ac, cc, rfl, hcn, hcc⟩ := hc.open
  replace hcc := Lib.hid (hcc w hi)
  clear hd ha hc hi
  by_cases h1 : 400 < drop.length
  · go_enter Try.func60, Try.ntmps60
    go_wp2_with fail
    go_ret
    exact ⟨by simp [properB]; omega, rfl⟩
  by_cases h2 : 400 < add.length
  · go_enter Try.func60, Try.ntmps60
    go_wp2_with fail
    go_ret
    exact ⟨by simp [properB]; omega, rfl⟩
  by_cases h3 : cost.length = drop.length
  case neg =>
    have h3' : ((cost.length : Int) != (drop.length : Int)) = true := bneT h3
    go_enter Try.func60, Try.ntmps60
    go_wp2_with fail
    go_ret
    exact ⟨by simp [properB, h3], rfl⟩
  have h3' : ((cost.length : Int) != (drop.length : Int)) = false := bneF h3
  have H3 := Lib.hid h3
  clear h3
  generalize hwd : withinB 0 1048576 drop = wd
  generalize hwa : withinB 0 1048576 add = wa
  have Hwd := Lib.hid hwd
  have Hwa := Lib.hid hwa
  clear hwd hwa
  cases wd
  · go_enter Try.func60, Try.ntmps60
    go_wp2_with fail
    refine (small_any h w HI.out _ drop _ Hd.out).mono ?_
    rintro e w' ⟨rfl, rfl⟩
    rw [Hwd.out]
    go_wp2_with fail
    go_ret
    exact ⟨by simp [properB, Hwd.out], rfl⟩
  cases wa
  · go_enter Try.func60, Try.ntmps60
    go_wp2_with fail
    refine (small_any h w HI.out _ drop _ Hd.out).mono ?_
    rintro e w' ⟨rfl, rfl⟩
    rw [Hwd.out]
    go_wp2_with fail
    refine (small_any h w HI.out _ add _ Ha.out).mono ?_
    rintro e w' ⟨rfl, rfl⟩
    rw [Hwa.out]
    go_wp2_with fail
    go_ret
    exact ⟨by simp [properB, Hwa.out], rfl⟩
  go_enter Try.func60, Try.ntmps60
  go_wp2_with fail
  refine (small_any h w HI.out _ drop _ Hd.out).mono ?_
  rintro e w' ⟨rfl, rfl⟩
  rw [Hwd.out]
  go_wp2_with fail
  refine (small_any h w HI.out _ add _ Ha.out).mono ?_
  rintro e w' ⟨rfl, rfl⟩
  rw [Hwa.out]
  go_wp2_with fail
  go_loop [6, 7, 33, 34, 35, 36, 37, 38, 39, 40, 41, 42, 43, 44, 45, 46, 47, 48, 49, 50, 51, 52, 53, 54] (fun _ i _ _ _ _ _ _ _ _ _ _ _ _ _ _ _ _ _ _ _ _ _ _ => ∃ k : Nat, k ≤ cost.length ∧ i = .int .i64 k ∧ Hid (rowsB add.length (cost.take k) = true)) (fun _ i _ _ _ _ _ _ _ _ _ _ _ _ _ _ _ _ _ _ _ _ _ _ => cost.length - (intOf i).toNat)
  case atStart => exact ⟨0, Nat.zero_le _, rfl, rfl⟩
  case round =>
    obtain ⟨k, hk, rfl, hw⟩ := hrel
    by_cases hlt : k < cost.length
    · obtain ⟨b, off, rfl, -, hc⟩ := hcc.out (by omega)
      obtain ⟨ar, cr, hcell, hrow⟩ := hc k hlt
      have Hrow := Lib.hid hrow
      have H1 := Lib.hid (rowsB_take add.length cost k hlt)
      have H2 := Lib.hid (rowsB_false add.length cost k hlt)
      have hrl := hrow.1.len.1
      clear hc hrow
      by_cases h4 : cost[k].length = add.length
      · have h4' : ((cost[k].length : Int) != (add.length : Int)) = false := bneF h4
        have H4 := Lib.hid h4
        clear h4
        generalize hwr : withinB (-1) 1048576 cost[k] = wr
        have Hwr := Lib.hid hwr
        clear hwr
        cases wr
        · go_wp2_with fail
          refine (small_any h w HI.out _ _ _ Hrow.out).mono ?_
          rintro e w' ⟨rfl, rfl⟩
          rw [Hwr.out]
          go_wp2_with fail
          go_ret
          exact ⟨by simp [properB, H2.out (by rw [Hwr.out]; simp)], rfl⟩
        · go_wp2_with fail
          refine (small_any h w HI.out _ _ _ Hrow.out).mono ?_
          rintro e w' ⟨rfl, rfl⟩
          rw [Hwr.out]
          go_wp2_with fail
          go_round
          case rel => exact ⟨k + 1, by omega, by go_num, H1.out H4.out Hwr.out hw⟩
          case measure => simp [intOf]; omega
      · have h4' : ((cost[k].length : Int) != (add.length : Int)) = true := bneT h4
        go_wp2_with fail
        go_ret
        exact ⟨by simp [properB, H2.out (by simp [h4])], rfl⟩
    · go_wp2_with fail
      go_ret
      have : rowsB add.length cost = true := by have := hw.out; rwa [List.take_of_length_le (by omega)] at this
      exact ⟨by simp [properB, this, Hwd.out, Hwa.out, H3.out]; omega, rfl⟩
end Go.Proofs.Ytfifbadepebpeaa
