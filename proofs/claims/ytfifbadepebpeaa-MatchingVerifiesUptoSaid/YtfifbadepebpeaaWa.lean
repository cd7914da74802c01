/- Functions that read lists of integers and pairs. -/
import Derived.Test.YtfifbadepebpeaaBa
import Derived.BigQuiet
import Derived.Deep.QuietTactic
import Derived.Deep.RegionWith
import Derived.Deep.RegionHeld3
import Derived.StillTailTactics
import Derived.Deep.LoopGhost
import Derived.Deep.DeepCutAuto
import Derived.Deep.DeepFit
namespace Go.Proofs.Ytfifbadepebpeaa
open Go.RowKit

theorem bneT {a b : Nat} (h : a ≠ b) : ((a : Int) != (b : Int)) = true := by rw [bne_iff_ne]; omega
theorem bneF {a b : Nat} (h : a = b) : ((a : Int) != (b : Int)) = false := by simp [h]
theorem beqT {a b : Nat} (h : a = b) : ((a : Int) == (b : Int)) = true := by simp [h]
theorem beqF {a b : Nat} (h : a ≠ b) : ((a : Int) == (b : Int)) = false := by rw [beq_eq_false_iff_ne]; omega
theorem ibneT {a b : Int} (h : a ≠ b) : (a != b) = true := by simp [h]
theorem ibneF {a b : Int} (h : a = b) : (a != b) = false := by simp [h]
theorem ibeqT {a b : Int} (h : a = b) : (a == b) = true := by simp [h]
theorem ibeqF {a b : Int} (h : a ≠ b) : (a == b) = false := by simp [h]

def withinB (lo hi : Int) (l : List Int) : Bool := l.all fun x => decide (lo ≤ x ∧ x ≤ hi)

theorem withinB_take (lo hi : Int) (l : List Int) (k : Nat) (hk : k < l.length) (h1 : lo ≤ l[k]) (h2 : l[k] ≤ hi) (h : withinB lo hi (l.take k) = true) : withinB lo hi (l.take (k+1)) = true := by
  unfold withinB at *
  rw [List.take_add_one, List.getElem?_eq_getElem hk, List.all_append, h]
  simp [h1, h2]

theorem withinB_false (lo hi : Int) (l : List Int) (k : Nat) (hk : k < l.length) (h : ¬ (lo ≤ l[k] ∧ l[k] ≤ hi)) : withinB lo hi l = false := by
  unfold withinB
  rw [List.all_eq_false]
  exact ⟨l[k], by simp, by simpa using h⟩

set_option maxHeartbeats 400000 in
theorem within_any (h : Hp) (w : World) (hi : Imm h w) (v : Value) (l : List Int) (lo hi' : Int) (hv : Ints h v l) :
    Calls Try.prog 74 #[v, .int .i64 lo, .int .i64 hi'] w fun e w' => e = .returned (.bool (withinB lo hi' l)) ∧ w = w' := by
  obtain ⟨a, cap, rfl, hn, hc⟩ := hv.open
  replace hc := Lib.hid (hc w hi)
  clear hv hi
  go_enter Try.func74, Try.ntmps74
  go_wp2
  go_loop [6, 8, 11, 12, 13, 14, 15, 16, 17, 18, 19, 20, 21, 22, 23] (fun _ _ i _ _ _ _ _ _ _ _ _ _ _ _ => ∃ k : Nat, k ≤ l.length ∧ i = .int .i64 k ∧ Hid (withinB lo hi' (l.take k) = true)) (fun _ _ i _ _ _ _ _ _ _ _ _ _ _ _ => l.length - (intOf i).toNat)
  case atStart => exact ⟨0, Nat.zero_le _, rfl, rfl⟩
  case round =>
    obtain ⟨k, hk, rfl, hw⟩ := hrel
    by_cases hlt : k < l.length
    · obtain ⟨b, off, rfl, -, hc⟩ := hc.out (by omega)
      have hcell := hc k hlt
      have H1 := Lib.hid (withinB_take lo hi' l k hlt)
      have H2 := Lib.hid (withinB_false lo hi' l k hlt)
      clear hc
      generalize l[k] = x at *
      by_cases h1 : lo ≤ x
      · by_cases h2 : x ≤ hi'
        · go_wp2
          go_round
          case rel => exact ⟨k + 1, by omega, by go_num, H1.out h1 h2 hw⟩
          case measure => simp [intOf]; omega
        · go_wp2
          go_ret
          exact ⟨by rw [H2.out (by omega)]; rfl, rfl⟩
      · have h1' : x < lo := by omega
        go_wp2
        go_ret
        exact ⟨by rw [H2.out (by omega)]; rfl, rfl⟩
    · go_wp2
      go_ret
      have : withinB lo hi' l = true := by have := hw.out; rwa [List.take_of_length_le (by omega)] at this
      exact ⟨by rw [this]; rfl, rfl⟩

set_option maxHeartbeats 400000 in
theorem small_any (h : Hp) (w : World) (hi : Imm h w) (v : Value) (l : List Int) (lo : Int) (hv : Ints h v l) :
    Calls Try.prog 72 #[v, .int .i64 lo] w fun e w' => e = .returned (.bool (withinB lo 1048576 l)) ∧ w = w' := by
  obtain ⟨a, cap, rfl, hn, hc⟩ := hv.open
  replace hc := Lib.hid (hc w hi)
  clear hv hi
  go_enter Try.func72, Try.ntmps72
  go_wp2
  go_loop [4, 5, 6, 7, 8, 9, 10, 11, 12, 13, 14, 15, 16, 17, 18, 19, 20, 21, 22, 23, 24] (fun _ i _ _ _ _ _ _ _ _ _ _ _ _ _ _ _ _ _ _ _ => ∃ k : Nat, k ≤ l.length ∧ i = .int .i64 k ∧ Hid (withinB lo 1048576 (l.take k) = true)) (fun _ i _ _ _ _ _ _ _ _ _ _ _ _ _ _ _ _ _ _ _ => l.length - (intOf i).toNat)
  case atStart => exact ⟨0, Nat.zero_le _, rfl, rfl⟩
  case round =>
    obtain ⟨k, hk, rfl, hw⟩ := hrel
    by_cases hlt : k < l.length
    · obtain ⟨b, off, rfl, -, hc⟩ := hc.out (by omega)
      have hcell := hc k hlt
      have H1 := Lib.hid (withinB_take lo 1048576 l k hlt)
      have H2 := Lib.hid (withinB_false lo 1048576 l k hlt)
      clear hc
      generalize l[k] = x at *
      by_cases h1 : lo ≤ x
      · by_cases h2 : x ≤ 1048576
        · go_wp2
          go_round
          case rel => exact ⟨k + 1, by omega, by go_num, H1.out h1 h2 hw⟩
          case measure => simp [intOf]; omega
        · go_wp2
          go_ret
          exact ⟨by rw [H2.out (by omega)]; rfl, rfl⟩
      · have h1' : x < lo := by omega
        go_wp2
        go_ret
        exact ⟨by rw [H2.out (by omega)]; rfl, rfl⟩
    · go_wp2
      go_ret
      have : withinB lo 1048576 l = true := by have := hw.out; rwa [List.take_of_length_le (by omega)] at this
      exact ⟨by rw [this]; rfl, rfl⟩

def rowsB (n : Nat) (ls : List (List Int)) : Bool := ls.all fun r => decide (r.length = n) && withinB (-1) 1048576 r
def properB (drop add : List Int) (cost : List (List Int)) : Bool :=
  decide (drop.length ≤ 400) && decide (add.length ≤ 400) && decide (cost.length = drop.length) && withinB 0 1048576 drop && withinB 0 1048576 add && rowsB add.length cost

theorem rowsB_take (n : Nat) (l : List (List Int)) (k : Nat) (hk : k < l.length) (h1 : l[k].length = n) (h2 : withinB (-1) 1048576 l[k] = true) (h : rowsB n (l.take k) = true) : rowsB n (l.take (k+1)) = true := by
  unfold rowsB at *
  rw [List.take_add_one, List.getElem?_eq_getElem hk, List.all_append, h]
  simp [h1, h2]
theorem rowsB_false (n : Nat) (l : List (List Int)) (k : Nat) (hk : k < l.length) (h : ¬ (l[k].length = n ∧ withinB (-1) 1048576 l[k] = true)) : rowsB n l = false := by
  unfold rowsB
  rw [List.all_eq_false]
  exact ⟨l[k], by simp, by simpa using h⟩

set_option maxHeartbeats 1000000 in
theorem proper_any (h : Hp) (w : World) (hi : Imm h w) (vd va vc : Value) (drop add : List Int) (cost : List (List Int)) (hd : Ints h vd drop) (ha : Ints h va add) (hc : Rws h vc cost) :
    Calls Try.prog 68 #[vd, va, vc] w fun e w' => e = .returned (.bool (properB drop add cost)) ∧ w = w' := by
  have Hd := Lib.hid hd
  have Ha := Lib.hid ha
  have HI := Lib.hid hi
  obtain ⟨ad, cd, rfl, hdn, -⟩ := hd.open
  obtain ⟨aa, ca, rfl, han, -⟩ := ha.open
  obtain ⟨ac, cc, rfl, hcn, hcc⟩ := hc.open
  replace hcc := Lib.hid (hcc w hi)
  clear hd ha hc hi
  by_cases h1 : 400 < drop.length
  · go_enter Try.func68, Try.ntmps68
    go_wp2_with fail
    go_ret
    exact ⟨by simp [properB]; omega, rfl⟩
  by_cases h2 : 400 < add.length
  · go_enter Try.func68, Try.ntmps68
    go_wp2_with fail
    go_ret
    exact ⟨by simp [properB]; omega, rfl⟩
  by_cases h3 : cost.length = drop.length
  case neg =>
    have h3' : ((cost.length : Int) != (drop.length : Int)) = true := bneT h3
    go_enter Try.func68, Try.ntmps68
    go_wp2_with fail
    go_ret
    exact ⟨by simp [properB, h3], rfl⟩
  have h3' : ((cost.length : Int) != (drop.length : Int)) = false := bneF h3
  have H3 := Lib.hid h3
  clear h3
  generalize hwd : withinB 0 1048576 drop = wd
  generalize hwa : withinB 0 1048576 add = wa
  have Hwd := Lib.hid hwd
  have Hwa := Lib.hid hwa
  clear hwd hwa
  cases wd
  · go_enter Try.func68, Try.ntmps68
    go_wp2_with fail
    refine (within_any h w HI.out _ drop _ _ Hd.out).mono ?_
    rintro e w' ⟨rfl, rfl⟩
    rw [Hwd.out]
    go_wp2_with fail
    go_ret
    exact ⟨by simp [properB, Hwd.out], rfl⟩
  cases wa
  · go_enter Try.func68, Try.ntmps68
    go_wp2_with fail
    refine (within_any h w HI.out _ drop _ _ Hd.out).mono ?_
    rintro e w' ⟨rfl, rfl⟩
    rw [Hwd.out]
    go_wp2_with fail
    refine (within_any h w HI.out _ add _ _ Ha.out).mono ?_
    rintro e w' ⟨rfl, rfl⟩
    rw [Hwa.out]
    go_wp2_with fail
    go_ret
    exact ⟨by simp [properB, Hwa.out], rfl⟩
  go_enter Try.func68, Try.ntmps68
  go_wp2_with fail
  refine (within_any h w HI.out _ drop _ _ Hd.out).mono ?_
  rintro e w' ⟨rfl, rfl⟩
  rw [Hwd.out]
  go_wp2_with fail
  refine (within_any h w HI.out _ add _ _ Ha.out).mono ?_
  rintro e w' ⟨rfl, rfl⟩
  rw [Hwa.out]
  go_wp2_with fail
  go_loop [6, 8, 34, 35, 36, 37, 38, 39, 40, 41, 42, 43, 44, 45, 46, 47, 48] (fun _ _ i _ _ _ _ _ _ _ _ _ _ _ _ _ _ => ∃ k : Nat, k ≤ cost.length ∧ i = .int .i64 k ∧ Hid (rowsB add.length (cost.take k) = true)) (fun _ _ i _ _ _ _ _ _ _ _ _ _ _ _ _ _ => cost.length - (intOf i).toNat)
  case atStart => exact ⟨0, Nat.zero_le _, rfl, rfl⟩
  case round =>
    obtain ⟨k, hk, rfl, hw⟩ := hrel
    by_cases hlt : k < cost.length
    · obtain ⟨b, off, rfl, -, hc⟩ := hcc.out (by omega)
      obtain ⟨ar, cr, hcell, hrow⟩ := hc k hlt
      have Hrow := Lib.hid hrow
      have H1 := Lib.hid (rowsB_take add.length cost k hlt)
      have H2 := Lib.hid (rowsB_false add.length cost k hlt)
      have hrl := hrow.1.len.1
      clear hc hrow
      by_cases h4 : cost[k].length = add.length
      · have h4' : ((cost[k].length : Int) != (add.length : Int)) = false := bneF h4
        have H4 := Lib.hid h4
        clear h4
        generalize hwr : withinB (-1) 1048576 cost[k] = wr
        have Hwr := Lib.hid hwr
        clear hwr
        cases wr
        · go_wp2_with fail
          refine (within_any h w HI.out _ _ _ _ Hrow.out).mono ?_
          rintro e w' ⟨rfl, rfl⟩
          rw [Hwr.out]
          go_wp2_with fail
          go_ret
          exact ⟨by simp [properB, H2.out (by rw [Hwr.out]; simp)], rfl⟩
        · go_wp2_with fail
          refine (within_any h w HI.out _ _ _ _ Hrow.out).mono ?_
          rintro e w' ⟨rfl, rfl⟩
          rw [Hwr.out]
          go_wp2_with fail
          go_round
          case rel => exact ⟨k + 1, by omega, by go_num, H1.out H4.out Hwr.out hw⟩
          case measure => simp [intOf]; omega
      · have h4' : ((cost[k].length : Int) != (add.length : Int)) = true := bneT h4
        go_wp2_with fail
        go_ret
        exact ⟨by simp [properB, H2.out (by simp [h4])], rfl⟩
    · go_wp2_with fail
      go_ret
      have : rowsB add.length cost = true := by have := hw.out; rwa [List.take_of_length_le (by omega)] at this
      exact ⟨by simp [properB, this, Hwd.out, Hwa.out, H3.out]; omega, rfl⟩

end Go.Proofs.Ytfifbadepebpeaa
