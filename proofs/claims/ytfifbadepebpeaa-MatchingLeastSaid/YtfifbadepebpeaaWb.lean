/- More functions that only read. -/
import Derived.Test.YtfifbadepebpeaaBa
import Derived.Test.YtfifbadepebpeaaWa
namespace Go.Proofs.Ytfifbadepebpeaa
open Go.RowKit

/-- Pairs are compared as they are. -/
def prsB (l m : List (Int × Int)) : Bool := decide (l = m)

theorem take_succ_eq {α : Type} {l m : List α} {k : Nat} (h1 : k < l.length) (h2 : k < m.length) (h : l.take k = m.take k) (e : l[k] = m[k]) : l.take (k + 1) = m.take (k + 1) := by
  rw [List.take_add_one, List.take_add_one, h, List.getElem?_eq_getElem h1, List.getElem?_eq_getElem h2, e]

set_option maxHeartbeats 400000 in
theorem samepairs_any (h : Hp) (w : World) (hi : Imm h w) (v u : Value) (l m : List (Int × Int)) (hv : Prs h v l) (hu : Prs h u m) :
    Calls Try.prog 27 #[v, u] w fun e w' => e = .returned (.bool (prsB l m)) ∧ Below w.heap.size w w' := by
  obtain ⟨a, cap, rfl, hn, hc⟩ := hv.open
  obtain ⟨a', cap', rfl, hn', hc'⟩ := hu.open
  replace hc := Lib.hid (fun w' hi => hc w' hi)
  replace hc' := Lib.hid (fun w' hi => hc' w' hi)
  clear hv hu
  by_cases hl : l.length = m.length
  case neg =>
    have hl' := bneT hl
    go_enter Try.func27, Try.ntmps27
    go_wp2
    go_ret
    exact ⟨by simp [prsB]; intro e; rw [e] at hl; exact hl rfl, Below.refl _ _⟩
  have hl' := bneF hl
  have HL := Lib.hid hl
  clear hl
  go_enter Try.func27, Try.ntmps27
  go_wp2
  go_loopw [4, 5, 11, 12, 13, 14, 15, 16, 17, 18, 19, 20, 21, 22, 23, 24, 25] (fun _ i _ _ _ _ _ _ _ _ _ _ _ _ _ _ _ wr => ∃ k : Nat, k ≤ l.length ∧ i = .int .i64 k ∧ Hid (l.take k = m.take k) ∧ Below w.heap.size w wr) (fun _ i _ _ _ _ _ _ _ _ _ _ _ _ _ _ _ _ => l.length - (intOf i).toNat)
  case atStart => exact ⟨0, Nat.zero_le _, rfl, rfl, Below.refl _ _⟩
  case round =>
    obtain ⟨k, hk, rfl, hw, hB⟩ := hrel
    have hi' := Lib.hid (hi.below hB)
    by_cases hlt : k < l.length
    · have hlt' : k < m.length := by rw [← HL.out]; exact hlt
      obtain ⟨b, off, rfl, -, hc⟩ := hc.out wr hi'.out (by omega)
      obtain ⟨b', off', rfl, -, hc'⟩ := hc'.out wr hi'.out (by omega)
      obtain ⟨c0, c1⟩ := hc k hlt
      obtain ⟨d0, d1⟩ := hc' k hlt'
      have HE := Lib.hid (fun e => take_succ_eq hlt hlt' hw.out e)
      have HN := Lib.hid (fun (e : l = m) => (by subst e; rfl : l[k] = m[k]))
      clear hc hc' hw
      by_cases h1 : l[k].1 = m[k].1
      · by_cases h2 : l[k].2 = m[k].2
        · have g1 := ibeqT h1
          have g2 := ibeqT h2
          have H1 := Lib.hid (Prod.ext h1 h2)
          clear h1 h2
          go_wp2_with fail
          go_quiet (fail)
          go_wp2_with fail
          go_roundw
          case rel => exact ⟨k + 1, by omega, by go_num, HE.out H1.out, hB.drewN _⟩
          case measure => simp [intOf]; omega
        · have g1 := ibeqT h1
          have g2 := ibeqF h2
          have H1 : Hid (l[k].2 ≠ m[k].2) := h2
          clear h1 h2
          go_wp2_with fail
          go_quiet (fail)
          go_wp2_with fail
          go_ret
          exact ⟨by simp [prsB]; intro e; exact H1.out (congrArg Prod.snd (HN.out e)), hB.drewN _⟩
      · have g1 := ibeqF h1
        have H1 : Hid (l[k].1 ≠ m[k].1) := h1
        clear h1
        go_wp2_with fail
        go_quiet (fail)
        go_wp2_with fail
        go_ret
        exact ⟨by simp [prsB]; intro e; exact H1.out (congrArg Prod.fst (HN.out e)), hB.drewN _⟩
    · go_wp2_with fail
      go_ret
      have e : l = m := by
        have := hw.out
        rwa [List.take_of_length_le (by omega), List.take_of_length_le (by have := HL.out; omega)] at this
      exact ⟨by simp [prsB, e], hB⟩

theorem partner_take (l : List (Int × Int)) (x : Int) (k : Nat) (hk : k < l.length) (h : l[k].1 ≠ x) (hf : (l.take k).find? (fun p => p.1 == x) = none) : (l.take (k + 1)).find? (fun p => p.1 == x) = none := by
  rw [List.take_add_one, List.getElem?_eq_getElem hk, List.find?_append, hf]
  simpa using h

/-- The partner of a node, or -1. -/
def partnerP (l : List (Int × Int)) (x : Int) : Int := match l.find? (fun p => p.1 == x) with | some p => p.2 | none => -1

set_option maxHeartbeats 400000 in
theorem partner_any (h : Hp) (w : World) (hi : Imm h w) (v : Value) (l : List (Int × Int)) (x : Int) (hv : Prs h v l) :
    Calls Try.prog 58 #[v, .int .i64 x] w fun e w' => e = .returned (.int .i64 (partnerP l x)) ∧ w = w' := by
  obtain ⟨a, cap, rfl, hn, hc⟩ := hv.open
  replace hc := Lib.hid (hc w hi)
  clear hv hi
  go_enter Try.func58, Try.ntmps58
  go_wp2
  go_loop [4, 5, 6, 7, 8, 9, 10, 11, 12, 13, 14, 15, 16, 17, 18, 19, 20, 21, 22, 23] (fun _ i _ _ _ _ _ _ _ _ _ _ _ _ _ _ _ _ _ _ => ∃ k : Nat, k ≤ l.length ∧ i = .int .i64 k ∧ Hid ((l.take k).find? (fun p => p.1 == x) = none)) (fun _ i _ _ _ _ _ _ _ _ _ _ _ _ _ _ _ _ _ _ => l.length - (intOf i).toNat)
  case atStart => exact ⟨0, Nat.zero_le _, rfl, rfl⟩
  case round =>
    obtain ⟨k, hk, rfl, hw⟩ := hrel
    by_cases hlt : k < l.length
    · obtain ⟨b, off, rfl, -, hc⟩ := hc.out (by omega)
      obtain ⟨c0, c1⟩ := hc k hlt
      have H1 := Lib.hid (fun h => partner_take l x k hlt h hw.out)
      clear hc
      by_cases h1 : l[k].1 = x
      · have g1 := ibeqT h1
        have H2 : Hid (l.find? (fun p => p.1 == x) = some l[k]) := by
          have e : l = l.take k ++ l[k] :: l.drop (k + 1) := by simp
          have hw := hw.out
          generalize l[k] = y at *
          unfold Hid
          rw [e, List.find?_append, hw]
          simp [g1]
        clear h1 hw
        go_wp2
        go_ret
        exact ⟨by rw [partnerP, H2.out]; rfl, rfl⟩
      · have g1 := ibeqF h1
        have H2 : Hid (l[k].1 ≠ x) := h1
        clear h1
        go_wp2
        go_round
        case rel => exact ⟨k + 1, by omega, by go_num, H1.out H2.out⟩
        case measure => simp [intOf]; omega
    · go_wp2
      go_ret
      have := hw.out
      rw [List.take_of_length_le (by omega)] at this
      exact ⟨by rw [partnerP, this]; rfl, rfl⟩

set_option maxHeartbeats 400000 in
theorem narrow_any (h : Hp) (w : World) (hi : Imm h w) (v : Value) (l : List NodeP) (hv : Nds h v l) :
    Calls Try.prog 30 #[v] w fun e w' => e = .returned (.bool (decide (l.length ≤ 262144) && l.all fun n => decide (n.kids.length ≤ 400))) ∧ Below w.heap.size w w' := by
  obtain ⟨a, cap, rfl, hn, hc⟩ := hv.open
  replace hc := Lib.hid (fun w' hi => hc w' hi)
  clear hv
  by_cases hl : 262144 < l.length
  · go_enter Try.func30, Try.ntmps30
    go_wp2
    go_ret
    exact ⟨by simp; omega, Below.refl _ _⟩
  have hl2 : l.length ≤ 262144 := by omega
  go_enter Try.func30, Try.ntmps30
  go_wp2
  go_loopw [2, 4, 10, 11, 12, 13, 14, 15, 16, 17, 18] (fun _ _ i _ _ _ _ _ _ _ _ wr => ∃ k : Nat, k ≤ l.length ∧ i = .int .i64 k ∧ Hid ((l.take k).all (fun n => decide (n.kids.length ≤ 400)) = true) ∧ Below w.heap.size w wr) (fun _ _ i _ _ _ _ _ _ _ _ _ => l.length - (intOf i).toNat)
  case atStart => exact ⟨0, Nat.zero_le _, rfl, rfl, Below.refl _ _⟩
  case round =>
    obtain ⟨k, hk, rfl, hw, hB⟩ := hrel
    by_cases hlt : k < l.length
    · obtain ⟨b, off, ak, ck, rfl, -, c0, c1, c2, c3, c4, hk3, -⟩ := hc.out wr (hi.below hB) k hlt
      have hkl := hk3.1.len.1
      have Hx : Hid (l.take (k + 1) = l.take k ++ [l[k]]) := by unfold Hid; rw [List.take_add_one, List.getElem?_eq_getElem hlt]; rfl
      have Hm : Hid (l[k] ∈ l) := by unfold Hid; simp
      clear hk3
      by_cases h1 : 400 < l[k].kids.length
      · go_wp2
        go_ret
        refine ⟨?_, (hB.alloc hB.size _)⟩
        have : (l.all fun n => decide (n.kids.length ≤ 400)) = false := by rw [List.all_eq_false]; exact ⟨_, Hm.out, by simpa using h1⟩
        rw [this]; simp
      · go_wp2
        go_roundw
        case rel => exact ⟨k + 1, by omega, by go_num, by unfold Hid; rw [Hx.out, List.all_append, hw.out]; simp; omega, (hB.alloc hB.size _)⟩
        case measure => simp [intOf]; omega
    · go_wp2
      go_ret
      have := hw.out
      rw [List.take_of_length_le (by omega)] at this
      exact ⟨by rw [this]; simp [hl2], hB⟩
end Go.Proofs.Ytfifbadepebpeaa
