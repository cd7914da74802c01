/- The reference's Same of two matchings that are equal. -/
import Derived.Test.YtfifbadepebpeaaRb
import Derived.Test.YtfifbadepebpeaaBa
namespace Go.Proofs.Ytfifbadepebpeaa
open Go.RowKit

set_option maxRecDepth 100000 in
set_option maxHeartbeats 4000000 in
theorem rsame_true (h : Hp) (w : World) (hi : Imm h w) (v u : Value) (m : MatchP) (hv : MatchV h v m) (hu : MatchV h u m) :
    Calls Try.prog 12 #[v, u] w fun e w' => e = .returned (.bool true) ∧ Below w.heap.size w w' := by
  obtain ⟨ap, cp, ar, cr, rfl, i1, i2, hp, hr⟩ := hv
  obtain ⟨bp, dp, br, dr, rfl, -, -, hp', hr'⟩ := hu
  have HI := Lib.hid hi
  have HP := Lib.hid hp
  have HP' := Lib.hid hp'
  have hln : m.proof.length ≤ 140737488355328 := by obtain ⟨cs, s, _⟩ := hr; exact s.len.1
  have HR := Lib.hid hr
  have HR' := Lib.hid hr'
  clear hi hp hp' hr hr'
  go_enter Try.func12, Try.ntmps12
  go_wp2_with fail
  refine (samepairs_any h _ ((HI.out.alloc _).alloc _) _ _ _ _ HP.out HP'.out).mono ?_
  rintro e w1 ⟨rfl, hB1⟩
  have g1 : prsB m.pairs m.pairs = true := by simp [prsB]
  rw [g1]
  clear g1
  have hz1 : w.heap.size + 2 ≤ w1.heap.size := by have := hB1.size; simp at this; omega
  have HB0 : Hid (Below w.heap.size w w1) := (((Below.refl _ _).alloc (Nat.le_refl _) _).alloc (by simp) _).trans (hB1.mono (by simp; omega))
  have hbx : ∀ W, Below (w.heap.size + 2) w1 W → ∀ i, W.cell? ⟨w.heap.size, i, none⟩ = (#[.slice ap m.pairs.length cp, .int .i64 m.cost, .bool m.proven, .int .i64 m.bound, .slice ar m.proof.length cr] : Array Value)[i]? ∧ W.cell? ⟨w.heap.size + 1, i, none⟩ = (#[.slice bp m.pairs.length dp, .int .i64 m.cost, .bool m.proven, .int .i64 m.bound, .slice br m.proof.length dr] : Array Value)[i]? := fun W hW i => by
    refine ⟨?_, ?_⟩
    · rw [hW.cell (by show w.heap.size < _; omega), hB1.cell (by simp; omega), World.cell?_alloc_past _ _ _ (by simp), World.cell?_alloc_at _ _ _ _ rfl]
    · rw [hW.cell (by show w.heap.size + 1 < _; omega), hB1.cell (by simp), World.cell?_alloc_at _ _ _ _ (by simp)]
  have k1 : w1.cell? ⟨w.heap.size, 1, none⟩ = some (.int .i64 m.cost) := (hbx w1 (Below.refl _ _) 1).1
  have k2 : w1.cell? ⟨w.heap.size, 2, none⟩ = some (.bool m.proven) := (hbx w1 (Below.refl _ _) 2).1
  have k3 : w1.cell? ⟨w.heap.size, 3, none⟩ = some (.int .i64 m.bound) := (hbx w1 (Below.refl _ _) 3).1
  have k4 : w1.cell? ⟨w.heap.size, 4, none⟩ = some (.slice ar m.proof.length cr) := (hbx w1 (Below.refl _ _) 4).1
  have l1 : w1.cell? ⟨w.heap.size + 1, 1, none⟩ = some (.int .i64 m.cost) := (hbx w1 (Below.refl _ _) 1).2
  have l2 : w1.cell? ⟨w.heap.size + 1, 2, none⟩ = some (.bool m.proven) := (hbx w1 (Below.refl _ _) 2).2
  have l3 : w1.cell? ⟨w.heap.size + 1, 3, none⟩ = some (.int .i64 m.bound) := (hbx w1 (Below.refl _ _) 3).2
  have l4 : w1.cell? ⟨w.heap.size + 1, 4, none⟩ = some (.slice br m.proof.length dr) := (hbx w1 (Below.refl _ _) 4).2
  have HBX := Lib.hid hbx
  have I1 := Lib.hid (HI.out.below HB0.out)
  clear hbx hB1
  go_wp2_with fail
  go_loopw [4, 5, 42, 43, 44, 45, 46, 47, 48, 49, 50, 51, 52, 53, 54, 55, 56, 57, 58, 59, 60, 61, 62, 63, 64, 65, 66, 67, 68, 69, 70, 71, 72, 73, 74, 75, 76, 77, 78, 79, 80, 81, 82, 83, 84, 85, 86, 87, 88, 89, 90, 91, 92, 93, 94, 95, 96, 97, 98, 99, 100, 101, 102, 103, 104, 105, 106, 107] (fun _ i _ _ _ _ _ _ _ _ _ _ _ _ _ _ _ _ _ _ _ _ _ _ _ _ _ _ _ _ _ _ _ _ _ _ _ _ _ _ _ _ _ _ _ _ _ _ _ _ _ _ _ _ _ _ _ _ _ _ _ _ _ _ _ _ _ _ wr => ∃ k : Nat, k ≤ m.proof.length ∧ i = .int .i64 k ∧ Below w1.heap.size w1 wr) (fun _ i _ _ _ _ _ _ _ _ _ _ _ _ _ _ _ _ _ _ _ _ _ _ _ _ _ _ _ _ _ _ _ _ _ _ _ _ _ _ _ _ _ _ _ _ _ _ _ _ _ _ _ _ _ _ _ _ _ _ _ _ _ _ _ _ _ _ _ => m.proof.length - (intOf i).toNat)
  case atStart => exact ⟨0, Nat.zero_le _, rfl, Below.refl _ _⟩
  case round =>
    obtain ⟨k, hk, rfl, hB⟩ := hrel
    have m4 : wr.cell? ⟨w.heap.size, 4, none⟩ = some (.slice ar m.proof.length cr) := (HBX.out wr (hB.mono hz1) 4).1
    have n4 : wr.cell? ⟨w.heap.size + 1, 4, none⟩ = some (.slice br m.proof.length dr) := (HBX.out wr (hB.mono hz1) 4).2
    have IW := Lib.hid (I1.out.below hB)
    by_cases hlt : k < m.proof.length
    · obtain ⟨b1, o1, c1, e1, -, hra⟩ := HR.out.openI (by omega)
      simp only [Value.slice.injEq, true_and] at e1
      obtain ⟨rfl, rfl⟩ := e1
      obtain ⟨b2, o2, c2, e1, -, hrb⟩ := HR'.out.openI (by omega)
      simp only [Value.slice.injEq, true_and] at e1
      obtain ⟨rfl, rfl⟩ := e1
      obtain ⟨hb1, hra⟩ := hra wr IW.out
      obtain ⟨hb2, hrb⟩ := hrb wr IW.out
      obtain ⟨p1, q1, r1, s1, a0, a1, a2, a3, a4, a5, ha, -⟩ := hra k hlt
      obtain ⟨p2, q2, r2, s2, d0, d1, d2, d3, d4, d5, hd, -⟩ := hrb k hlt
      generalize m.proof[k] = t at *
      have HA := Lib.hid ha
      have HD := Lib.hid hd
      have u1 : (0 : Int) ≤ (k : Int) := by omega
      have u2 : (k : Int) < (m.proof.length : Int) := by omega
      have g2 : (t.a != t.a) = false := by simp
      have g3 : (t.b != t.b) = false := by simp
      have g4 : (t.cost != t.cost) = false := by simp
      have g5 : alSame t.kids t.kids = true := by simp [alSame]
      clear hra hrb ha hd
      have KC : Hid (∀ W, Below wr.drew.heap.size wr.drew W → ∀ b i, b < wr.heap.size → W.cell? ⟨b, i, none⟩ = wr.cell? ⟨b, i, none⟩) := fun W hW b i hb => hW.cell (p := ⟨b, i, none⟩) hb
      have zz : w.heap.size < wr.heap.size := by have := hB.size; omega
      have zz1 : w.heap.size + 1 < wr.heap.size := by have := hB.size; omega
      have HBB := Lib.hid hB
      have G5 := Lib.hid g5
      have J : Hid (Imm h wr.drew) := IW.out.drew
      clear g5 hB
      go_wp2_with fail
      go_region_held3 (fun w' => w'.cell? ⟨w.heap.size, 4, none⟩ = some (.slice (some ⟨b1, o1, none⟩) m.proof.length cr) ∧ w'.cell? ⟨w.heap.size + 1, 4, none⟩ = some (.slice (some ⟨b2, o2, none⟩) m.proof.length dr) ∧ w'.cell? ⟨b1, o1 + k * 6, none⟩ = some (.int .i64 t.a) ∧ w'.cell? ⟨b1, o1 + k * 6 + 1, none⟩ = some (.int .i64 t.b) ∧ w'.cell? ⟨b1, o1 + k * 6 + 2, none⟩ = some (.int .i64 t.cost) ∧ w'.cell? ⟨b1, o1 + k * 6 + 3, none⟩ = some (.slice p1 t.kids.pairs.length q1) ∧ w'.cell? ⟨b1, o1 + k * 6 + 4, none⟩ = some (.int .i64 t.kids.cost) ∧ w'.cell? ⟨b1, o1 + k * 6 + 5, none⟩ = some (.slice r1 t.kids.pot.length s1) ∧ w'.cell? ⟨b2, o2 + k * 6, none⟩ = some (.int .i64 t.a) ∧ w'.cell? ⟨b2, o2 + k * 6 + 1, none⟩ = some (.int .i64 t.b) ∧ w'.cell? ⟨b2, o2 + k * 6 + 2, none⟩ = some (.int .i64 t.cost) ∧ w'.cell? ⟨b2, o2 + k * 6 + 3, none⟩ = some (.slice p2 t.kids.pairs.length q2) ∧ w'.cell? ⟨b2, o2 + k * 6 + 4, none⟩ = some (.int .i64 t.kids.cost) ∧ w'.cell? ⟨b2, o2 + k * 6 + 5, none⟩ = some (.slice r2 t.kids.pot.length s2)) (first | go_keep | with_reducible exact ⟨x0, x1, x2, x3, x4, x5, x6, x7, x8, x9, x10, x11, x12, x13⟩) (first | (go_at_call 28; refine (r17same_any h _ (by exact J.out) _ _ t.kids t.kids HA.out HD.out).mono ?_; rintro e w3 ⟨rfl, hb3⟩; rw [G5.out]; have x0 : w3.cell? ⟨w.heap.size, 4, none⟩ = some (.slice (some ⟨b1, o1, none⟩) m.proof.length cr) := (KC.out _ hb3 _ _ (by omega)).trans m4; have x1 : w3.cell? ⟨w.heap.size + 1, 4, none⟩ = some (.slice (some ⟨b2, o2, none⟩) m.proof.length dr) := (KC.out _ hb3 _ _ (by omega)).trans n4; have x2 : w3.cell? ⟨b1, o1 + k * 6, none⟩ = some (.int .i64 t.a) := (KC.out _ hb3 _ _ (by omega)).trans a0; have x3 : w3.cell? ⟨b1, o1 + k * 6 + 1, none⟩ = some (.int .i64 t.b) := (KC.out _ hb3 _ _ (by omega)).trans a1; have x4 : w3.cell? ⟨b1, o1 + k * 6 + 2, none⟩ = some (.int .i64 t.cost) := (KC.out _ hb3 _ _ (by omega)).trans a2; have x5 : w3.cell? ⟨b1, o1 + k * 6 + 3, none⟩ = some (.slice p1 t.kids.pairs.length q1) := (KC.out _ hb3 _ _ (by omega)).trans a3; have x6 : w3.cell? ⟨b1, o1 + k * 6 + 4, none⟩ = some (.int .i64 t.kids.cost) := (KC.out _ hb3 _ _ (by omega)).trans a4; have x7 : w3.cell? ⟨b1, o1 + k * 6 + 5, none⟩ = some (.slice r1 t.kids.pot.length s1) := (KC.out _ hb3 _ _ (by omega)).trans a5; have x8 : w3.cell? ⟨b2, o2 + k * 6, none⟩ = some (.int .i64 t.a) := (KC.out _ hb3 _ _ (by omega)).trans d0; have x9 : w3.cell? ⟨b2, o2 + k * 6 + 1, none⟩ = some (.int .i64 t.b) := (KC.out _ hb3 _ _ (by omega)).trans d1; have x10 : w3.cell? ⟨b2, o2 + k * 6 + 2, none⟩ = some (.int .i64 t.cost) := (KC.out _ hb3 _ _ (by omega)).trans d2; have x11 : w3.cell? ⟨b2, o2 + k * 6 + 3, none⟩ = some (.slice p2 t.kids.pairs.length q2) := (KC.out _ hb3 _ _ (by omega)).trans d3; have x12 : w3.cell? ⟨b2, o2 + k * 6 + 4, none⟩ = some (.int .i64 t.kids.cost) := (KC.out _ hb3 _ _ (by omega)).trans d4; have x13 : w3.cell? ⟨b2, o2 + k * 6 + 5, none⟩ = some (.slice r2 t.kids.pot.length s2) := (KC.out _ hb3 _ _ (by omega)).trans d5; have BN : Hid (Below w1.heap.size w1 w3) := HBB.out.drew.trans (hb3.mono (by have := HBB.out.size; exact this)); clear hb3))
      go_wp2_with fail
      go_roundw
      case rel => exact ⟨k + 1, by omega, by go_num, BN.out⟩
      case measure => simp [intOf]; omega
    · go_wp2_with fail
      go_ret
      exact ⟨rfl, HB0.out.trans (hB.mono (by have := HB0.out.size; omega))⟩
end Go.Proofs.Ytfifbadepebpeaa
