/- The walk of MatchingSelf. -/
import Derived.Test.YtfifbadepebpeaaBc
import Derived.Test.YtfifbadepebpeaaBn
namespace Go.Proofs.Ytfifbadepebpeaa
open Go.RowKit

theorem Bx.five {h : Hp} {w : World} {b : Nat} {v0 v1 v2 v3 v4 : Value} (x : Bx h w b #[v0, v1, v2, v3, v4]) : w.cell? ⟨b, 0, none⟩ = some v0 ∧ w.cell? ⟨b, 1, none⟩ = some v1 ∧ w.cell? ⟨b, 2, none⟩ = some v2 ∧ w.cell? ⟨b, 3, none⟩ = some v3 ∧ w.cell? ⟨b, 4, none⟩ = some v4 :=
  ⟨x.has.cl 0, x.has.cl 1, x.has.cl 2, x.has.cl 3, x.has.cl 4⟩
theorem Bx.five' {h : Hp} {w : World} {b : Nat} {v0 v1 v2 v3 v4 : Value} (x : Bx h w b #[v0, v1, v2, v3, v4]) : (w.cell? ⟨b, 0, none⟩ = some v0 ∧ w.cell? ⟨b, 1, none⟩ = some v1 ∧ w.cell? ⟨b, 2, none⟩ = some v2 ∧ w.cell? ⟨b, 3, none⟩ = some v3 ∧ w.cell? ⟨b, 4, none⟩ = some v4) ∧
    w.frozen? ⟨b, 0, none⟩ = false ∧ w.frozen? ⟨b, 1, none⟩ = false ∧ w.frozen? ⟨b, 2, none⟩ = false ∧ w.frozen? ⟨b, 3, none⟩ = false ∧ w.frozen? ⟨b, 4, none⟩ = false :=
  ⟨x.five, x.has.fz 0, x.has.fz 1, x.has.fz 2, x.has.fz 3, x.has.fz 4⟩
theorem Has.set5 {w : World} {b : Nat} {a0 a1 a2 a3 a4 : Value} (x : Has w b #[a0, a1, a2, a3, a4]) (v0 v1 v2 v3 v4 : Value) :
    Has (((((w.setCell ⟨b, 0, none⟩ v0).setCell ⟨b, 1, none⟩ v1).setCell ⟨b, 2, none⟩ v2).setCell ⟨b, 3, none⟩ v3).setCell ⟨b, 4, none⟩ v4) b #[v0, v1, v2, v3, v4] := by
  have := ((((x.set1 0 (by simp) v0).set1 1 (by simp) v1).set1 2 (by simp) v2).set1 3 (by simp) v3).set1 4 (by simp) v4
  simpa using this
theorem Bx.bel {h : Hp} {w w1 : World} {b : Nat} {c : Array Value} (x : Bx h w b c) (s : Below w.heap.size w w1) : Bx h w1 b c := ⟨x.has.below s, x.no⟩

theorem diff_kind {t : Tree} (hk : t.kind = 2 ∨ t.kind = 3) (s : ByteArray) (b : Int) : matchM (flatP t) (flatP (numT s)) b = { pairs := [], cost := (t.size : Int) + 1, proven := true, bound := (t.size : Int) + 1, proof := [] } := by
  have e1 : (nd (flatP t) 0).kind = t.kind := by unfold nd flatP; rw [flatAt_eq]; rfl
  have e2 : (nd (flatP (numT s)) 0).kind = 10 := rfl
  have e3 : (numT s).size = 1 := by simp [numT, Tree.size, sizes]
  unfold matchM
  rw [if_neg (by rw [e1, e2]; omega), flatP_length, flatP_length, e3]
  rfl

theorem match_num (h : Hp) (w : World) (hi : Imm h w) (va : Value) (t : Tree) (ha : TreeV h va t) (hs : t.size ≤ 120) (hk : t.kind = 2 ∨ t.kind = 3) :
    Calls Try.prog 13 #[va, .agg #[.int .i64 10, .string ⟨#[49]⟩, .slice none 0 0, .slice none 0 0], .int .i64 1048576] w fun e w' => ∃ v, e = .returned v ∧ ∃ h', St w.heap.size h w h' w' ∧ ∃ aq cq aj cj, v = .agg #[.slice aq 0 cq, .int .i64 ((t.size : Int) + 1), .bool true, .int .i64 ((t.size : Int) + 1), .slice aj 0 cj] := by
  refine (match_any h w hi va _ t (numT ⟨#[49]⟩) 1048576 (by unfold I64; omega) ha ⟨[.int .i64 10, .string ⟨#[49]⟩, .slice none 0 0, .slice none 0 0], rfl, encNum h _⟩ (by omega) (by simp [numT, Tree.size, sizes])).mono ?_
  rintro e w' ⟨v, rfl, h', S, M⟩
  rw [diff_kind hk] at M
  obtain ⟨aq, cq, aj, cj, rfl, -, -, -, -⟩ := M
  exact ⟨_, rfl, h', S, aq, cq, aj, cj, rfl⟩

set_option maxHeartbeats 1000000 in
theorem self_big (w : World) (a : Option Addr) (n c : Nat) (hn : 120 < n) (hm : n ≤ 9223372036854775807) :
    Calls Try.prog 6 #[.slice a n c] w fun e w' => e = .returned (.bool true) ∧ Below w.heap.size w w' := by
  have g1 : decide ((n : Int) ≤ 120) = false := by simp; omega
  go_enter Try.func6, Try.ntmps6
  go_wp2_with fail
  refine (Light_any _ a n c hm).mono ?_
  rintro e w1 ⟨rfl, rfl⟩
  rw [g1]
  go_wp2_with fail
  refine (awake_any _).mono ?_
  rintro e w2 ⟨rfl, hb2⟩
  have B2 := Lib.hid hb2
  clear hb2
  go_wp2_with fail
  go_ret
  exact ⟨rfl, B2.out⟩

set_option maxRecDepth 100000 in
set_option maxHeartbeats 4000000 in
theorem self_any (h : Hp) (w : World) (hi : Imm h w) (vl : Value) (L : List Int) (hl : Ints h vl L) (hlt : L.length ≤ 120) :
    Calls Try.prog 6 #[vl] w fun e w' => e = .returned (.bool true) ∧ Below w.heap.size w w' := by
  have HI := Lib.hid hi
  have HL := Lib.hid hl
  obtain ⟨al, cl, rfl, hln, -⟩ := hl.open
  clear hi hl
  have g1 : decide ((L.length : Int) ≤ 120) = true := by simp; omega
  go_enter Try.func6, Try.ntmps6
  go_wp2_with fail
  refine (Light_any _ al L.length cl (by omega)).mono ?_
  rintro e w1 ⟨rfl, rfl⟩
  rw [g1]
  go_wp2_with fail
  refine (roll_any h _ HI.out _ L HL.out (by omega)).mono ?_
  rintro e w1 ⟨g0, rfl, hg1, h1, S1, D1⟩
  have SA := Lib.hid S1
  have D1 := Lib.hid D1
  clear S1
  go_wp2_with fail
  refine (def_any h1 _ SA.out.imm g0 L 0 D1.out).mono ?_
  rintro e w2 ⟨v2, rfl, h2, t, S2, T2, Z2⟩
  obtain ⟨al2, cl2, ak2, ck2, -, rfl, -, -, -, -, -, -⟩ := T2.open
  have SB := Lib.hid (SA.out.dst S2 hg1)
  have T2 := Lib.hid T2
  obtain ⟨hsz, hkd⟩ := Z2
  have HK := Lib.hid hkd
  have PO1 := Lib.hid (flatP_po t)
  have NW := Lib.hid (narrow_of (t := t) (by omega))
  clear S2 hkd
  have R0 := Lib.hid (Bx.new SB.out.imm #[.int .i64 t.kind, .string t.text, .slice al2 t.leads.length cl2, .slice ak2 t.kids.length ck2] 25)
  have IB : Hid (Imm h2 (w2.alloc (Obj.cells #[.int .i64 t.kind, .string t.text, .slice al2 t.leads.length cl2, .slice ak2 t.kids.length ck2] 25))) := SB.out.imm.alloc _
  go_wp2_with fail
  refine (match_any h2 _ IB.out _ _ t t 1048576 (by unfold I64; omega) T2.out T2.out (by omega) (by omega)).mono ?_
  rintro e w3 ⟨v3, rfl, h3, S3, M3⟩
  obtain ⟨ap, cp, ar, cr, rfl, -, -, hpr, -⟩ := M3
  have hlen := flatP_length t
  have hms := match_self PO1.out NW.out 1048576 (by rw [hlen]; have : t.size * t.size ≤ 120 * 120 := Nat.mul_le_mul hsz hsz; omega)
  obtain ⟨e1, e2, e3⟩ := hms
  rw [hlen] at e3
  rw [e1, e2, e3]
  rw [e3] at hpr
  generalize (matchM (flatP t) (flatP t) 1048576) = mm at *
  have e4 : (idP t.size).length = t.size := by simp [idP]
  rw [e4]
  rw [e4] at hpr
  have PR := Lib.hid hpr
  have SC := Lib.hid ((SB.out.alloc _).call S3)
  have R1 := Lib.hid (R0.out.below S3)
  have TC := Lib.hid (T2.out.mono S3.le)
  have R1' := R1.out.four
  obtain ⟨⟨c0, c1, c2, c3⟩, f0, f1, f2, f3⟩ := R1'
  have hz3 : w2.heap.size < w3.heap.size := R1.out.has.lt
  clear S3 hpr e1 e2 e3 e4 hlen
  have X0 := Lib.hid (Bx.new SC.out.imm #[.slice ap t.size cp, .int .i64 0, .bool true, .int .i64 mm.bound, .slice ar mm.proof.length cr] 32)
  have IC : Hid (Imm h3 (w3.alloc (Obj.cells #[.slice ap t.size cp, .int .i64 0, .bool true, .int .i64 mm.bound, .slice ar mm.proof.length cr] 32))) := SC.out.imm.alloc _
  go_wp2_with fail
  refine (rsize_any t.size h3 _ IC.out _ t TC.out (Nat.le_refl _) (by omega)).mono ?_
  rintro e w4 ⟨rfl, hb4⟩
  have SD := Lib.hid ((SC.out.alloc (Obj.cells #[.slice ap t.size cp, .int .i64 0, .bool true, .int .i64 mm.bound, .slice ar mm.proof.length cr] 32)).same hb4)
  have X1 := Lib.hid (X0.out.bel hb4)
  have R2 := Lib.hid ((R1.out.alloc (Obj.cells #[.slice ap t.size cp, .int .i64 0, .bool true, .int .i64 mm.bound, .slice ar mm.proof.length cr] 32)).bel hb4)
  have X1' := X1.out.five
  obtain ⟨x0, x1, x2, x3, x4⟩ := X1'
  have R2' := R2.out.four
  obtain ⟨⟨r0, r1, r2, r3⟩, -⟩ := R2'
  have hz4 : w3.heap.size < w4.heap.size := X1.out.has.lt
  have hz4' : w2.heap.size < w4.heap.size := R2.out.has.lt
  clear hb4 c0 c1 c2 c3 f0 f1 f2 f3
  have hpos : 0 < t.size := by have := t.size_eq; omega
  obtain ⟨a5, cap5, e5, -, hcel⟩ := PR.out.open
  have e4 : (idP t.size).length = t.size := by simp [idP]
  simp only [e4, Value.slice.injEq, true_and] at e5
  obtain ⟨rfl, rfl⟩ := e5
  obtain ⟨bp, off, rfl, hbp, hcel⟩ := hcel w4 (SD.out.imm) (by rw [e4]; exact hpos)
  have hce : Hid (∀ i, i < t.size → w4.cell? ⟨bp, off + i * 2, none⟩ = some (.int .i64 (i : Int)) ∧ w4.cell? ⟨bp, off + i * 2 + 1, none⟩ = some (.int .i64 (i : Int))) := fun i hi => by
    have := hcel i (by rw [e4]; exact hi)
    simpa [idP] using this
  clear hcel e4
  go_wp2_with fail
  go_loop [2, 6, 35, 36, 37, 38, 39, 40, 41, 42, 43, 44, 45, 46, 47, 48] (fun _ i _ _ _ _ _ _ _ _ _ _ _ _ _ _ => ∃ j : Nat, j ≤ t.size ∧ i = .int .i64 j) (fun _ i _ _ _ _ _ _ _ _ _ _ _ _ _ _ => t.size - (intOf i).toNat)
  case atStart => exact ⟨0, Nat.zero_le _, rfl⟩
  case round =>
    obtain ⟨j, hj, rfl⟩ := hrel
    by_cases hjt : j < t.size
    · obtain ⟨y0, y1⟩ := hce.out j hjt
      have u1 : (0 : Int) ≤ (j : Int) := by omega
      have u2 : (j : Int) < (t.size : Int) := by omega
      go_wp2_with fail
      go_round
      case rel => exact ⟨j + 1, by omega, by go_num⟩
      case measure => simp [intOf]; omega
    · obtain rfl : j = t.size := by omega
      have g3 : decide (t.size < t.size) = false := by simp
      have I4 := Lib.hid SD.out.imm
      have TD := Lib.hid TC.out
      go_wp2_with fail
      have J1 : Hid (Imm h3 w4.drew) := I4.out.drew
      have J2 : Hid (Imm h3 (w4.alloc (Obj.cells #[.slice none 0 0, .int .i64 0, .bool false, .int .i64 0, .slice none 0 0] 32)).drew) := (I4.out.alloc _).drew
      have n1' : w2.heap.size ≠ w4.heap.size := by omega
      have n2' : w4.heap.size ≠ w2.heap.size := by omega
      have hz4'' : w2.heap.size < w4.heap.size + 1 := by omega
      go_region_held3 (fun w' => w'.cell? ⟨w2.heap.size, 0, none⟩ = some (.int .i64 t.kind) ∧ w'.cell? ⟨w2.heap.size, 1, none⟩ = some (.string t.text) ∧ w'.cell? ⟨w2.heap.size, 2, none⟩ = some (.slice al2 t.leads.length cl2) ∧ w'.cell? ⟨w2.heap.size, 3, none⟩ = some (.slice ak2 t.kids.length ck2)) (first | go_keep | with_reducible exact ⟨n0, n1, n2, n3⟩ | with_reducible exact ⟨m0, m1, m2, m3⟩) (first | (go_at_call 23; (with_reducible refine (num_any h3 _ J1.out ⟨#[49]⟩).mono ?_); rintro e w5 ⟨rfl, hb5⟩; have SE := Lib.hid (SD.out.drew.same hb5); have R3 := Lib.hid ((R2.out.drew).bel hb5); have R3' := R3.out.four; obtain ⟨⟨n0, n1, n2, n3⟩, -⟩ := R3'; have hz5 : w2.heap.size < w5.heap.size := R3.out.has.lt; have hz5' : w2.heap.size < w5.heap.size + 1 := (by omega); have nn1 : w2.heap.size ≠ w5.heap.size := (by omega); have nn2 : w5.heap.size ≠ w2.heap.size := (by omega); clear hb5) | (go_at_call 23; (with_reducible refine (num_any h3 _ J2.out ⟨#[49]⟩).mono ?_); rintro e w5 ⟨rfl, hb5⟩; have SE := Lib.hid ((SD.out.alloc _).drew.same hb5); have R3 := Lib.hid (((R2.out.alloc _).drew).bel hb5); have R3' := R3.out.four; obtain ⟨⟨n0, n1, n2, n3⟩, -⟩ := R3'; have hz5 : w2.heap.size < w5.heap.size := R3.out.has.lt; have hz5' : w2.heap.size < w5.heap.size + 1 := (by omega); have nn1 : w2.heap.size ≠ w5.heap.size := (by omega); have nn2 : w5.heap.size ≠ w2.heap.size := (by omega); have NB := Lib.hid (((Bx.new I4.out #[.slice none 0 0, .int .i64 0, .bool false, .int .i64 0, .slice none 0 0] 32).drew).bel hb5); have ⟨⟨b0, b1, b2, b3, b4⟩, l0, l1, l2, l3, l4⟩ := NB.out.five'; have nbz : w4.heap.size < w5.heap.size := NB.out.has.lt; clear hb5) | (go_at_call 13; (with_reducible refine (match_num h3 _ SE.out.imm _ t TD.out hsz HK.out).mono ?_); rintro e w6 ⟨v6, rfl, h6, S6, aq, cq, aj, cj, rfl⟩; have SF := Lib.hid (SE.out.call S6); have R4 := Lib.hid (R3.out.below S6); have R4' := R4.out.four; obtain ⟨⟨m0, m1, m2, m3⟩, -⟩ := R4'; have hz6 : w2.heap.size < w6.heap.size := R4.out.has.lt; (try (have NC := Lib.hid (NB.out.below S6); have ⟨⟨d0, d1, d2, d3, d4⟩, o0, o1, o2, o3, o4⟩ := NC.out.five'; have ncz : w4.heap.size < w6.heap.size := NC.out.has.lt)); clear S6) | (go_at_call 13; (with_reducible refine (match_num h3 _ (SE.out.imm.alloc (Obj.cells #[.slice none 0 0, .int .i64 0, .bool false, .int .i64 0, .slice none 0 0] 32)) _ t TD.out hsz HK.out).mono ?_); rintro e w6 ⟨v6, rfl, h6, S6, aq, cq, aj, cj, rfl⟩; have SF := Lib.hid ((SE.out.alloc _).call S6); have R4 := Lib.hid ((R3.out.alloc _).below S6); have R4' := R4.out.four; obtain ⟨⟨m0, m1, m2, m3⟩, -⟩ := R4'; have hz6 : w2.heap.size < w6.heap.size := R4.out.has.lt; have NC := Lib.hid ((Bx.new SE.out.imm #[.slice none 0 0, .int .i64 0, .bool false, .int .i64 0, .slice none 0 0] 32).below S6); have ⟨⟨d0, d1, d2, d3, d4⟩, o0, o1, o2, o3, o4⟩ := NC.out.five'; have ncz : w5.heap.size < w6.heap.size := NC.out.has.lt; clear S6))
      · go_wp2_with fail
        refine (awake_any _).mono ?_
        rintro e w7 ⟨rfl, hb7⟩
        have Y := Has.below (Has.new w6 #[.slice aq 0 cq, .int .i64 ((t.size : Int) + 1), .bool true, .int .i64 ((t.size : Int) + 1), .slice aj 0 cj] 32) hb7
        have y0 : w7.cell? ⟨w6.heap.size, 0, none⟩ = some (.slice aq 0 cq) := Y.cl 0
        have y1 : w7.cell? ⟨w6.heap.size, 1, none⟩ = some (.int .i64 ((t.size : Int) + 1)) := Y.cl 1
        have y2 : w7.cell? ⟨w6.heap.size, 2, none⟩ = some (.bool true) := Y.cl 2
        have SG := Lib.hid (St.same (SF.out.alloc _) hb7)
        clear hb7 Y
        go_wp2_with fail
        go_ret
        exact ⟨rfl, SG.out.below⟩
      · go_wp2_with fail
        refine (awake_any _).mono ?_
        rintro e w7 ⟨rfl, hb7⟩
        have Y := Has.below (NC.out.has.set5 (.slice aq 0 cq) (.int .i64 ((t.size : Int) + 1)) (.bool true) (.int .i64 ((t.size : Int) + 1)) (.slice aj 0 cj)) hb7
        have y0 : w7.cell? ⟨w5.heap.size, 0, none⟩ = some (.slice aq 0 cq) := Y.cl 0
        have y1 : w7.cell? ⟨w5.heap.size, 1, none⟩ = some (.int .i64 ((t.size : Int) + 1)) := Y.cl 1
        have y2 : w7.cell? ⟨w5.heap.size, 2, none⟩ = some (.bool true) := Y.cl 2
        have SG := Lib.hid (St.same (set5 SF.out (by have := SD.out.below.size; have := SE.out.below.size; omega) NC.out.no (.slice aq 0 cq) (.int .i64 ((t.size : Int) + 1)) (.bool true) (.int .i64 ((t.size : Int) + 1)) (.slice aj 0 cj)) hb7)
        clear hb7 Y
        go_wp2_with fail
        go_ret
        exact ⟨rfl, SG.out.below⟩
      · go_wp2_with fail
        refine (awake_any _).mono ?_
        rintro e w7 ⟨rfl, hb7⟩
        have Y := Has.below (NC.out.has.set5 (.slice aq 0 cq) (.int .i64 ((t.size : Int) + 1)) (.bool true) (.int .i64 ((t.size : Int) + 1)) (.slice aj 0 cj)) hb7
        have y0 : w7.cell? ⟨w4.heap.size, 0, none⟩ = some (.slice aq 0 cq) := Y.cl 0
        have y1 : w7.cell? ⟨w4.heap.size, 1, none⟩ = some (.int .i64 ((t.size : Int) + 1)) := Y.cl 1
        have y2 : w7.cell? ⟨w4.heap.size, 2, none⟩ = some (.bool true) := Y.cl 2
        have SG := Lib.hid (St.same (set5 SF.out (by have := SD.out.below.size; have := SE.out.below.size; omega) NC.out.no (.slice aq 0 cq) (.int .i64 ((t.size : Int) + 1)) (.bool true) (.int .i64 ((t.size : Int) + 1)) (.slice aj 0 cj)) hb7)
        clear hb7 Y
        go_wp2_with fail
        go_ret
        exact ⟨rfl, SG.out.below⟩
end Go.Proofs.Ytfifbadepebpeaa
