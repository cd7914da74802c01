/- The walks of MatchingTrees and of MatchingMade. -/
import Derived.Test.YtfifbadepebpeaaRz
import Derived.Test.YtfifbadepebpeaaRc
import Derived.Test.YtfifbadepebpeaaLs
namespace Go.Proofs.Ytfifbadepebpeaa
open Go.RowKit

set_option maxRecDepth 100000 in
set_option maxHeartbeats 8000000 in
theorem trees_any (h : Hp) (w : World) (hi : Imm h w) (va vb : Value) (a b : Tree) (bd : Int) (hbd : I64 bd) (ha : TreeV h va a) (hb : TreeV h vb b) (sa : a.size ≤ 1048576) (sb : b.size ≤ 1048576) :
    Calls Try.prog 3 #[va, vb, .int .i64 bd] w fun e w' => e = .returned (.bool true) ∧ Below w.heap.size w w' := by
  have HTA := Lib.hid ha
  have HTB := Lib.hid hb
  have HI := Lib.hid hi
  have HBD := Lib.hid hbd
  obtain ⟨al1, cl1, ak1, ck1, -, rfl, -, -, -, -, -, -⟩ := ha.open
  obtain ⟨al2, cl2, ak2, ck2, -, rfl, -, -, -, -, -, -⟩ := hb.open
  clear hi ha hb hbd
  generalize hlb : lightB a b = lb
  have HLB := Lib.hid hlb
  clear hlb
  go_enter Try.func3, Try.ntmps3
  go_upto_region 1 with fail
  have I0 : Hid (Imm h ((w.alloc (Obj.cells #[.int .i64 a.kind, .string a.text, .slice al1 a.leads.length cl1, .slice ak1 a.kids.length ck1] 25)).alloc (Obj.cells #[.int .i64 b.kind, .string b.text, .slice al2 b.leads.length cl2, .slice ak2 b.kids.length ck2] 25))) := (HI.out.alloc _).alloc _
  have S0 : Hid (St w.heap.size h w h ((w.alloc (Obj.cells #[.int .i64 a.kind, .string a.text, .slice al1 a.leads.length cl1, .slice ak1 a.kids.length ck1] 25)).alloc (Obj.cells #[.int .i64 b.kind, .string b.text, .slice al2 b.leads.length cl2, .slice ak2 b.kids.length ck2] 25))) := ((St.refl HI.out).alloc _).alloc _
  have RA0 : Hid (Bx h ((w.alloc (Obj.cells #[.int .i64 a.kind, .string a.text, .slice al1 a.leads.length cl1, .slice ak1 a.kids.length ck1] 25)).alloc (Obj.cells #[.int .i64 b.kind, .string b.text, .slice al2 b.leads.length cl2, .slice ak2 b.kids.length ck2] 25)) w.heap.size #[.int .i64 a.kind, .string a.text, .slice al1 a.leads.length cl1, .slice ak1 a.kids.length ck1]) := (Bx.new HI.out _ _).alloc _
  have RB0' := Bx.new (HI.out.alloc (Obj.cells #[.int .i64 a.kind, .string a.text, .slice al1 a.leads.length cl1, .slice ak1 a.kids.length ck1] 25)) #[.int .i64 b.kind, .string b.text, .slice al2 b.leads.length cl2, .slice ak2 b.kids.length ck2] 25
  have e7 : (w.alloc (Obj.cells #[.int .i64 a.kind, .string a.text, .slice al1 a.leads.length cl1, .slice ak1 a.kids.length ck1] 25)).heap.size = w.heap.size + 1 := by simp
  rw [e7] at RB0'
  have RB0 := Lib.hid RB0'
  clear RB0' e7
  go_wp2_with fail
  refine (light_any h _ I0.out _ _ a b HTA.out HTB.out (by omega) (by omega)).mono ?_
  rintro e w1 ⟨rfl, hb1⟩
  rw [HLB.out]
  have SD := Lib.hid (S0.out.same hb1)
  have XA := Lib.hid (RA0.out.bel hb1)
  have XB := Lib.hid (RB0.out.bel hb1)
  clear hb1 I0 S0 RA0 RB0
  cases lb
  · go_wp2_with fail
    refine (awake_any _).mono ?_
    rintro e w2 ⟨rfl, hb2⟩
    have B2 := Lib.hid (SD.out.same hb2).below
    clear hb2
    go_wp2_with fail
    go_ret
    exact ⟨rfl, B2.out⟩
  have hsz : a.size ≤ 120 ∧ b.size ≤ 120 := by
    have := HLB.out
    unfold lightB at this
    simp only [Bool.and_eq_true, decide_eq_true_eq] at this
    exact this
  have SZA : Hid (a.size ≤ 262144) := by unfold Hid; omega
  have SZB : Hid (b.size ≤ 262144) := by unfold Hid; omega
  have SYA : Hid (a.size ≤ 400) := by unfold Hid; omega
  have SYB : Hid (b.size ≤ 400) := by unfold Hid; omega
  go_wp2_with fail
  have IW : Hid (Imm h w1.drew) := SD.out.imm.drew
  obtain ⟨⟨c0, c1, c2, c3⟩, -⟩ := XA.out.four
  obtain ⟨⟨c4, c5, c6, c7⟩, -⟩ := XB.out.four
  have z1 : w.heap.size < w1.heap.size := XA.out.has.lt
  have z2 : w.heap.size + 1 < w1.heap.size := XB.out.has.lt
  go_region_held3 (fun w' => w'.cell? ⟨w.heap.size, 0, none⟩ = some (.int .i64 a.kind) ∧ w'.cell? ⟨w.heap.size, 1, none⟩ = some (.string a.text) ∧ w'.cell? ⟨w.heap.size, 2, none⟩ = some (.slice al1 a.leads.length cl1) ∧ w'.cell? ⟨w.heap.size, 3, none⟩ = some (.slice ak1 a.kids.length ck1) ∧ w'.cell? ⟨w.heap.size + 1, 0, none⟩ = some (.int .i64 b.kind) ∧ w'.cell? ⟨w.heap.size + 1, 1, none⟩ = some (.string b.text) ∧ w'.cell? ⟨w.heap.size + 1, 2, none⟩ = some (.slice al2 b.leads.length cl2) ∧ w'.cell? ⟨w.heap.size + 1, 3, none⟩ = some (.slice ak2 b.kids.length ck2)) (first | (go_keep; done) | with_reducible exact ⟨m0, m1, m2, m3, m4, m5, m6, m7⟩ | with_reducible exact ⟨n0, n1, n2, n3, n4, n5, n6, n7⟩ | with_reducible exact ⟨p0, p1, p2, p3, p4, p5, p6, p7⟩ | with_reducible exact ⟨q0, q1, q2, q3, q4, q5, q6, q7⟩)
    (first
      | (go_at_call 11; (with_reducible refine (awake_any _).mono ?_); rintro e w2 ⟨rfl, hb2⟩; have S2 := Lib.hid (SD.out.drew.same hb2); have XA2 := Lib.hid (XA.out.drew.bel hb2); have XB2 := Lib.hid (XB.out.drew.bel hb2); clear hb2; obtain ⟨⟨m0, m1, m2, m3⟩, -⟩ := XA2.out.four; obtain ⟨⟨m4, m5, m6, m7⟩, -⟩ := XB2.out.four; have zm1 := XA2.out.has.lt; have zm2 := XB2.out.has.lt)
      | (go_at_call 13; (with_reducible refine (match_any h _ S2.out.imm _ _ a b bd HBD.out HTA.out HTB.out SZA.out SZB.out).mono ?_); rintro e w3 ⟨v3, rfl, h3, T3, M3⟩; have S3 := Lib.hid (S2.out.call T3); have XA3 := Lib.hid (XA2.out.below T3); have XB3 := Lib.hid (XB2.out.below T3); have MM3 := Lib.hid M3; have TA3 := Lib.hid (HTA.out.mono T3.le); have TB3 := Lib.hid (HTB.out.mono T3.le); clear T3 M3; obtain ⟨⟨n0, n1, n2, n3⟩, -⟩ := XA3.out.four; obtain ⟨⟨n4, n5, n6, n7⟩, -⟩ := XB3.out.four; have zn1 := XA3.out.has.lt; have zn2 := XB3.out.has.lt)
      | (go_at_call 14; (with_reducible refine (rmatch_any h3 _ S3.out.imm _ _ a b TA3.out TB3.out bd HBD.out SYA.out SYB.out).mono ?_); rintro e w4 ⟨v4, rfl, h4, T4, M4⟩; have S4 := Lib.hid (S3.out.call T4); have XA4 := Lib.hid (XA3.out.below T4); have XB4 := Lib.hid (XB3.out.below T4); have MM4 := Lib.hid M4; have MN3 := Lib.hid (MM3.out.mono T4.le); clear T4 M4; obtain ⟨⟨p0, p1, p2, p3⟩, -⟩ := XA4.out.four; obtain ⟨⟨p4, p5, p6, p7⟩, -⟩ := XB4.out.four; have zp1 := XA4.out.has.lt; have zp2 := XB4.out.has.lt)
      | (go_at_call 12; (with_reducible refine (rsame_true h4 _ S4.out.imm _ _ _ MN3.out MM4.out).mono ?_); rintro e w5 ⟨rfl, hb5⟩; have S5 := Lib.hid (S4.out.same hb5); have XA5 := Lib.hid (XA4.out.bel hb5); have XB5 := Lib.hid (XB4.out.bel hb5); clear hb5; obtain ⟨⟨q0, q1, q2, q3⟩, -⟩ := XA5.out.four; obtain ⟨⟨q4, q5, q6, q7⟩, -⟩ := XB5.out.four))
  go_wp2_with fail
  go_ret
  exact ⟨rfl, S5.out.below⟩

set_option maxRecDepth 100000 in
set_option maxHeartbeats 8000000 in
theorem made_any (h : Hp) (w : World) (hi : Imm h w) (al : Option Addr) (cl : Nat) (L : List Int) (hl : Ints h (.slice al L.length cl) L) (hlt : L.length ≤ 120) (hcl : L.length ≤ cl) (k : Int) (hk : I64 k) (vm : Value) (M : List Int) (hm : Ints h vm M) (hmt : M.length ≤ 120) (bd : Int) (hb : I64 bd) :
    Calls Try.prog 4 #[.slice al L.length cl, .int .i64 k, vm, .int .i64 bd] w fun e w' => e = .returned (.bool true) ∧ Below w.heap.size w w' := by
  have HI := Lib.hid hi
  have HL := Lib.hid hl
  have HM := Lib.hid hm
  have HK := Lib.hid hk
  have HB := Lib.hid hb
  obtain ⟨am, cm, rfl, -, -⟩ := hm.open
  clear hi hl hm hk hb
  have g1 : decide ((L.length : Int) ≤ 120) = true := by simp; omega
  have g2 : decide ((M.length : Int) ≤ 120) = true := by simp; omega
  go_enter Try.func4, Try.ntmps4
  go_wp2_with fail
  refine (Light_any _ al L.length cl (by omega)).mono ?_
  rintro e w1 ⟨rfl, rfl⟩
  rw [g1]
  go_wp2_with fail
  refine (Light_any _ am M.length cm (by omega)).mono ?_
  rintro e w1 ⟨rfl, rfl⟩
  rw [g2]
  go_wp2_with fail
  refine (defs_any h _ HI.out al cl L HL.out (by omega) hcl k HK.out _ M HM.out (by omega)).mono ?_
  rintro e w0 ⟨va, vb, rfl, h1, a, b, S1, TA, TB, ⟨za, -⟩, zb, -⟩
  obtain ⟨al1, cl1, ak1, ck1, -, rfl, -, -, -, -, -, -⟩ := TA.open
  obtain ⟨al2, cl2, ak2, ck2, -, rfl, -, -, -, -, -, -⟩ := TB.open
  have SA := Lib.hid S1
  have HTA := Lib.hid TA
  have HTB := Lib.hid TB
  clear S1 TA TB
  have RA0 : Hid (Bx h1 ((w0.alloc (Obj.cells #[.int .i64 a.kind, .string a.text, .slice al1 a.leads.length cl1, .slice ak1 a.kids.length ck1] 25)).alloc (Obj.cells #[.int .i64 b.kind, .string b.text, .slice al2 b.leads.length cl2, .slice ak2 b.kids.length ck2] 25)) w0.heap.size #[.int .i64 a.kind, .string a.text, .slice al1 a.leads.length cl1, .slice ak1 a.kids.length ck1]) := (Bx.new SA.out.imm _ _).alloc _
  have RB0' := Bx.new (SA.out.imm.alloc (Obj.cells #[.int .i64 a.kind, .string a.text, .slice al1 a.leads.length cl1, .slice ak1 a.kids.length ck1] 25)) #[.int .i64 b.kind, .string b.text, .slice al2 b.leads.length cl2, .slice ak2 b.kids.length ck2] 25
  have e7 : (w0.alloc (Obj.cells #[.int .i64 a.kind, .string a.text, .slice al1 a.leads.length cl1, .slice ak1 a.kids.length ck1] 25)).heap.size = w0.heap.size + 1 := by simp
  rw [e7] at RB0'
  have RB0 := Lib.hid RB0'
  have SD0 := Lib.hid ((SA.out.alloc (Obj.cells #[.int .i64 a.kind, .string a.text, .slice al1 a.leads.length cl1, .slice ak1 a.kids.length ck1] 25)).alloc (Obj.cells #[.int .i64 b.kind, .string b.text, .slice al2 b.leads.length cl2, .slice ak2 b.kids.length ck2] 25))
  clear RB0' e7
  go_wp2_with fail
  refine (mod_any _ bd 500 HB.out (by omega) (by omega)).mono ?_
  rintro e w1 ⟨rfl, rfl⟩
  generalize hw1 : (w0.alloc (Obj.cells #[.int .i64 a.kind, .string a.text, .slice al1 a.leads.length cl1, .slice ak1 a.kids.length ck1] 25)).alloc (Obj.cells #[.int .i64 b.kind, .string b.text, .slice al2 b.leads.length cl2, .slice ak2 b.kids.length ck2] 25) = w1 at *
  have XA := RA0
  have XB := RB0
  have SD := SD0
  clear hw1 RA0 RB0 SD0
  have mb := modP_bd bd 500 (by omega)
  have ZM : Hid (I64 (modP bd 500)) := by unfold Hid I64; omega
  have SZA : Hid (a.size ≤ 262144) := by unfold Hid; omega
  have SZB : Hid (b.size ≤ 262144) := by unfold Hid; omega
  have SYA : Hid (a.size ≤ 400) := by unfold Hid; omega
  have SYB : Hid (b.size ≤ 400) := by unfold Hid; omega
  go_wp2_with fail
  have IW : Hid (Imm h1 w1.drew) := SD.out.imm.drew
  obtain ⟨⟨c0, c1, c2, c3⟩, -⟩ := XA.out.four
  obtain ⟨⟨c4, c5, c6, c7⟩, -⟩ := XB.out.four
  have z1 : w0.heap.size < w1.heap.size := XA.out.has.lt
  have z2 : w0.heap.size + 1 < w1.heap.size := XB.out.has.lt
  go_region_held3 (fun w' => w'.cell? ⟨w0.heap.size, 0, none⟩ = some (.int .i64 a.kind) ∧ w'.cell? ⟨w0.heap.size, 1, none⟩ = some (.string a.text) ∧ w'.cell? ⟨w0.heap.size, 2, none⟩ = some (.slice al1 a.leads.length cl1) ∧ w'.cell? ⟨w0.heap.size, 3, none⟩ = some (.slice ak1 a.kids.length ck1) ∧ w'.cell? ⟨w0.heap.size + 1, 0, none⟩ = some (.int .i64 b.kind) ∧ w'.cell? ⟨w0.heap.size + 1, 1, none⟩ = some (.string b.text) ∧ w'.cell? ⟨w0.heap.size + 1, 2, none⟩ = some (.slice al2 b.leads.length cl2) ∧ w'.cell? ⟨w0.heap.size + 1, 3, none⟩ = some (.slice ak2 b.kids.length ck2)) (first | (go_keep; done) | with_reducible exact ⟨m0, m1, m2, m3, m4, m5, m6, m7⟩ | with_reducible exact ⟨n0, n1, n2, n3, n4, n5, n6, n7⟩ | with_reducible exact ⟨p0, p1, p2, p3, p4, p5, p6, p7⟩ | with_reducible exact ⟨q0, q1, q2, q3, q4, q5, q6, q7⟩)
    (first
      | (go_at_call 11; (with_reducible refine (awake_any _).mono ?_); rintro e w2 ⟨rfl, hb2⟩; have S2 := Lib.hid (SD.out.drew.same hb2); have XA2 := Lib.hid (XA.out.drew.bel hb2); have XB2 := Lib.hid (XB.out.drew.bel hb2); clear hb2; obtain ⟨⟨m0, m1, m2, m3⟩, -⟩ := XA2.out.four; obtain ⟨⟨m4, m5, m6, m7⟩, -⟩ := XB2.out.four; have zm1 := XA2.out.has.lt; have zm2 := XB2.out.has.lt)
      | (go_at_call 13; (with_reducible refine (match_any h1 _ S2.out.imm _ _ a b (modP bd 500) ZM.out HTA.out HTB.out SZA.out SZB.out).mono ?_); rintro e w3 ⟨v3, rfl, h3, T3, M3⟩; have S3 := Lib.hid (S2.out.call T3); have XA3 := Lib.hid (XA2.out.below T3); have XB3 := Lib.hid (XB2.out.below T3); have MM3 := Lib.hid M3; have TA3 := Lib.hid (HTA.out.mono T3.le); have TB3 := Lib.hid (HTB.out.mono T3.le); clear T3 M3; obtain ⟨⟨n0, n1, n2, n3⟩, -⟩ := XA3.out.four; obtain ⟨⟨n4, n5, n6, n7⟩, -⟩ := XB3.out.four; have zn1 := XA3.out.has.lt; have zn2 := XB3.out.has.lt)
      | (go_at_call 14; (with_reducible refine (rmatch_any h3 _ S3.out.imm _ _ a b TA3.out TB3.out (modP bd 500) ZM.out SYA.out SYB.out).mono ?_); rintro e w4 ⟨v4, rfl, h4, T4, M4⟩; have S4 := Lib.hid (S3.out.call T4); have XA4 := Lib.hid (XA3.out.below T4); have XB4 := Lib.hid (XB3.out.below T4); have MM4 := Lib.hid M4; have MN3 := Lib.hid (MM3.out.mono T4.le); clear T4 M4; obtain ⟨⟨p0, p1, p2, p3⟩, -⟩ := XA4.out.four; obtain ⟨⟨p4, p5, p6, p7⟩, -⟩ := XB4.out.four; have zp1 := XA4.out.has.lt; have zp2 := XB4.out.has.lt)
      | (go_at_call 12; (with_reducible refine (rsame_true h4 _ S4.out.imm _ _ _ MN3.out MM4.out).mono ?_); rintro e w5 ⟨rfl, hb5⟩; have S5 := Lib.hid (S4.out.same hb5); have XA5 := Lib.hid (XA4.out.bel hb5); have XB5 := Lib.hid (XB4.out.bel hb5); clear hb5; obtain ⟨⟨q0, q1, q2, q3⟩, -⟩ := XA5.out.four; obtain ⟨⟨q4, q5, q6, q7⟩, -⟩ := XB5.out.four))
  go_wp2_with fail
  go_ret
  exact ⟨rfl, S5.out.below⟩

set_option maxHeartbeats 2000000 in
theorem made_big (w : World) (a1 a2 : Option Addr) (n1 c1 n2 c2 : Nat) (k bd : Int) (h1 : n1 ≤ 9223372036854775807) (h2 : n2 ≤ 9223372036854775807) (hb : 120 < n1 ∨ 120 < n2) :
    Calls Try.prog 4 #[.slice a1 n1 c1, .int .i64 k, .slice a2 n2 c2, .int .i64 bd] w fun e w' => e = .returned (.bool true) ∧ Below w.heap.size w w' := by
  by_cases g : 120 < n1
  · have g1 : decide ((n1 : Int) ≤ 120) = false := by simp; omega
    clear hb
    go_enter Try.func4, Try.ntmps4
    go_wp2_with fail
    refine (Light_any _ a1 n1 c1 h1).mono ?_
    rintro e w1 ⟨rfl, rfl⟩
    rw [g1]
    go_wp2_with fail
    refine (awake_any _).mono ?_
    rintro e w2 ⟨rfl, hb2⟩
    have B2 := Lib.hid hb2
    clear hb2
    go_wp2_with fail
    go_ret
    exact ⟨rfl, B2.out⟩
  have g1 : decide ((n1 : Int) ≤ 120) = true := by simp; omega
  have g2 : decide ((n2 : Int) ≤ 120) = false := by simp; omega
  clear hb
  go_enter Try.func4, Try.ntmps4
  go_wp2_with fail
  refine (Light_any _ a1 n1 c1 h1).mono ?_
  rintro e w1 ⟨rfl, rfl⟩
  rw [g1]
  go_wp2_with fail
  refine (Light_any _ a2 n2 c2 h2).mono ?_
  rintro e w1 ⟨rfl, rfl⟩
  rw [g2]
  go_wp2_with fail
  refine (awake_any _).mono ?_
  rintro e w2 ⟨rfl, hb2⟩
  have B2 := Lib.hid hb2
  clear hb2
  go_wp2_with fail
  go_ret
  exact ⟨rfl, B2.out⟩
end Go.Proofs.Ytfifbadepebpeaa
