/- The walk of MatchingCosts. -/
import Derived.Test.YtfifbadepebpeaaRz
import Derived.Test.YtfifbadepebpeaaRx
import Derived.Test.YtfifbadepebpeaaLs
namespace Go.Proofs.Ytfifbadepebpeaa
open Go.RowKit

set_option maxRecDepth 100000 in
set_option maxHeartbeats 8000000 in
theorem costs_any (h : Hp) (w : World) (hi : Imm h w) (al : Option Addr) (cl : Nat) (L : List Int) (hl : Ints h (.slice al L.length cl) L) (hlt : L.length ≤ 120) (hcl : L.length ≤ cl) (k : Int) (hk : I64 k) (vm : Value) (M : List Int) (hm : Ints h vm M) (hmt : M.length ≤ 120)
    (vp : Value) (ps : List (Int × Int)) (hp : Prs h vp ps) (hpt : ps.length ≤ 100) :
    Calls Try.prog 7 #[.slice al L.length cl, .int .i64 k, vm, vp] w fun e w' => e = .returned (.bool true) ∧ Below w.heap.size w w' := by
  have HI := Lib.hid hi
  have HL := Lib.hid hl
  have HM := Lib.hid hm
  have HP := Lib.hid hp
  have HK := Lib.hid hk
  obtain ⟨am, cm, rfl, -, -⟩ := hm.open
  obtain ⟨ap, cp, rfl, -, -⟩ := hp.open
  clear hi hl hm hp hk
  have g1 : decide ((L.length : Int) ≤ 120) = true := by simp; omega
  have g2 : decide ((M.length : Int) ≤ 120) = true := by simp; omega
  have g3 : decide (100 < ps.length) = false := by simp; omega
  go_enter Try.func7, Try.ntmps7
  go_wp2_with fail
  refine (Light_any _ al L.length cl (by omega)).mono ?_
  rintro e w1 ⟨rfl, rfl⟩
  rw [g1]
  go_wp2_with fail
  refine (Light_any _ am M.length cm (by omega)).mono ?_
  rintro e w1 ⟨rfl, rfl⟩
  rw [g2]
  go_wp2_with fail
  refine (defs_any h _ HI.out al cl L HL.out (by omega) hcl k HK.out _ M HM.out (by omega)).mono ?_
  rintro e w0 ⟨va, vb, rfl, h1, a, b, S1, TA, TB, ⟨za, -⟩, zb, -⟩
  obtain ⟨al1, cl1, ak1, ck1, -, rfl, -, -, -, -, -, -⟩ := TA.open
  obtain ⟨al2, cl2, ak2, ck2, -, rfl, -, -, -, -, -, -⟩ := TB.open
  have SA := Lib.hid S1
  have HTA := Lib.hid TA
  have HTB := Lib.hid TB
  have HP1 := Lib.hid (HP.out.mono S1.le)
  clear S1 TA TB
  have XA1 : Hid (Bx h1 ((w0.alloc (Obj.cells #[.int .i64 a.kind, .string a.text, .slice al1 a.leads.length cl1, .slice ak1 a.kids.length ck1] 25)).alloc (Obj.cells #[.int .i64 b.kind, .string b.text, .slice al2 b.leads.length cl2, .slice ak2 b.kids.length ck2] 25)) w0.heap.size #[.int .i64 a.kind, .string a.text, .slice al1 a.leads.length cl1, .slice ak1 a.kids.length ck1]) := (Bx.new SA.out.imm _ _).alloc _
  have RB0' := Bx.new (SA.out.imm.alloc (Obj.cells #[.int .i64 a.kind, .string a.text, .slice al1 a.leads.length cl1, .slice ak1 a.kids.length ck1] 25)) #[.int .i64 b.kind, .string b.text, .slice al2 b.leads.length cl2, .slice ak2 b.kids.length ck2] 25
  have e7 : (w0.alloc (Obj.cells #[.int .i64 a.kind, .string a.text, .slice al1 a.leads.length cl1, .slice ak1 a.kids.length ck1] 25)).heap.size = w0.heap.size + 1 := by simp
  rw [e7] at RB0'
  have XB1 := Lib.hid RB0'
  have S1 := Lib.hid ((SA.out.alloc (Obj.cells #[.int .i64 a.kind, .string a.text, .slice al1 a.leads.length cl1, .slice ak1 a.kids.length ck1] 25)).alloc (Obj.cells #[.int .i64 b.kind, .string b.text, .slice al2 b.leads.length cl2, .slice ak2 b.kids.length ck2] 25))
  clear RB0' e7
  have SZA : Hid (a.size ≤ 262144) := by unfold Hid; omega
  have SZB : Hid (b.size ≤ 262144) := by unfold Hid; omega
  have SYA : Hid (a.size ≤ 400) := by unfold Hid; omega
  have SYB : Hid (b.size ≤ 400) := by unfold Hid; omega
  have PX := Lib.hid (flatP_po a)
  have PY := Lib.hid (flatP_po b)
  generalize hpr : priceP (flatP a) (flatP b) ps = pr
  have HPR := Lib.hid hpr
  clear hpr
  go_wp2_with fail
  refine (mcost_any h1 _ S1.out.imm _ _ _ a b ps HTA.out HTB.out SZA.out SZB.out HP1.out).mono ?_
  rintro e w2 ⟨rfl, hb2⟩
  rw [HPR.out]
  have S2 := Lib.hid (S1.out.same hb2)
  have XA2 := Lib.hid (XA1.out.bel hb2)
  have XB2 := Lib.hid (XB1.out.bel hb2)
  clear hb2
  obtain ⟨⟨c0, c1, c2, c3⟩, -⟩ := XA2.out.four
  obtain ⟨⟨c4, c5, c6, c7⟩, -⟩ := XB2.out.four
  have z1 := XA2.out.has.lt
  have z2 := XB2.out.has.lt
  go_wp2_with fail
  refine (rCost_any h1 _ S2.out.imm _ _ _ a b ps HTA.out HTB.out SZA.out SZB.out HP1.out).mono ?_
  rintro e w3 ⟨rfl, hb3⟩
  rw [HPR.out]
  have S3 := Lib.hid (S2.out.same hb3)
  have XA3 := Lib.hid (XA2.out.bel hb3)
  have XB3 := Lib.hid (XB2.out.bel hb3)
  clear hb3 c0 c1 c2 c3 c4 c5 c6 c7 z1 z2
  obtain ⟨⟨c0, c1, c2, c3⟩, -⟩ := XA3.out.four
  obtain ⟨⟨c4, c5, c6, c7⟩, -⟩ := XB3.out.four
  have z1 := XA3.out.has.lt
  have z2 := XB3.out.has.lt
  go_wp2_with fail
  refine (rmatch_any h1 _ S3.out.imm _ _ a b HTA.out HTB.out 500 (by unfold I64; omega) SYA.out SYB.out).mono ?_
  rintro e w4 ⟨v4, rfl, h4, T4, M4⟩
  have f1 := Lib.hid (match_price PX.out PY.out 500)
  generalize matchM (flatP a) (flatP b) 500 = X at *
  obtain ⟨apx, cpx, arx, crx, rfl, i1, i2, hpx, hrx⟩ := M4
  have JP := Lib.hid hpx
  have S4 := Lib.hid (S3.out.call T4)
  have XA4 := Lib.hid ((XA3.out.below T4).alloc (Obj.cells #[.slice apx X.pairs.length cpx, .int .i64 X.cost, .bool X.proven, .int .i64 X.bound, .slice arx X.proof.length crx] 32))
  have XB4 := Lib.hid ((XB3.out.below T4).alloc (Obj.cells #[.slice apx X.pairs.length cpx, .int .i64 X.cost, .bool X.proven, .int .i64 X.bound, .slice arx X.proof.length crx] 32))
  have TA4 := Lib.hid (HTA.out.mono T4.le)
  have TB4 := Lib.hid (HTB.out.mono T4.le)
  clear T4 i1 i2 hpx hrx c0 c1 c2 c3 c4 c5 c6 c7 z1 z2
  have RX4 := Lib.hid (Bx.new S4.out.imm #[.slice apx X.pairs.length cpx, .int .i64 X.cost, .bool X.proven, .int .i64 X.bound, .slice arx X.proof.length crx] 32)
  have S5 := Lib.hid (S4.out.alloc (Obj.cells #[.slice apx X.pairs.length cpx, .int .i64 X.cost, .bool X.proven, .int .i64 X.bound, .slice arx X.proof.length crx] 32))
  obtain ⟨⟨c0, c1, c2, c3⟩, -⟩ := XA4.out.four
  obtain ⟨⟨c4, c5, c6, c7⟩, -⟩ := XB4.out.four
  have z1 := XA4.out.has.lt
  have z2 := XB4.out.has.lt
  obtain ⟨x0, x1, x2, x3, x4⟩ := RX4.out.five
  go_wp2_with fail
  refine (mcost_any h4 _ S5.out.imm _ _ _ a b X.pairs TA4.out TB4.out SZA.out SZB.out JP.out).mono ?_
  rintro e w6 ⟨rfl, hb6⟩
  rw [f1.out]
  have S6 := Lib.hid (S5.out.same hb6)
  have RX6 := Lib.hid (RX4.out.bel hb6)
  clear hb6 c0 c1 c2 c3 c4 c5 c6 c7 z1 z2 x0 x1 x2 x3 x4
  simp only [Option.getD_some, Option.isSome_some]
  go_wp2_with fail
  refine (awake_any _).mono ?_
  rintro e w7 ⟨rfl, hb7⟩
  have S7 := Lib.hid (S6.out.same hb7)
  have RX7 := Lib.hid (RX6.out.bel hb7)
  clear hb7
  obtain ⟨y0, y1, y2, y3, y4⟩ := RX7.out.five
  have zy := RX7.out.has.lt
  have q1 : (X.cost == X.cost) = true := by simp
  cases pr with
  | none =>
    simp only [Option.getD_none, Option.isSome_none]
    go_wp2_with fail
    go_ret
    exact ⟨rfl, S7.out.below⟩
  | some c =>
    have q2 : (c == c) = true := by simp
    simp only [Option.getD_some, Option.isSome_some]
    go_wp2_with fail
    go_ret
    exact ⟨rfl, S7.out.below⟩

set_option maxHeartbeats 2000000 in
theorem costs_big (w : World) (a1 a2 a3 : Option Addr) (n1 c1 n2 c2 n3 c3 : Nat) (k : Int) (h1 : n1 ≤ 9223372036854775807) (h2 : n2 ≤ 9223372036854775807) (_h3 : n3 ≤ 9223372036854775807) (hb : 120 < n1 ∨ 120 < n2 ∨ 100 < n3) :
    Calls Try.prog 7 #[.slice a1 n1 c1, .int .i64 k, .slice a2 n2 c2, .slice a3 n3 c3] w fun e w' => e = .returned (.bool true) ∧ Below w.heap.size w w' := by
  by_cases g : 120 < n1
  · have g1 : decide ((n1 : Int) ≤ 120) = false := by simp; omega
    clear hb
    go_enter Try.func7, Try.ntmps7
    go_wp2_with fail
    refine (Light_any _ a1 n1 c1 h1).mono ?_
    rintro e w1 ⟨rfl, rfl⟩
    rw [g1]
    go_wp2_with fail
    refine (awake_any _).mono ?_
    rintro e w2 ⟨rfl, hb2⟩
    have B2 := Lib.hid hb2
    clear hb2
    go_wp2_with fail
    go_ret
    exact ⟨rfl, B2.out⟩
  have g1 : decide ((n1 : Int) ≤ 120) = true := by simp; omega
  by_cases g' : 120 < n2
  · have g2 : decide ((n2 : Int) ≤ 120) = false := by simp; omega
    clear hb
    go_enter Try.func7, Try.ntmps7
    go_wp2_with fail
    refine (Light_any _ a1 n1 c1 h1).mono ?_
    rintro e w1 ⟨rfl, rfl⟩
    rw [g1]
    go_wp2_with fail
    refine (Light_any _ a2 n2 c2 h2).mono ?_
    rintro e w1 ⟨rfl, rfl⟩
    rw [g2]
    go_wp2_with fail
    refine (awake_any _).mono ?_
    rintro e w2 ⟨rfl, hb2⟩
    have B2 := Lib.hid hb2
    clear hb2
    go_wp2_with fail
    go_ret
    exact ⟨rfl, B2.out⟩
  have g2 : decide ((n2 : Int) ≤ 120) = true := by simp; omega
  have g3 : 100 < n3 := by omega
  have g4 : decide (100 < n3) = true := by simpa using g3
  clear hb
  go_enter Try.func7, Try.ntmps7
  go_wp2_with fail
  refine (Light_any _ a1 n1 c1 h1).mono ?_
  rintro e w1 ⟨rfl, rfl⟩
  rw [g1]
  go_wp2_with fail
  refine (Light_any _ a2 n2 c2 h2).mono ?_
  rintro e w1 ⟨rfl, rfl⟩
  rw [g2]
  go_wp2_with fail
  refine (awake_any _).mono ?_
  rintro e w2 ⟨rfl, hb2⟩
  have B2 := Lib.hid hb2
  clear hb2
  go_wp2_with fail
  go_ret
  exact ⟨rfl, B2.out⟩
end Go.Proofs.Ytfifbadepebpeaa
