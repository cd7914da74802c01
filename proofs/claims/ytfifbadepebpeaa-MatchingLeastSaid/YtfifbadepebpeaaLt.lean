/- The walk of MatchingLeast. -/
import Derived.Test.YtfifbadepebpeaaLs
namespace Go.Proofs.Ytfifbadepebpeaa
open Go.RowKit

theorem Bx.ne5 {h : Hp} {w : World} {b b' : Nat} {c : Array Value} (x : Bx h w b c) (hb : b' ≠ b) (v0 v1 v2 v3 v4 : Value) :
    Bx h (((((w.setCell ⟨b', 0, none⟩ v0).setCell ⟨b', 1, none⟩ v1).setCell ⟨b', 2, none⟩ v2).setCell ⟨b', 3, none⟩ v3).setCell ⟨b', 4, none⟩ v4) b c :=
  ⟨((((x.has.ne hb 0 v0).ne hb 1 v1).ne hb 2 v2).ne hb 3 v3).ne hb 4 v4, x.no⟩

set_option maxRecDepth 100000 in
set_option maxHeartbeats 8000000 in
theorem mleast_any (h : Hp) (w : World) (hi : Imm h w) (al : Option Addr) (cl : Nat) (L : List Int) (hl : Ints h (.slice al L.length cl) L) (hlt : L.length ≤ 120) (hcl : L.length ≤ cl) (k : Int) (hk : I64 k) (vm : Value) (M : List Int) (hm : Ints h vm M) (hmt : M.length ≤ 120)
    (vp : Value) (ps : List (Int × Int)) (hp : Prs h vp ps) (hpt : ps.length ≤ 100) (bd : Int) (hb : I64 bd) :
    Calls Try.prog 8 #[.slice al L.length cl, .int .i64 k, vm, vp, .int .i64 bd] w fun e w' => e = .returned (.bool true) ∧ Below w.heap.size w w' := by
  have HI := Lib.hid hi
  have HL := Lib.hid hl
  have HM := Lib.hid hm
  have HP := Lib.hid hp
  have HK := Lib.hid hk
  have HB := Lib.hid hb
  obtain ⟨am, cm, rfl, -, -⟩ := hm.open
  obtain ⟨ap, cp, rfl, -, -⟩ := hp.open
  clear hi hl hm hp hk hb
  have g1 : decide ((L.length : Int) ≤ 120) = true := by simp; omega
  have g2 : decide ((M.length : Int) ≤ 120) = true := by simp; omega
  have g3 : decide (100 < ps.length) = false := by simp; omega
  go_enter Try.func8, Try.ntmps8
  go_wp2_with fail
  refine (Light_any _ al L.length cl (by omega)).mono ?_
  rintro e w1 ⟨rfl, rfl⟩
  rw [g1]
  go_wp2_with fail
  refine (Light_any _ am M.length cm (by omega)).mono ?_
  rintro e w1 ⟨rfl, rfl⟩
  rw [g2]
  go_wp2_with fail
  refine (defs_any h _ HI.out al cl L HL.out (by omega) hcl k HK.out _ M HM.out (by omega)).mono ?_
  rintro e w1 ⟨va, vb, rfl, h1, a, b, S1, TA, TB, ⟨za, -⟩, zb, -⟩
  obtain ⟨al1, cl1, ak1, ck1, -, rfl, -, -, -, -, -, -⟩ := TA.open
  obtain ⟨al2, cl2, ak2, ck2, -, rfl, -, -, -, -, -, -⟩ := TB.open
  have SA := Lib.hid S1
  have TA := Lib.hid TA
  have TB := Lib.hid TB
  have PX := Lib.hid (flatP_po a)
  have PY := Lib.hid (flatP_po b)
  have NX := Lib.hid (narrow_of (t := a) (by omega))
  have NY := Lib.hid (narrow_of (t := b) (by omega))
  have HQ : Hid (((((flatP a).length * (flatP b).length : Nat) : Int)) ≤ 1048576) := by
    unfold Hid
    rw [flatP_length, flatP_length]
    have : a.size * b.size ≤ 120 * 120 := Nat.mul_le_mul za zb
    omega
  clear S1
  have RA0 : Hid (Bx h1 ((w1.alloc (Obj.cells #[.int .i64 a.kind, .string a.text, .slice al1 a.leads.length cl1, .slice ak1 a.kids.length ck1] 25)).alloc (Obj.cells #[.int .i64 b.kind, .string b.text, .slice al2 b.leads.length cl2, .slice ak2 b.kids.length ck2] 25)) w1.heap.size #[.int .i64 a.kind, .string a.text, .slice al1 a.leads.length cl1, .slice ak1 a.kids.length ck1]) := (Bx.new SA.out.imm _ _).alloc _
  have RB0' := Bx.new (SA.out.imm.alloc (Obj.cells #[.int .i64 a.kind, .string a.text, .slice al1 a.leads.length cl1, .slice ak1 a.kids.length ck1] 25)) #[.int .i64 b.kind, .string b.text, .slice al2 b.leads.length cl2, .slice ak2 b.kids.length ck2] 25
  have e7 : (w1.alloc (Obj.cells #[.int .i64 a.kind, .string a.text, .slice al1 a.leads.length cl1, .slice ak1 a.kids.length ck1] 25)).heap.size = w1.heap.size + 1 := by simp
  rw [e7] at RB0'
  have RB0 := Lib.hid RB0'
  clear RB0' e7
  have I2 : Hid (Imm h1 ((w1.alloc (Obj.cells #[.int .i64 a.kind, .string a.text, .slice al1 a.leads.length cl1, .slice ak1 a.kids.length ck1] 25)).alloc (Obj.cells #[.int .i64 b.kind, .string b.text, .slice al2 b.leads.length cl2, .slice ak2 b.kids.length ck2] 25))) := (SA.out.imm.alloc _).alloc _
  have ZB : Hid (I64 1048576) := by unfold Hid I64; omega
  go_wp2_with fail
  refine (match_any h1 _ I2.out _ _ a b 1048576 ZB.out TA.out TB.out (by omega) (by omega)).mono ?_
  rintro e w3 ⟨v3, rfl, h3, S3, M3⟩
  have f1 := match_proven PX.out PY.out NX.out NY.out 1048576 HQ.out
  have f2 : Hid (∀ ps c, priceP (flatP a) (flatP b) ps = some c → (matchM (flatP a) (flatP b) 1048576).cost ≤ c) := fun ps c hc => match_least PX.out PY.out NX.out NY.out 1048576 HQ.out hc
  have f3 : Hid (∀ r, (matchM (flatP a) (flatP b) r).bound ≤ (matchM (flatP a) (flatP b) 1048576).cost) := fun r => match_bound PX.out PY.out 1048576 r
  have f4 := Lib.hid (match_verify PX.out PY.out 1048576)
  generalize matchM (flatP a) (flatP b) 1048576 = X at *
  obtain ⟨f5, f6⟩ := f1
  obtain ⟨apx, cpx, arx, crx, rfl, i1, i2, hpx, hrx⟩ := M3
  have MX : Hid (MatchV h3 (.agg #[.slice apx X.pairs.length cpx, .int .i64 X.cost, .bool true, .int .i64 X.cost, .slice arx X.proof.length crx]) X) := ⟨apx, cpx, arx, crx, by rw [f5, f6], i1, i2, hpx, hrx⟩
  rw [f5, f6]
  have SC := Lib.hid (((SA.out.alloc _).alloc _).call S3)
  have RA1 := Lib.hid (RA0.out.below S3)
  have RB1 := Lib.hid (RB0.out.below S3)
  have TA1 := Lib.hid (TA.out.mono S3.le)
  have TB1 := Lib.hid (TB.out.mono S3.le)
  have HP1 := Lib.hid (HP.out.mono (Hp.le_trans SA.out.le S3.le))
  have hz3 : w1.heap.size + 1 < w3.heap.size := RB1.out.has.lt
  clear S3 f5 f6 i1 i2 hpx hrx
  have RX0 := Lib.hid (Bx.new SC.out.imm #[.slice apx X.pairs.length cpx, .int .i64 X.cost, .bool true, .int .i64 X.cost, .slice arx X.proof.length crx] 32)
  have SD := Lib.hid (SC.out.alloc (Obj.cells #[.slice apx X.pairs.length cpx, .int .i64 X.cost, .bool true, .int .i64 X.cost, .slice arx X.proof.length crx] 32))
  have RA2 := Lib.hid (RA1.out.alloc (Obj.cells #[.slice apx X.pairs.length cpx, .int .i64 X.cost, .bool true, .int .i64 X.cost, .slice arx X.proof.length crx] 32))
  have RB2 := Lib.hid (RB1.out.alloc (Obj.cells #[.slice apx X.pairs.length cpx, .int .i64 X.cost, .bool true, .int .i64 X.cost, .slice arx X.proof.length crx] 32))
  go_wp2_with fail
  have hsz4 : w3.heap.size < (w3.alloc (Obj.cells #[.slice apx X.pairs.length cpx, .int .i64 X.cost, .bool true, .int .i64 X.cost, .slice arx X.proof.length crx] 32)).heap.size := by simp
  generalize hw4 : w3.alloc (Obj.cells #[.slice apx X.pairs.length cpx, .int .i64 X.cost, .bool true, .int .i64 X.cost, .slice arx X.proof.length crx] 32) = w4 at *
  have HW4 := Lib.hid hw4
  clear hw4
  have I4 := Lib.hid SD.out.imm
  have J1 : Hid (Imm h3 w4.drew) := I4.out.drew
  have J2 : Hid (Imm h3 (w4.alloc (Obj.cells #[.slice none 0 0, .int .i64 0, .bool false, .int .i64 0, .slice none 0 0] 32)).drew) := (I4.out.alloc _).drew
  have mb := modP_bd bd 200 (by omega)
  have ZM : Hid (I64 (modP bd 200)) := by unfold Hid I64; omega
  have ZA : Hid (a.size ≤ 262144) := by unfold Hid; omega
  have ZBB : Hid (b.size ≤ 262144) := by unfold Hid; omega
  obtain ⟨Y, hY⟩ : ∃ Y, Y = matchM (flatP a) (flatP b) (modP bd 200) := ⟨_, rfl⟩
  have HY := Lib.hid hY
  clear hY
  obtain ⟨⟨c0, c1, c2, c3⟩, -⟩ := RA2.out.four
  obtain ⟨⟨c4, c5, c6, c7⟩, -⟩ := RB2.out.four
  have z1 : w1.heap.size < w4.heap.size := RA2.out.has.lt
  have z2 : w1.heap.size + 1 < w4.heap.size := RB2.out.has.lt
  have z3 : w1.heap.size < w4.heap.size + 1 := by omega
  have z4 : w1.heap.size + 1 < w4.heap.size + 1 := by omega
  have n1 : w1.heap.size ≠ w4.heap.size := by omega
  have n2 : w4.heap.size ≠ w1.heap.size := by omega
  have n3 : w1.heap.size + 1 ≠ w4.heap.size := by omega
  have n4 : w4.heap.size ≠ w1.heap.size + 1 := by omega
  go_region_held3 (fun w' => w'.cell? ⟨w1.heap.size, 0, none⟩ = some (.int .i64 a.kind) ∧ w'.cell? ⟨w1.heap.size, 1, none⟩ = some (.string a.text) ∧ w'.cell? ⟨w1.heap.size, 2, none⟩ = some (.slice al1 a.leads.length cl1) ∧ w'.cell? ⟨w1.heap.size, 3, none⟩ = some (.slice ak1 a.kids.length ck1) ∧ w'.cell? ⟨w1.heap.size + 1, 0, none⟩ = some (.int .i64 b.kind) ∧ w'.cell? ⟨w1.heap.size + 1, 1, none⟩ = some (.string b.text) ∧ w'.cell? ⟨w1.heap.size + 1, 2, none⟩ = some (.slice al2 b.leads.length cl2) ∧ w'.cell? ⟨w1.heap.size + 1, 3, none⟩ = some (.slice ak2 b.kids.length ck2)) (first | go_keep | with_reducible exact ⟨m0, m1, m2, m3, m4, m5, m6, m7⟩) (first | (go_at_call 17; refine (mod_any _ bd 200 HB.out (by omega) (by omega)).mono ?_; rintro e w5 ⟨rfl, rfl⟩) | (go_at_call 13; (with_reducible refine (match_any h3 _ J1.out _ _ a b (modP bd 200) ZM.out TA1.out TB1.out ZA.out ZBB.out).mono ?_); rintro e w6 ⟨v6, rfl, h6, S6, M6⟩; have SF := Lib.hid (SD.out.drew.call S6); have RA3 := Lib.hid ((RA2.out).drew.below S6); have RB3 := Lib.hid ((RB2.out).drew.below S6); have RX3 := Lib.hid ((RX0.out).drew.below S6); rw [← HY.out] at M6; obtain ⟨apy, cpy, ary, cry, rfl, j1, j2, jp, jr⟩ := M6; have MY : Hid (MatchV h6 (.agg #[.slice apy Y.pairs.length cpy, .int .i64 Y.cost, .bool Y.proven, .int .i64 Y.bound, .slice ary Y.proof.length cry]) Y) := ⟨apy, cpy, ary, cry, rfl, j1, j2, jp, jr⟩; have JP := Lib.hid jp; have LE := Lib.hid S6.le; obtain ⟨⟨m0, m1, m2, m3⟩, -⟩ := RA3.out.four; obtain ⟨⟨m4, m5, m6, m7⟩, -⟩ := RB3.out.four; have hz6 : w1.heap.size < w6.heap.size := RA3.out.has.lt; have hz6' : w1.heap.size + 1 < w6.heap.size := RB3.out.has.lt; clear S6 j1 j2 jp jr) | (go_at_call 13; (with_reducible refine (match_any h3 _ J2.out _ _ a b (modP bd 200) ZM.out TA1.out TB1.out ZA.out ZBB.out).mono ?_); rintro e w6 ⟨v6, rfl, h6, S6, M6⟩; have SF := Lib.hid ((SD.out.alloc _).drew.call S6); have RA3 := Lib.hid ((RA2.out.alloc _).drew.below S6); have RB3 := Lib.hid ((RB2.out.alloc _).drew.below S6); have RX3 := Lib.hid ((RX0.out.alloc _).drew.below S6); rw [← HY.out] at M6; obtain ⟨apy, cpy, ary, cry, rfl, j1, j2, jp, jr⟩ := M6; have MY : Hid (MatchV h6 (.agg #[.slice apy Y.pairs.length cpy, .int .i64 Y.cost, .bool Y.proven, .int .i64 Y.bound, .slice ary Y.proof.length cry]) Y) := ⟨apy, cpy, ary, cry, rfl, j1, j2, jp, jr⟩; have JP := Lib.hid jp; have LE := Lib.hid S6.le; obtain ⟨⟨m0, m1, m2, m3⟩, -⟩ := RA3.out.four; obtain ⟨⟨m4, m5, m6, m7⟩, -⟩ := RB3.out.four; have hz6 : w1.heap.size < w6.heap.size := RA3.out.has.lt; have hz6' : w1.heap.size + 1 < w6.heap.size := RB3.out.has.lt; have NC := Lib.hid (((Bx.new I4.out #[.slice none 0 0, .int .i64 0, .bool false, .int .i64 0, .slice none 0 0] 32).drew).below S6); have ⟨⟨d0, d1, d2, d3, d4⟩, o0, o1, o2, o3, o4⟩ := NC.out.five'; have ncz : w4.heap.size < w6.heap.size := NC.out.has.lt; clear S6 j1 j2 jp jr))
  · have SG := Lib.hid (SF.out.alloc (Obj.cells #[.slice apy Y.pairs.length cpy, .int .i64 Y.cost, .bool Y.proven, .int .i64 Y.bound, .slice ary Y.proof.length cry] 32))
    have RA4 := Lib.hid (RA3.out.alloc (Obj.cells #[.slice apy Y.pairs.length cpy, .int .i64 Y.cost, .bool Y.proven, .int .i64 Y.bound, .slice ary Y.proof.length cry] 32))
    have RB4 := Lib.hid (RB3.out.alloc (Obj.cells #[.slice apy Y.pairs.length cpy, .int .i64 Y.cost, .bool Y.proven, .int .i64 Y.bound, .slice ary Y.proof.length cry] 32))
    have RX4 := Lib.hid (RX3.out.alloc (Obj.cells #[.slice apy Y.pairs.length cpy, .int .i64 Y.cost, .bool Y.proven, .int .i64 Y.bound, .slice ary Y.proof.length cry] 32))
    have RY4 := Lib.hid (Bx.new SF.out.imm #[.slice apy Y.pairs.length cpy, .int .i64 Y.cost, .bool Y.proven, .int .i64 Y.bound, .slice ary Y.proof.length cry] 32)
    generalize hw7 : w6.alloc (Obj.cells #[.slice apy Y.pairs.length cpy, .int .i64 Y.cost, .bool Y.proven, .int .i64 Y.bound, .slice ary Y.proof.length cry] 32) = w7 at *
    generalize hby : w6.heap.size = bby at *
    have HW7 := Lib.hid hw7
    have HBY := Lib.hid hby
    clear hw7 hby c0 c1 c2 c3 c4 c5 c6 c7 m0 m1 m2 m3 m4 m5 m6 m7
    have TA3 := Lib.hid (TA1.out.mono LE.out)
    have TB3 := Lib.hid (TB1.out.mono LE.out)
    have HP3 := Lib.hid (HP1.out.mono LE.out)
    have MX3 := Lib.hid (MX.out.mono LE.out)
    have FY1 : Hid (priceP (flatP a) (flatP b) Y.pairs = some Y.cost) := by unfold Hid; rw [HY.out]; exact match_price PX.out PY.out _
    have FY2 : X.cost ≤ Y.cost := f2.out _ _ FY1.out
    have FY3 : Y.bound ≤ X.cost := by have := f3.out (modP bd 200); rw [← HY.out] at this; exact this
    have FY4 : Hid (verifyP (flatP a) (flatP b) Y) := by unfold Hid; rw [HY.out]; exact match_verify PX.out PY.out _
    have I7 := Lib.hid SG.out.imm
    obtain ⟨⟨c0, c1, c2, c3⟩, -⟩ := RA4.out.four
    obtain ⟨⟨c4, c5, c6, c7⟩, -⟩ := RB4.out.four
    have z7 : w1.heap.size < w7.heap.size := RA4.out.has.lt
    have z8 : w1.heap.size + 1 < w7.heap.size := RB4.out.has.lt
    have HF2 : Hid (∀ c, priceP (flatP a) (flatP b) ps = some c → X.cost ≤ c) := f2.out ps
    go_wp2_with fail
    refine (mcost_any h6 _ I7.out _ _ _ a b ps TA3.out TB3.out ZA.out ZBB.out HP3.out).mono ?_
    rintro e w8 ⟨rfl, hb8⟩
    have SH := Lib.hid (SG.out.same hb8)
    have RA5 := Lib.hid (RA4.out.bel hb8)
    have RB5 := Lib.hid (RB4.out.bel hb8)
    have RX5 := Lib.hid (RX4.out.bel hb8)
    have RY5 := Lib.hid (RY4.out.bel hb8)
    have I8 := Lib.hid SH.out.imm
    clear hb8 c0 c1 c2 c3 c4 c5 c6 c7
    obtain ⟨⟨c0, c1, c2, c3⟩, -⟩ := RA5.out.four
    obtain ⟨⟨c4, c5, c6, c7⟩, -⟩ := RB5.out.four
    have y0 : w8.cell? ⟨bby, 0, none⟩ = some (.slice apy Y.pairs.length cpy) := RY5.out.has.cl 0
    generalize priceP (flatP a) (flatP b) ps = pr at *
    go_wp2_with fail
    refine (mcost_any h6 _ I8.out _ _ _ a b Y.pairs TA3.out TB3.out ZA.out ZBB.out JP.out).mono ?_
    rintro e w9 ⟨rfl, hb9⟩
    rw [FY1.out]
    have SI := Lib.hid (SH.out.same hb9)
    have RA6 := Lib.hid (RA5.out.bel hb9)
    have RB6 := Lib.hid (RB5.out.bel hb9)
    have RX6 := Lib.hid (RX5.out.bel hb9)
    have RY6 := Lib.hid (RY5.out.bel hb9)
    clear hb9 c0 c1 c2 c3 c4 c5 c6 c7 y0
    simp only [Option.getD_some, Option.isSome_some]
    go_wp2_with fail
    refine (awake_any _).mono ?_
    rintro e w10 ⟨rfl, hb10⟩
    have SJ := Lib.hid (SI.out.same hb10)
    have RA7 := Lib.hid (RA6.out.bel hb10)
    have RB7 := Lib.hid (RB6.out.bel hb10)
    have RX7 := Lib.hid (RX6.out.bel hb10)
    have RY7 := Lib.hid (RY6.out.bel hb10)
    have I10 := Lib.hid SJ.out.imm
    clear hb10
    obtain ⟨⟨c0, c1, c2, c3⟩, -⟩ := RA7.out.four
    obtain ⟨⟨c4, c5, c6, c7⟩, -⟩ := RB7.out.four
    obtain ⟨x0, x1, x2, x3, x4⟩ := RX7.out.five
    obtain ⟨y0, y1, y2, y3, y4⟩ := RY7.out.five
    have q1 : (X.cost == X.cost) = true := by simp
    have q2 : (Y.cost == Y.cost) = true := by simp
    have VX : Hid (decide (verifyP (flatP a) (flatP b) X) = true) := decide_eq_true f4.out
    have VY : Hid (decide (verifyP (flatP a) (flatP b) Y) = true) := decide_eq_true FY4.out
    have CC : ∀ (pv : Bool) (cv : Int), (pv = true → X.cost ≤ cv) → True := fun _ _ _ => trivial
    clear CC
    cases pr with
    | none =>
      simp only [Option.getD_none, Option.isSome_none]
      go_wp2_with fail
      refine (mverify_any h6 _ I10.out _ _ _ a b X TA3.out TB3.out ZA.out ZBB.out MX3.out).mono ?_
      rintro e w11 ⟨rfl, hb11⟩
      rw [VX.out]
      have SK := Lib.hid (SJ.out.same hb11)
      have RA8 := Lib.hid (RA7.out.bel hb11)
      have RB8 := Lib.hid (RB7.out.bel hb11)
      have RY8 := Lib.hid (RY7.out.bel hb11)
      have I11 := Lib.hid SK.out.imm
      clear hb11
      obtain ⟨⟨d0, d1, d2, d3⟩, -⟩ := RA8.out.four
      obtain ⟨⟨d4, d5, d6, d7⟩, -⟩ := RB8.out.four
      obtain ⟨e0, e1, e2, e3, e4⟩ := RY8.out.five
      go_wp2_with fail
      refine (mverify_any h6 _ I11.out _ _ _ a b Y TA3.out TB3.out ZA.out ZBB.out MY.out).mono ?_
      rintro e w12 ⟨rfl, hb12⟩
      rw [VY.out]
      have SL := Lib.hid (SK.out.same hb12)
      clear hb12
      go_wp2_with fail
      go_ret
      exact ⟨rfl, SL.out.below⟩
    | some c =>
      have hcc : X.cost ≤ c := HF2.out c rfl
      simp only [Option.getD_some, Option.isSome_some]
      go_wp2_with fail
      refine (mverify_any h6 _ I10.out _ _ _ a b X TA3.out TB3.out ZA.out ZBB.out MX3.out).mono ?_
      rintro e w11 ⟨rfl, hb11⟩
      rw [VX.out]
      have SK := Lib.hid (SJ.out.same hb11)
      have RA8 := Lib.hid (RA7.out.bel hb11)
      have RB8 := Lib.hid (RB7.out.bel hb11)
      have RY8 := Lib.hid (RY7.out.bel hb11)
      have I11 := Lib.hid SK.out.imm
      clear hb11
      obtain ⟨⟨d0, d1, d2, d3⟩, -⟩ := RA8.out.four
      obtain ⟨⟨d4, d5, d6, d7⟩, -⟩ := RB8.out.four
      obtain ⟨e0, e1, e2, e3, e4⟩ := RY8.out.five
      go_wp2_with fail
      refine (mverify_any h6 _ I11.out _ _ _ a b Y TA3.out TB3.out ZA.out ZBB.out MY.out).mono ?_
      rintro e w12 ⟨rfl, hb12⟩
      rw [VY.out]
      have SL := Lib.hid (SK.out.same hb12)
      clear hb12
      go_wp2_with fail
      go_ret
      exact ⟨rfl, SL.out.below⟩
  · have SG := Lib.hid (set5 SF.out (by have := SD.out.below.size; omega) NC.out.no (.slice apy Y.pairs.length cpy) (.int .i64 Y.cost) (.bool Y.proven) (.int .i64 Y.bound) (.slice ary Y.proof.length cry))
    have RA4 := Lib.hid (RA3.out.ne5 n2 (.slice apy Y.pairs.length cpy) (.int .i64 Y.cost) (.bool Y.proven) (.int .i64 Y.bound) (.slice ary Y.proof.length cry))
    have RB4 := Lib.hid (RB3.out.ne5 n4 (.slice apy Y.pairs.length cpy) (.int .i64 Y.cost) (.bool Y.proven) (.int .i64 Y.bound) (.slice ary Y.proof.length cry))
    have RX4 := Lib.hid (RX3.out.ne5 (b' := w4.heap.size) (by have := RX0.out.has.lt; omega) (.slice apy Y.pairs.length cpy) (.int .i64 Y.cost) (.bool Y.proven) (.int .i64 Y.bound) (.slice ary Y.proof.length cry))
    have RY4 : Hid (Bx h6 (((((w6.setCell ⟨w4.heap.size, 0, none⟩ (.slice apy Y.pairs.length cpy)).setCell ⟨w4.heap.size, 1, none⟩ (.int .i64 Y.cost)).setCell ⟨w4.heap.size, 2, none⟩ (.bool Y.proven)).setCell ⟨w4.heap.size, 3, none⟩ (.int .i64 Y.bound)).setCell ⟨w4.heap.size, 4, none⟩ (.slice ary Y.proof.length cry)) w4.heap.size #[.slice apy Y.pairs.length cpy, .int .i64 Y.cost, .bool Y.proven, .int .i64 Y.bound, .slice ary Y.proof.length cry]) := ⟨NC.out.has.set5 (.slice apy Y.pairs.length cpy) (.int .i64 Y.cost) (.bool Y.proven) (.int .i64 Y.bound) (.slice ary Y.proof.length cry), NC.out.no⟩
    clear d0 d1 d2 d3 d4 o0 o1 o2 o3 o4
    generalize hw7 : (((((w6.setCell ⟨w4.heap.size, 0, none⟩ (.slice apy Y.pairs.length cpy)).setCell ⟨w4.heap.size, 1, none⟩ (.int .i64 Y.cost)).setCell ⟨w4.heap.size, 2, none⟩ (.bool Y.proven)).setCell ⟨w4.heap.size, 3, none⟩ (.int .i64 Y.bound)).setCell ⟨w4.heap.size, 4, none⟩ (.slice ary Y.proof.length cry)) = w7 at *
    generalize hby : w4.heap.size = bby at *
    have HW7 := Lib.hid hw7
    have HBY := Lib.hid hby
    clear hw7 hby c0 c1 c2 c3 c4 c5 c6 c7 m0 m1 m2 m3 m4 m5 m6 m7
    have TA3 := Lib.hid (TA1.out.mono LE.out)
    have TB3 := Lib.hid (TB1.out.mono LE.out)
    have HP3 := Lib.hid (HP1.out.mono LE.out)
    have MX3 := Lib.hid (MX.out.mono LE.out)
    have FY1 : Hid (priceP (flatP a) (flatP b) Y.pairs = some Y.cost) := by unfold Hid; rw [HY.out]; exact match_price PX.out PY.out _
    have FY2 : X.cost ≤ Y.cost := f2.out _ _ FY1.out
    have FY3 : Y.bound ≤ X.cost := by have := f3.out (modP bd 200); rw [← HY.out] at this; exact this
    have FY4 : Hid (verifyP (flatP a) (flatP b) Y) := by unfold Hid; rw [HY.out]; exact match_verify PX.out PY.out _
    have I7 := Lib.hid SG.out.imm
    obtain ⟨⟨c0, c1, c2, c3⟩, -⟩ := RA4.out.four
    obtain ⟨⟨c4, c5, c6, c7⟩, -⟩ := RB4.out.four
    have z7 : w1.heap.size < w7.heap.size := RA4.out.has.lt
    have z8 : w1.heap.size + 1 < w7.heap.size := RB4.out.has.lt
    have HF2 : Hid (∀ c, priceP (flatP a) (flatP b) ps = some c → X.cost ≤ c) := f2.out ps
    go_wp2_with fail
    refine (mcost_any h6 _ I7.out _ _ _ a b ps TA3.out TB3.out ZA.out ZBB.out HP3.out).mono ?_
    rintro e w8 ⟨rfl, hb8⟩
    have SH := Lib.hid (SG.out.same hb8)
    have RA5 := Lib.hid (RA4.out.bel hb8)
    have RB5 := Lib.hid (RB4.out.bel hb8)
    have RX5 := Lib.hid (RX4.out.bel hb8)
    have RY5 := Lib.hid (RY4.out.bel hb8)
    have I8 := Lib.hid SH.out.imm
    clear hb8 c0 c1 c2 c3 c4 c5 c6 c7
    obtain ⟨⟨c0, c1, c2, c3⟩, -⟩ := RA5.out.four
    obtain ⟨⟨c4, c5, c6, c7⟩, -⟩ := RB5.out.four
    have y0 : w8.cell? ⟨bby, 0, none⟩ = some (.slice apy Y.pairs.length cpy) := RY5.out.has.cl 0
    generalize priceP (flatP a) (flatP b) ps = pr at *
    go_wp2_with fail
    refine (mcost_any h6 _ I8.out _ _ _ a b Y.pairs TA3.out TB3.out ZA.out ZBB.out JP.out).mono ?_
    rintro e w9 ⟨rfl, hb9⟩
    rw [FY1.out]
    have SI := Lib.hid (SH.out.same hb9)
    have RA6 := Lib.hid (RA5.out.bel hb9)
    have RB6 := Lib.hid (RB5.out.bel hb9)
    have RX6 := Lib.hid (RX5.out.bel hb9)
    have RY6 := Lib.hid (RY5.out.bel hb9)
    clear hb9 c0 c1 c2 c3 c4 c5 c6 c7 y0
    simp only [Option.getD_some, Option.isSome_some]
    go_wp2_with fail
    refine (awake_any _).mono ?_
    rintro e w10 ⟨rfl, hb10⟩
    have SJ := Lib.hid (SI.out.same hb10)
    have RA7 := Lib.hid (RA6.out.bel hb10)
    have RB7 := Lib.hid (RB6.out.bel hb10)
    have RX7 := Lib.hid (RX6.out.bel hb10)
    have RY7 := Lib.hid (RY6.out.bel hb10)
    have I10 := Lib.hid SJ.out.imm
    clear hb10
    obtain ⟨⟨c0, c1, c2, c3⟩, -⟩ := RA7.out.four
    obtain ⟨⟨c4, c5, c6, c7⟩, -⟩ := RB7.out.four
    obtain ⟨x0, x1, x2, x3, x4⟩ := RX7.out.five
    obtain ⟨y0, y1, y2, y3, y4⟩ := RY7.out.five
    have q1 : (X.cost == X.cost) = true := by simp
    have q2 : (Y.cost == Y.cost) = true := by simp
    have VX : Hid (decide (verifyP (flatP a) (flatP b) X) = true) := decide_eq_true f4.out
    have VY : Hid (decide (verifyP (flatP a) (flatP b) Y) = true) := decide_eq_true FY4.out
    have CC : ∀ (pv : Bool) (cv : Int), (pv = true → X.cost ≤ cv) → True := fun _ _ _ => trivial
    clear CC
    cases pr with
    | none =>
      simp only [Option.getD_none, Option.isSome_none]
      go_wp2_with fail
      refine (mverify_any h6 _ I10.out _ _ _ a b X TA3.out TB3.out ZA.out ZBB.out MX3.out).mono ?_
      rintro e w11 ⟨rfl, hb11⟩
      rw [VX.out]
      have SK := Lib.hid (SJ.out.same hb11)
      have RA8 := Lib.hid (RA7.out.bel hb11)
      have RB8 := Lib.hid (RB7.out.bel hb11)
      have RY8 := Lib.hid (RY7.out.bel hb11)
      have I11 := Lib.hid SK.out.imm
      clear hb11
      obtain ⟨⟨d0, d1, d2, d3⟩, -⟩ := RA8.out.four
      obtain ⟨⟨d4, d5, d6, d7⟩, -⟩ := RB8.out.four
      obtain ⟨e0, e1, e2, e3, e4⟩ := RY8.out.five
      go_wp2_with fail
      refine (mverify_any h6 _ I11.out _ _ _ a b Y TA3.out TB3.out ZA.out ZBB.out MY.out).mono ?_
      rintro e w12 ⟨rfl, hb12⟩
      rw [VY.out]
      have SL := Lib.hid (SK.out.same hb12)
      clear hb12
      go_wp2_with fail
      go_ret
      exact ⟨rfl, SL.out.below⟩
    | some c =>
      have hcc : X.cost ≤ c := HF2.out c rfl
      simp only [Option.getD_some, Option.isSome_some]
      go_wp2_with fail
      refine (mverify_any h6 _ I10.out _ _ _ a b X TA3.out TB3.out ZA.out ZBB.out MX3.out).mono ?_
      rintro e w11 ⟨rfl, hb11⟩
      rw [VX.out]
      have SK := Lib.hid (SJ.out.same hb11)
      have RA8 := Lib.hid (RA7.out.bel hb11)
      have RB8 := Lib.hid (RB7.out.bel hb11)
      have RY8 := Lib.hid (RY7.out.bel hb11)
      have I11 := Lib.hid SK.out.imm
      clear hb11
      obtain ⟨⟨d0, d1, d2, d3⟩, -⟩ := RA8.out.four
      obtain ⟨⟨d4, d5, d6, d7⟩, -⟩ := RB8.out.four
      obtain ⟨e0, e1, e2, e3, e4⟩ := RY8.out.five
      go_wp2_with fail
      refine (mverify_any h6 _ I11.out _ _ _ a b Y TA3.out TB3.out ZA.out ZBB.out MY.out).mono ?_
      rintro e w12 ⟨rfl, hb12⟩
      rw [VY.out]
      have SL := Lib.hid (SK.out.same hb12)
      clear hb12
      go_wp2_with fail
      go_ret
      exact ⟨rfl, SL.out.below⟩
  · have SG := Lib.hid (set5 SF.out (by have := SD.out.below.size; omega) NC.out.no (.slice apy Y.pairs.length cpy) (.int .i64 Y.cost) (.bool Y.proven) (.int .i64 Y.bound) (.slice ary Y.proof.length cry))
    have RA4 := Lib.hid (RA3.out.ne5 n2 (.slice apy Y.pairs.length cpy) (.int .i64 Y.cost) (.bool Y.proven) (.int .i64 Y.bound) (.slice ary Y.proof.length cry))
    have RB4 := Lib.hid (RB3.out.ne5 n4 (.slice apy Y.pairs.length cpy) (.int .i64 Y.cost) (.bool Y.proven) (.int .i64 Y.bound) (.slice ary Y.proof.length cry))
    have RX4 := Lib.hid (RX3.out.ne5 (b' := w4.heap.size) (by have := RX0.out.has.lt; omega) (.slice apy Y.pairs.length cpy) (.int .i64 Y.cost) (.bool Y.proven) (.int .i64 Y.bound) (.slice ary Y.proof.length cry))
    have RY4 : Hid (Bx h6 (((((w6.setCell ⟨w4.heap.size, 0, none⟩ (.slice apy Y.pairs.length cpy)).setCell ⟨w4.heap.size, 1, none⟩ (.int .i64 Y.cost)).setCell ⟨w4.heap.size, 2, none⟩ (.bool Y.proven)).setCell ⟨w4.heap.size, 3, none⟩ (.int .i64 Y.bound)).setCell ⟨w4.heap.size, 4, none⟩ (.slice ary Y.proof.length cry)) w4.heap.size #[.slice apy Y.pairs.length cpy, .int .i64 Y.cost, .bool Y.proven, .int .i64 Y.bound, .slice ary Y.proof.length cry]) := ⟨NC.out.has.set5 (.slice apy Y.pairs.length cpy) (.int .i64 Y.cost) (.bool Y.proven) (.int .i64 Y.bound) (.slice ary Y.proof.length cry), NC.out.no⟩
    clear d0 d1 d2 d3 d4 o0 o1 o2 o3 o4
    generalize hw7 : (((((w6.setCell ⟨w4.heap.size, 0, none⟩ (.slice apy Y.pairs.length cpy)).setCell ⟨w4.heap.size, 1, none⟩ (.int .i64 Y.cost)).setCell ⟨w4.heap.size, 2, none⟩ (.bool Y.proven)).setCell ⟨w4.heap.size, 3, none⟩ (.int .i64 Y.bound)).setCell ⟨w4.heap.size, 4, none⟩ (.slice ary Y.proof.length cry)) = w7 at *
    generalize hby : w4.heap.size = bby at *
    have HW7 := Lib.hid hw7
    have HBY := Lib.hid hby
    clear hw7 hby c0 c1 c2 c3 c4 c5 c6 c7 m0 m1 m2 m3 m4 m5 m6 m7
    have TA3 := Lib.hid (TA1.out.mono LE.out)
    have TB3 := Lib.hid (TB1.out.mono LE.out)
    have HP3 := Lib.hid (HP1.out.mono LE.out)
    have MX3 := Lib.hid (MX.out.mono LE.out)
    have FY1 : Hid (priceP (flatP a) (flatP b) Y.pairs = some Y.cost) := by unfold Hid; rw [HY.out]; exact match_price PX.out PY.out _
    have FY2 : X.cost ≤ Y.cost := f2.out _ _ FY1.out
    have FY3 : Y.bound ≤ X.cost := by have := f3.out (modP bd 200); rw [← HY.out] at this; exact this
    have FY4 : Hid (verifyP (flatP a) (flatP b) Y) := by unfold Hid; rw [HY.out]; exact match_verify PX.out PY.out _
    have I7 := Lib.hid SG.out.imm
    obtain ⟨⟨c0, c1, c2, c3⟩, -⟩ := RA4.out.four
    obtain ⟨⟨c4, c5, c6, c7⟩, -⟩ := RB4.out.four
    have z7 : w1.heap.size < w7.heap.size := RA4.out.has.lt
    have z8 : w1.heap.size + 1 < w7.heap.size := RB4.out.has.lt
    have HF2 : Hid (∀ c, priceP (flatP a) (flatP b) ps = some c → X.cost ≤ c) := f2.out ps
    go_wp2_with fail
    refine (mcost_any h6 _ I7.out _ _ _ a b ps TA3.out TB3.out ZA.out ZBB.out HP3.out).mono ?_
    rintro e w8 ⟨rfl, hb8⟩
    have SH := Lib.hid (SG.out.same hb8)
    have RA5 := Lib.hid (RA4.out.bel hb8)
    have RB5 := Lib.hid (RB4.out.bel hb8)
    have RX5 := Lib.hid (RX4.out.bel hb8)
    have RY5 := Lib.hid (RY4.out.bel hb8)
    have I8 := Lib.hid SH.out.imm
    clear hb8 c0 c1 c2 c3 c4 c5 c6 c7
    obtain ⟨⟨c0, c1, c2, c3⟩, -⟩ := RA5.out.four
    obtain ⟨⟨c4, c5, c6, c7⟩, -⟩ := RB5.out.four
    have y0 : w8.cell? ⟨bby, 0, none⟩ = some (.slice apy Y.pairs.length cpy) := RY5.out.has.cl 0
    generalize priceP (flatP a) (flatP b) ps = pr at *
    go_wp2_with fail
    refine (mcost_any h6 _ I8.out _ _ _ a b Y.pairs TA3.out TB3.out ZA.out ZBB.out JP.out).mono ?_
    rintro e w9 ⟨rfl, hb9⟩
    rw [FY1.out]
    have SI := Lib.hid (SH.out.same hb9)
    have RA6 := Lib.hid (RA5.out.bel hb9)
    have RB6 := Lib.hid (RB5.out.bel hb9)
    have RX6 := Lib.hid (RX5.out.bel hb9)
    have RY6 := Lib.hid (RY5.out.bel hb9)
    clear hb9 c0 c1 c2 c3 c4 c5 c6 c7 y0
    simp only [Option.getD_some, Option.isSome_some]
    go_wp2_with fail
    refine (awake_any _).mono ?_
    rintro e w10 ⟨rfl, hb10⟩
    have SJ := Lib.hid (SI.out.same hb10)
    have RA7 := Lib.hid (RA6.out.bel hb10)
    have RB7 := Lib.hid (RB6.out.bel hb10)
    have RX7 := Lib.hid (RX6.out.bel hb10)
    have RY7 := Lib.hid (RY6.out.bel hb10)
    have I10 := Lib.hid SJ.out.imm
    clear hb10
    obtain ⟨⟨c0, c1, c2, c3⟩, -⟩ := RA7.out.four
    obtain ⟨⟨c4, c5, c6, c7⟩, -⟩ := RB7.out.four
    obtain ⟨x0, x1, x2, x3, x4⟩ := RX7.out.five
    obtain ⟨y0, y1, y2, y3, y4⟩ := RY7.out.five
    have q1 : (X.cost == X.cost) = true := by simp
    have q2 : (Y.cost == Y.cost) = true := by simp
    have VX : Hid (decide (verifyP (flatP a) (flatP b) X) = true) := decide_eq_true f4.out
    have VY : Hid (decide (verifyP (flatP a) (flatP b) Y) = true) := decide_eq_true FY4.out
    have CC : ∀ (pv : Bool) (cv : Int), (pv = true → X.cost ≤ cv) → True := fun _ _ _ => trivial
    clear CC
    cases pr with
    | none =>
      simp only [Option.getD_none, Option.isSome_none]
      go_wp2_with fail
      refine (mverify_any h6 _ I10.out _ _ _ a b X TA3.out TB3.out ZA.out ZBB.out MX3.out).mono ?_
      rintro e w11 ⟨rfl, hb11⟩
      rw [VX.out]
      have SK := Lib.hid (SJ.out.same hb11)
      have RA8 := Lib.hid (RA7.out.bel hb11)
      have RB8 := Lib.hid (RB7.out.bel hb11)
      have RY8 := Lib.hid (RY7.out.bel hb11)
      have I11 := Lib.hid SK.out.imm
      clear hb11
      obtain ⟨⟨d0, d1, d2, d3⟩, -⟩ := RA8.out.four
      obtain ⟨⟨d4, d5, d6, d7⟩, -⟩ := RB8.out.four
      obtain ⟨e0, e1, e2, e3, e4⟩ := RY8.out.five
      go_wp2_with fail
      refine (mverify_any h6 _ I11.out _ _ _ a b Y TA3.out TB3.out ZA.out ZBB.out MY.out).mono ?_
      rintro e w12 ⟨rfl, hb12⟩
      rw [VY.out]
      have SL := Lib.hid (SK.out.same hb12)
      clear hb12
      go_wp2_with fail
      go_ret
      exact ⟨rfl, SL.out.below⟩
    | some c =>
      have hcc : X.cost ≤ c := HF2.out c rfl
      simp only [Option.getD_some, Option.isSome_some]
      go_wp2_with fail
      refine (mverify_any h6 _ I10.out _ _ _ a b X TA3.out TB3.out ZA.out ZBB.out MX3.out).mono ?_
      rintro e w11 ⟨rfl, hb11⟩
      rw [VX.out]
      have SK := Lib.hid (SJ.out.same hb11)
      have RA8 := Lib.hid (RA7.out.bel hb11)
      have RB8 := Lib.hid (RB7.out.bel hb11)
      have RY8 := Lib.hid (RY7.out.bel hb11)
      have I11 := Lib.hid SK.out.imm
      clear hb11
      obtain ⟨⟨d0, d1, d2, d3⟩, -⟩ := RA8.out.four
      obtain ⟨⟨d4, d5, d6, d7⟩, -⟩ := RB8.out.four
      obtain ⟨e0, e1, e2, e3, e4⟩ := RY8.out.five
      go_wp2_with fail
      refine (mverify_any h6 _ I11.out _ _ _ a b Y TA3.out TB3.out ZA.out ZBB.out MY.out).mono ?_
      rintro e w12 ⟨rfl, hb12⟩
      rw [VY.out]
      have SL := Lib.hid (SK.out.same hb12)
      clear hb12
      go_wp2_with fail
      go_ret
      exact ⟨rfl, SL.out.below⟩

set_option maxHeartbeats 2000000 in
theorem mleast_big (w : World) (a1 a2 a3 : Option Addr) (n1 c1 n2 c2 n3 c3 : Nat) (k bd : Int) (h1 : n1 ≤ 9223372036854775807) (h2 : n2 ≤ 9223372036854775807) (_h3 : n3 ≤ 9223372036854775807) (hb : 120 < n1 ∨ 120 < n2 ∨ 100 < n3) :
    Calls Try.prog 8 #[.slice a1 n1 c1, .int .i64 k, .slice a2 n2 c2, .slice a3 n3 c3, .int .i64 bd] w fun e w' => e = .returned (.bool true) ∧ Below w.heap.size w w' := by
  by_cases g : 120 < n1
  · have g1 : decide ((n1 : Int) ≤ 120) = false := by simp; omega
    clear hb
    go_enter Try.func8, Try.ntmps8
    go_wp2_with fail
    refine (Light_any _ a1 n1 c1 h1).mono ?_
    rintro e w1 ⟨rfl, rfl⟩
    rw [g1]
    go_wp2_with fail
    refine (awake_any _).mono ?_
    rintro e w2 ⟨rfl, hb2⟩
    have B2 := Lib.hid hb2
    clear hb2
    go_wp2_with fail
    go_ret
    exact ⟨rfl, B2.out⟩
  have g1 : decide ((n1 : Int) ≤ 120) = true := by simp; omega
  by_cases g' : 120 < n2
  · have g2 : decide ((n2 : Int) ≤ 120) = false := by simp; omega
    clear hb
    go_enter Try.func8, Try.ntmps8
    go_wp2_with fail
    refine (Light_any _ a1 n1 c1 h1).mono ?_
    rintro e w1 ⟨rfl, rfl⟩
    rw [g1]
    go_wp2_with fail
    refine (Light_any _ a2 n2 c2 h2).mono ?_
    rintro e w1 ⟨rfl, rfl⟩
    rw [g2]
    go_wp2_with fail
    refine (awake_any _).mono ?_
    rintro e w2 ⟨rfl, hb2⟩
    have B2 := Lib.hid hb2
    clear hb2
    go_wp2_with fail
    go_ret
    exact ⟨rfl, B2.out⟩
  have g2 : decide ((n2 : Int) ≤ 120) = true := by simp; omega
  have g3 : 100 < n3 := by omega
  have g4 : decide (100 < n3) = true := by simpa using g3
  clear hb
  go_enter Try.func8, Try.ntmps8
  go_wp2_with fail
  refine (Light_any _ a1 n1 c1 h1).mono ?_
  rintro e w1 ⟨rfl, rfl⟩
  rw [g1]
  go_wp2_with fail
  refine (Light_any _ a2 n2 c2 h2).mono ?_
  rintro e w1 ⟨rfl, rfl⟩
  rw [g2]
  go_wp2_with fail
  refine (awake_any _).mono ?_
  rintro e w2 ⟨rfl, hb2⟩
  have B2 := Lib.hid hb2
  clear hb2
  go_wp2_with fail
  go_ret
  exact ⟨rfl, B2.out⟩
end Go.Proofs.Ytfifbadepebpeaa
