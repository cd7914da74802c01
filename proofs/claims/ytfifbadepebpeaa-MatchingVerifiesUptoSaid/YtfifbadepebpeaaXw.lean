/- The walk of MatchingVerifies. -/
import Derived.Test.YtfifbadepebpeaaXq
import Derived.Test.YtfifbadepebpeaaBo
import Derived.Test.YtfifbadepebpeaaRz
namespace Go.Proofs.Ytfifbadepebpeaa
open Go.RowKit

set_option maxRecDepth 100000 in
set_option maxHeartbeats 8000000 in
theorem verifies_any (h : Hp) (w : World) (hi : Imm h w) (al : Option Addr) (cl : Nat) (L : List Int) (hl : Ints h (.slice al L.length cl) L) (hL : L.length ≤ 120) (hcl : L.length ≤ cl) (k : Int) (hk : I64 k) (vm : Value) (M : List Int) (hm : Ints h vm M) (hM : M.length ≤ 120)
    (vr : Value) (m : MatchP) (hr : MatchV h vr m) (hr1 : m.pairs.length ≤ 60) (hr2 : m.proof.length ≤ 60) (at_ by_ : Int) (hat : I64 at_) (hby : I64 by_) :
    Calls Try.prog 5 #[.slice al L.length cl, .int .i64 k, vm, vr, .int .i64 at_, .int .i64 by_] w fun e w' => e = .returned (.bool true) ∧ Below w.heap.size w w' := by
  have HI := Lib.hid hi
  have HL := Lib.hid hl
  have HM := Lib.hid hm
  have HK := Lib.hid hk
  have HRW := Lib.hid hr
  have HAT := Lib.hid hat
  have HBY := Lib.hid hby
  obtain ⟨am, cm, rfl, -, -⟩ := hm.open
  obtain ⟨ar0, cr0, ar, cr, rfl, -, -, -, hcr⟩ := hr
  have HC := Lib.hid hcr
  clear hi hl hm hk hcr hat hby
  have g1 : decide ((L.length : Int) ≤ 120) = true := by simp; omega
  have g2 : decide ((M.length : Int) ≤ 120) = true := by simp; omega
  have g3 : decide (60 < m.pairs.length) = false := by simp; omega
  have g4 : decide (60 < m.proof.length) = false := by simp; omega
  go_enter Try.func5, Try.ntmps5
  go_wp2_with fail
  have I0 := Lib.hid (HI.out.alloc (Obj.cells #[.slice ar0 m.pairs.length cr0, .int .i64 m.cost, .bool m.proven, .int .i64 m.bound, .slice ar m.proof.length cr] 32))
  have B0 : Hid (Below w.heap.size w (w.alloc (Obj.cells #[.slice ar0 m.pairs.length cr0, .int .i64 m.cost, .bool m.proven, .int .i64 m.bound, .slice ar m.proof.length cr] 32))) := (Below.refl _ _).alloc (Nat.le_refl _) _
  have XR : Hid (Has (w.alloc (Obj.cells #[.slice ar0 m.pairs.length cr0, .int .i64 m.cost, .bool m.proven, .int .i64 m.bound, .slice ar m.proof.length cr] 32)) w.heap.size #[.slice ar0 m.pairs.length cr0, .int .i64 m.cost, .bool m.proven, .int .i64 m.bound, .slice ar m.proof.length cr]) := Has.new _ _ _
  generalize w.alloc (Obj.cells #[.slice ar0 m.pairs.length cr0, .int .i64 m.cost, .bool m.proven, .int .i64 m.bound, .slice ar m.proof.length cr] 32) = w0 at *
  refine (Light_any _ al L.length cl (by omega)).mono ?_
  rintro e w1 ⟨rfl, rfl⟩
  rw [g1]
  go_wp2_with fail
  refine (Light_any _ am M.length cm (by omega)).mono ?_
  rintro e w1 ⟨rfl, rfl⟩
  rw [g2]
  obtain ⟨r0, r1, r2, r3, r4⟩ := XR.out.five
  have zr := XR.out.lt
  go_wp2_with fail
  go_loop [12, 13, 42, 43, 44, 45, 46, 47, 48, 49, 50, 51, 52, 53, 54, 55, 56, 57, 58, 59, 60, 61, 62, 63, 64, 65, 66, 67, 68, 69] (fun _ i _ _ _ _ _ _ _ _ _ _ _ _ _ _ _ _ _ _ _ _ _ _ _ _ _ _ _ _ => ∃ j : Nat, j ≤ m.proof.length ∧ i = .int .i64 j) (fun _ i _ _ _ _ _ _ _ _ _ _ _ _ _ _ _ _ _ _ _ _ _ _ _ _ _ _ _ _ => m.proof.length - (intOf i).toNat)
  case atStart => exact ⟨0, Nat.zero_le _, rfl⟩
  case round =>
    obtain ⟨j, hj, rfl⟩ := hrel
    by_cases hlt : j < m.proof.length
    · obtain ⟨b1, o1, c1, e1, -, hra⟩ := HC.out.openI (by omega)
      simp only [Value.slice.injEq, true_and] at e1
      obtain ⟨rfl, rfl⟩ := e1
      obtain ⟨hb1, hra⟩ := hra w0 I0.out
      obtain ⟨p1, q1, rr1, s1, a0, a1, a2, a3, a4, a5, ha, -⟩ := hra j hlt
      generalize m.proof[j] = t at *
      have u1 : (0 : Int) ≤ (j : Int) := by omega
      have u2 : (j : Int) < (m.proof.length : Int) := by omega
      clear hra ha
      by_cases h5 : 60 < t.kids.pairs.length
      · go_wp2_with fail
        refine (awake_any _).mono ?_
        rintro e wq0 ⟨rfl, hbq0⟩
        have BQ0 : Hid (Below w.heap.size w wq0) := B0.out.trans (hbq0.mono B0.out.size)
        clear hbq0
        go_wp2_with fail
        go_ret
        exact ⟨rfl, BQ0.out⟩
      have g5 : decide (60 < t.kids.pairs.length) = false := by simpa using h5
      by_cases h6 : 60 < t.kids.pot.length
      · go_wp2_with fail
        refine (awake_any _).mono ?_
        rintro e wq0 ⟨rfl, hbq0⟩
        have BQ0 : Hid (Below w.heap.size w wq0) := B0.out.trans (hbq0.mono B0.out.size)
        clear hbq0
        go_wp2_with fail
        go_ret
        exact ⟨rfl, BQ0.out⟩
      have g6 : decide (60 < t.kids.pot.length) = false := by simpa using h6
      go_wp2_with fail
      go_round
      case rel => exact ⟨j + 1, by omega, by go_num⟩
      case measure => simp [intOf]; omega
    · go_wp2_with fail
      refine (defs_any h _ I0.out al cl L HL.out (by omega) hcl k HK.out _ M HM.out (by omega)).mono ?_
      rintro e w2 ⟨va, vb, rfl, h1, a, b, S1, TA, TB, ⟨za, -⟩, zb, -⟩
      obtain ⟨al1, cl1, ak1, ck1, -, rfl, -, -, -, -, -, -⟩ := TA.open
      obtain ⟨al2, cl2, ak2, ck2, -, rfl, -, -, -, -, -, -⟩ := TB.open
      have SZM : a.size ≤ 262144 ∧ b.size ≤ 262144 := by omega
      have SZR : a.size ≤ 400 ∧ b.size ≤ 400 := by omega
      have HTA1 := Lib.hid TA
      have HTB1 := Lib.hid TB
      have HRW1 := Lib.hid (HRW.out.mono S1.le)
      have B2 : Hid (Below w.heap.size w w2) := B0.out.trans (S1.below.mono B0.out.size)
      have XR2 := Lib.hid (((XR.out.below S1.below).alloc (Obj.cells #[.int .i64 a.kind, .string a.text, .slice al1 a.leads.length cl1, .slice ak1 a.kids.length ck1] 25)).alloc (Obj.cells #[.int .i64 b.kind, .string b.text, .slice al2 b.leads.length cl2, .slice ak2 b.kids.length ck2] 25))
      have XA2 : Hid (Has ((w2.alloc (Obj.cells #[.int .i64 a.kind, .string a.text, .slice al1 a.leads.length cl1, .slice ak1 a.kids.length ck1] 25)).alloc (Obj.cells #[.int .i64 b.kind, .string b.text, .slice al2 b.leads.length cl2, .slice ak2 b.kids.length ck2] 25)) w2.heap.size #[.int .i64 a.kind, .string a.text, .slice al1 a.leads.length cl1, .slice ak1 a.kids.length ck1]) := (Has.new w2 _ _).alloc _
      have XB2 : Hid (Has ((w2.alloc (Obj.cells #[.int .i64 a.kind, .string a.text, .slice al1 a.leads.length cl1, .slice ak1 a.kids.length ck1] 25)).alloc (Obj.cells #[.int .i64 b.kind, .string b.text, .slice al2 b.leads.length cl2, .slice ak2 b.kids.length ck2] 25)) (w2.heap.size + 1) #[.int .i64 b.kind, .string b.text, .slice al2 b.leads.length cl2, .slice ak2 b.kids.length ck2]) := Has.new1 w2 _ _ _
      have I2 : Hid (Imm h1 ((w2.alloc (Obj.cells #[.int .i64 a.kind, .string a.text, .slice al1 a.leads.length cl1, .slice ak1 a.kids.length ck1] 25)).alloc (Obj.cells #[.int .i64 b.kind, .string b.text, .slice al2 b.leads.length cl2, .slice ak2 b.kids.length ck2] 25))) := (S1.imm.alloc _).alloc _
      have B3 : Hid (Below w.heap.size w ((w2.alloc (Obj.cells #[.int .i64 a.kind, .string a.text, .slice al1 a.leads.length cl1, .slice ak1 a.kids.length ck1] 25)).alloc (Obj.cells #[.int .i64 b.kind, .string b.text, .slice al2 b.leads.length cl2, .slice ak2 b.kids.length ck2] 25))) := (B2.out.alloc B2.out.size _).alloc (by have := B2.out.size; simp; omega) _
      clear S1 TA TB r0 r1 r2 r3 r4 zr
      have PX := Lib.hid (flatP_po a)
      have PY := Lib.hid (flatP_po b)
      go_wp2_with fail
      generalize hw3 : (w2.alloc (Obj.cells #[.int .i64 a.kind, .string a.text, .slice al1 a.leads.length cl1, .slice ak1 a.kids.length ck1] 25)).alloc (Obj.cells #[.int .i64 b.kind, .string b.text, .slice al2 b.leads.length cl2, .slice ak2 b.kids.length ck2] 25) = w3 at *
      have ZW : Hid (w2.heap.size + 2 = w3.heap.size) := by unfold Hid; rw [← hw3]; simp
      clear hw3
      refine (rmatch_own h1 _ I2.out _ _ a b HTA1.out HTB1.out 1000 (by unfold I64; omega) SZR.1 SZR.2).mono ?_
      rintro e w4 ⟨v4, rfl, h4, T4, M4⟩
      have f1 : Hid (decide (verifyP (flatP a) (flatP b) (matchM (flatP a) (flatP b) 1000)) = true) := decide_eq_true (match_verify PX.out PY.out 1000)
      generalize matchM (flatP a) (flatP b) 1000 = X at *
      have BW4 : Hid (w3.heap.size ≤ w4.heap.size) := T4.below.size
      obtain ⟨apx, cpx, arx, crx, rfl, ⟨h5, le5, I5', n5, M5⟩, jc, jb, JL, ROW⟩ := M4.start T4.imm BW4.out
      have HROW := Lib.hid ROW
      have JC := Lib.hid jc
      have JB := Lib.hid jb
      have I4 := Lib.hid T4.imm
      have N4 := Lib.hid (new_own T4.imm _ (Nat.le_refl _))
      have HM5 := Lib.hid M5
      have N5 := Lib.hid n5
      have LE5 := Lib.hid (Hp.le_trans T4.le le5)
      have LE4 := Lib.hid T4.le
      have HTA5 := Lib.hid (HTA1.out.mono (Hp.le_trans T4.le le5))
      have HTB5 := Lib.hid (HTB1.out.mono (Hp.le_trans T4.le le5))
      have HRW5 := Lib.hid (HRW1.out.mono (Hp.le_trans T4.le le5))
      have I5 := Lib.hid (I5'.alloc (Obj.cells #[.slice apx X.pairs.length cpx, .int .i64 X.cost, .bool X.proven, .int .i64 X.bound, .slice arx X.proof.length crx] 32))
      have B5 : Hid (Below w.heap.size w (w4.alloc (Obj.cells #[.slice apx X.pairs.length cpx, .int .i64 X.cost, .bool X.proven, .int .i64 X.bound, .slice arx X.proof.length crx] 32))) := (B3.out.trans (T4.below.mono B3.out.size)).alloc (by have := B3.out.size; have := BW4.out; omega) _
      have XA5 := Lib.hid ((XA2.out.below T4.below).alloc (Obj.cells #[.slice apx X.pairs.length cpx, .int .i64 X.cost, .bool X.proven, .int .i64 X.bound, .slice arx X.proof.length crx] 32))
      have XB5 := Lib.hid ((XB2.out.below T4.below).alloc (Obj.cells #[.slice apx X.pairs.length cpx, .int .i64 X.cost, .bool X.proven, .int .i64 X.bound, .slice arx X.proof.length crx] 32))
      have XR5 := Lib.hid ((XR2.out.below T4.below).alloc (Obj.cells #[.slice apx X.pairs.length cpx, .int .i64 X.cost, .bool X.proven, .int .i64 X.bound, .slice arx X.proof.length crx] 32))
      have XX5 := Lib.hid (Has.new w4 #[.slice apx X.pairs.length cpx, .int .i64 X.cost, .bool X.proven, .int .i64 X.bound, .slice arx X.proof.length crx] 32)
      clear T4 M4 ROW I5' n5 M5 le5 jc jb
      have NEXA : Hid (w4.heap.size ≠ w2.heap.size) := by unfold Hid; have := ZW.out; have := BW4.out; omega
      have NEXB : Hid (w4.heap.size ≠ w2.heap.size + 1) := by unfold Hid; have := ZW.out; have := BW4.out; omega
      have BPX : Hid (w.heap.size ≤ w4.heap.size) := by unfold Hid; have := B3.out.size; have := BW4.out; omega
      go_upto_region 10 with fail
      refine mv_r10 I5 HTA5 HTB5 SZM SZR XA5 XB5 XX5 HM5 f1 XR5 HRW5 (Lib.hid rfl) (by kernel_rfl) _ (fun u80 u81 u82 u83 u84 u85 u86 u87 u88 u89 u90 u91 u92 u93 u94 w6 bx6 => ?_)
      dsimp only
      have B6 : Hid (Below w.heap.size w w6) := B5.out.trans (bx6.mono B5.out.size)
      have I6 := Lib.hid (I5.out.below bx6)
      have I46 : Hid (Imm h4 w6) := (I4.out.alloc _).below bx6
      have XA6 := Lib.hid (XA5.out.below bx6)
      have XB6 := Lib.hid (XB5.out.below bx6)
      have XX6 := Lib.hid (XX5.out.below bx6)
      have HROW6 : Hid (0 < X.proof.length → ∃ (g : Nat) (xs : List Value), arx = some ⟨g, 0, none⟩ ∧ crx = X.proof.length ∧ RowO w3.heap.size h4 w6 g apx cpx X xs ∧ g ≠ w4.heap.size) := fun hp => by
        obtain ⟨g, xs, e1, e2, r⟩ := HROW.out hp
        exact ⟨g, xs, e1, e2, (r.alloc _).same bx6, by have := r.no.2.2; omega⟩
      clear bx6
      go_wp2_with fail
      refine (mod_any _ by_ 5 HBY.out (by omega) (by omega)).mono ?_
      rintro e w7 ⟨rfl, rfl⟩
      have md := modP_bd by_ 5 (by omega)
      generalize modP by_ 5 = d at *
      have q1 : IntKind.i64.wrap (d - 2) = d - 2 := w64 (by omega)
      obtain ⟨sb, q2, kb⟩ : ∃ sb : Int, IntKind.i64.wrap (X.bound + (d - 2)) = sb ∧ I64 sb := ⟨_, rfl, wrap_I64 _⟩
      obtain ⟨sc, q3, kc⟩ : ∃ sc : Int, IntKind.i64.wrap (X.cost + (d - 2)) = sc ∧ I64 sc := ⟨_, rfl, wrap_I64 _⟩
      have KB := Lib.hid kb
      have KC := Lib.hid kc
      clear kb kc
      obtain ⟨x0, x1, x2, x3, x4⟩ := XX6.out.five
      have zx := XX6.out.lt
      by_cases hz : 0 < X.proof.length
      · obtain ⟨g, xs, rfl, rfl, RO, gne⟩ := HROW6.out hz
        have HRO := Lib.hid RO
        have GNE := Lib.hid gne
        have gne2 := gne.symm
        clear RO HROW HROW6
        go_wp2_with fail
        refine (mod_any _ at_ X.proof.length HAT.out (by omega) (by omega)).mono ?_
        rintro e w7 ⟨rfl, rfl⟩
        have nd1 := modP_bd at_ X.proof.length (by omega)
        generalize modP at_ X.proof.length = nn at *
        obtain ⟨n, rfl⟩ := Int.eq_ofNat_of_zero_le nd1.1
        have hn : n < X.proof.length := by omega
        obtain ⟨y1, y2, y3⟩ := HRO.out.cell hn
        have u1 : (0 : Int) ≤ (n : Int) := by omega
        have u2 : (n : Int) < (X.proof.length : Int) := by omega
        obtain ⟨gn, gB, gl⟩ := HRO.out.no
        obtain ⟨se, q4, ke⟩ : ∃ se : Int, IntKind.i64.wrap (X.proof[n].cost + (d - 2)) = se ∧ I64 se := ⟨_, rfl, wrap_I64 _⟩
        have KE := Lib.hid ke
        have GN := Lib.hid gn
        have GB := Lib.hid gB
        clear ke gn gB nd1
        go_wp2_with fail
        refine wp_region_still_tail 13 (by kernel_rfl) (by kernel_rfl) ?_
        simp only [List.take_succ_cons, List.take_zero, List.drop_succ_cons, List.drop_zero]
        change wpStill _ _ (World.drew _) (fun a' => wpList _ _ _ _ a' (World.drew _)) _ _
        repeat still_step
        refine wpStill_nil ?_
        have RO7 := Lib.hid (HRO.out.drew.put hn se KE.out)
        have I47 : Hid (Imm h4 (w6.drew.setCell ⟨g, n * 6 + 2, none⟩ (.int .i64 se))) := (I46.out.drew).set1 GN.out _
        have XAZ := Lib.hid (XA6.out.drew.ne (g := g) (fun e => by have := GB.out; have := ZW.out; omega) (n * 6 + 2) (.int .i64 se))
        have XBZ := Lib.hid (XB6.out.drew.ne (g := g) (fun e => by have := GB.out; have := ZW.out; omega) (n * 6 + 2) (.int .i64 se))
        have XXZ := Lib.hid (XX6.out.drew.ne GNE.out (n * 6 + 2) (.int .i64 se))
        have BZ : Hid (Below w.heap.size w (w6.drew.setCell ⟨g, n * 6 + 2, none⟩ (.int .i64 se))) := B6.out.drew.setCell (p := ⟨g, n * 6 + 2, none⟩) (by have := GB.out; have := B3.out.size; show w.heap.size ≤ g; omega) _
        have LZ := Lib.hid (Hp.le_frx (B := w3.heap.size) (x := w4.heap.size) I47.out N4.out)
        have IZ := Lib.hid (I47.out.frx (B := w3.heap.size) (x := w4.heap.size))
        have HXN := Lib.hid (Hp.frx_x h4 w3.heap.size (w6.drew.setCell ⟨g, n * 6 + 2, none⟩ (.int .i64 se)) w4.heap.size)
        obtain ⟨Xm, HMZ⟩ : ∃ Xm, Hid (MatchV (h4.frx w3.heap.size (w6.drew.setCell ⟨g, n * 6 + 2, none⟩ (.int .i64 se)) w4.heap.size) (.agg #[.slice apx X.pairs.length cpx, .int .i64 X.cost, .bool X.proven, .int .i64 X.bound, .slice (some ⟨g, 0, none⟩) X.proof.length X.proof.length]) Xm) := ⟨_, Lib.hid (by simpa using RO7.out.frx I47.out N4.out GNE.out)⟩
        have HTAZ := Lib.hid ((HTA1.out.mono LE4.out).mono LZ.out)
        have HTBZ := Lib.hid ((HTB1.out.mono LE4.out).mono LZ.out)
        generalize hhx : h4.frx w3.heap.size (w6.drew.setCell ⟨g, n * 6 + 2, none⟩ (.int .i64 se)) w4.heap.size = hx at *
        clear hhx LZ RO7
        go_upto_region 16 with fail
        refine mv_r16 IZ HTAZ HTBZ SZM SZR XAZ XBZ XXZ HMZ (Lib.hid rfl) (by kernel_rfl) _ (fun u121 u122 u123 u124 u125 u126 u127 u128 wx16 bx16 => ?_)
        dsimp only
        have BT16 : Hid (Below w.heap.size w wx16) := BZ.out.trans (bx16.mono BZ.out.size)
        have IT16 := Lib.hid (IZ.out.below bx16)
        have XAT16 := Lib.hid (XAZ.out.below bx16)
        have XBT16 := Lib.hid (XBZ.out.below bx16)
        have XXT16 := Lib.hid (XXZ.out.below bx16)
        clear bx16
        have zT16 := XXT16.out.lt
        obtain ⟨tT160, tT161, tT162, tT163, tT164⟩ := XXT16.out.five
        have ftT16 := XXT16.out.fz 3
        have IV16 : Hid (Imm hx (wx16.setCell ⟨w4.heap.size, 3, none⟩ (.int .i64 sb))) := IT16.out.set1 HXN.out _
        have XAV16 := Lib.hid (XAT16.out.ne NEXA.out 3 (.int .i64 sb))
        have XBV16 := Lib.hid (XBT16.out.ne NEXB.out 3 (.int .i64 sb))
        have XXV16 : Hid (Has (wx16.setCell ⟨w4.heap.size, 3, none⟩ (.int .i64 sb)) w4.heap.size #[.slice apx X.pairs.length cpx, .int .i64 X.cost, .bool X.proven, .int .i64 sb, .slice (some ⟨g, 0, none⟩) X.proof.length X.proof.length]) := XXT16.out.set1 3 (by simp) (.int .i64 sb)
        have HMV16 := Lib.hid (HMZ.out.num X.cost sb X.proven JC.out KB.out)
        have BV16 : Hid (Below w.heap.size w (wx16.setCell ⟨w4.heap.size, 3, none⟩ (.int .i64 sb))) := BT16.out.setCell (p := ⟨w4.heap.size, 3, none⟩) BPX.out _
        go_upto_region 18 with fail
        clear tT160 tT161 tT162 tT163 tT164 ftT16 zT16
        refine mv_r18 IV16 HTAZ HTBZ SZM SZR XAV16 XBV16 XXV16 HMV16 (Lib.hid rfl) (by kernel_rfl) _ (fun u135 u136 u137 u138 u139 u140 u141 u142 wx18 bx18 => ?_)
        dsimp only
        have BT18 : Hid (Below w.heap.size w wx18) := BV16.out.trans (bx18.mono BV16.out.size)
        have IT18 := Lib.hid (IV16.out.below bx18)
        have XAT18 := Lib.hid (XAV16.out.below bx18)
        have XBT18 := Lib.hid (XBV16.out.below bx18)
        have XXT18 := Lib.hid (XXV16.out.below bx18)
        clear bx18
        have zT18 := XXT18.out.lt
        obtain ⟨tT180, tT181, tT182, tT183, tT184⟩ := XXT18.out.five
        have ftT18 := XXT18.out.fz 1
        have IV18 : Hid (Imm hx (wx18.setCell ⟨w4.heap.size, 1, none⟩ (.int .i64 sc))) := IT18.out.set1 HXN.out _
        have XAV18 := Lib.hid (XAT18.out.ne NEXA.out 1 (.int .i64 sc))
        have XBV18 := Lib.hid (XBT18.out.ne NEXB.out 1 (.int .i64 sc))
        have XXV18 : Hid (Has (wx18.setCell ⟨w4.heap.size, 1, none⟩ (.int .i64 sc)) w4.heap.size #[.slice apx X.pairs.length cpx, .int .i64 sc, .bool X.proven, .int .i64 sb, .slice (some ⟨g, 0, none⟩) X.proof.length X.proof.length]) := XXT18.out.set1 1 (by simp) (.int .i64 sc)
        have HMV18 := Lib.hid (HMV16.out.num sc sb X.proven KC.out KB.out)
        have BV18 : Hid (Below w.heap.size w (wx18.setCell ⟨w4.heap.size, 1, none⟩ (.int .i64 sc))) := BT18.out.setCell (p := ⟨w4.heap.size, 1, none⟩) BPX.out _
        go_upto_region 20 with fail
        clear tT180 tT181 tT182 tT183 tT184 ftT18 zT18
        refine mv_r20 IV18 HTAZ HTBZ SZM SZR XAV18 XBV18 XXV18 HMV18 (Lib.hid rfl) (by kernel_rfl) _ (fun u149 u150 u151 u152 u153 u154 u155 u156 wx20 bx20 => ?_)
        dsimp only
        have BT20 : Hid (Below w.heap.size w wx20) := BV18.out.trans (bx20.mono BV18.out.size)
        have IT20 := Lib.hid (IV18.out.below bx20)
        have XAT20 := Lib.hid (XAV18.out.below bx20)
        have XBT20 := Lib.hid (XBV18.out.below bx20)
        have XXT20 := Lib.hid (XXV18.out.below bx20)
        clear bx20
        have zT20 := XXT20.out.lt
        obtain ⟨tT200, tT201, tT202, tT203, tT204⟩ := XXT20.out.five
        have ftT20 := XXT20.out.fz 2
        have IV20 : Hid (Imm hx (wx20.setCell ⟨w4.heap.size, 2, none⟩ (.bool false))) := IT20.out.set1 HXN.out _
        have XAV20 := Lib.hid (XAT20.out.ne NEXA.out 2 (.bool false))
        have XBV20 := Lib.hid (XBT20.out.ne NEXB.out 2 (.bool false))
        have XXV20 : Hid (Has (wx20.setCell ⟨w4.heap.size, 2, none⟩ (.bool false)) w4.heap.size #[.slice apx X.pairs.length cpx, .int .i64 sc, .bool false, .int .i64 sb, .slice (some ⟨g, 0, none⟩) X.proof.length X.proof.length]) := XXT20.out.set1 2 (by simp) (.bool false)
        have HMV20 := Lib.hid (HMV18.out.num sc sb false KC.out KB.out)
        have BV20 : Hid (Below w.heap.size w (wx20.setCell ⟨w4.heap.size, 2, none⟩ (.bool false))) := BT20.out.setCell (p := ⟨w4.heap.size, 2, none⟩) BPX.out _
        go_upto_region 22 with fail
        clear tT200 tT201 tT202 tT203 tT204 ftT20 zT20
        refine mv_r22 IV20 HTAZ HTBZ SZM SZR XAV20 XBV20 XXV20 HMV20 (Lib.hid rfl) (by kernel_rfl) _ (fun u159 u160 u161 u162 u163 u164 u165 u166 u167 u168 u169 u170 u171 u172 u173 u174 u175 u176 u177 u178 wx22 bx22 => ?_)
        dsimp only
        have BT22 : Hid (Below w.heap.size w wx22) := BV20.out.trans (bx22.mono BV20.out.size)
        clear bx22
        go_wp2_with fail
        go_ret
        exact ⟨rfl, BT22.out⟩
      · have hz' : X.proof.length = 0 := by omega
        clear HROW HROW6
        have HXN := N5
        have IZ := I6
        have HTAZ := HTA5
        have HTBZ := HTB5
        have XAZ := XA6
        have XBZ := XB6
        have XXZ := XX6
        have HMZ := HM5
        have BZ := B6
        generalize h5 = hx at *
        go_upto_region 16 with fail
        refine mv_r16 IZ HTAZ HTBZ SZM SZR XAZ XBZ XXZ HMZ (Lib.hid rfl) (by kernel_rfl) _ (fun u121 u122 u123 u124 u125 u126 u127 u128 wx16 bx16 => ?_)
        dsimp only
        have BT16 : Hid (Below w.heap.size w wx16) := BZ.out.trans (bx16.mono BZ.out.size)
        have IT16 := Lib.hid (IZ.out.below bx16)
        have XAT16 := Lib.hid (XAZ.out.below bx16)
        have XBT16 := Lib.hid (XBZ.out.below bx16)
        have XXT16 := Lib.hid (XXZ.out.below bx16)
        clear bx16
        have zT16 := XXT16.out.lt
        obtain ⟨tT160, tT161, tT162, tT163, tT164⟩ := XXT16.out.five
        have ftT16 := XXT16.out.fz 3
        have IV16 : Hid (Imm hx (wx16.setCell ⟨w4.heap.size, 3, none⟩ (.int .i64 sb))) := IT16.out.set1 HXN.out _
        have XAV16 := Lib.hid (XAT16.out.ne NEXA.out 3 (.int .i64 sb))
        have XBV16 := Lib.hid (XBT16.out.ne NEXB.out 3 (.int .i64 sb))
        have XXV16 : Hid (Has (wx16.setCell ⟨w4.heap.size, 3, none⟩ (.int .i64 sb)) w4.heap.size #[.slice apx X.pairs.length cpx, .int .i64 X.cost, .bool X.proven, .int .i64 sb, .slice arx X.proof.length crx]) := XXT16.out.set1 3 (by simp) (.int .i64 sb)
        have HMV16 := Lib.hid (HMZ.out.num X.cost sb X.proven JC.out KB.out)
        have BV16 : Hid (Below w.heap.size w (wx16.setCell ⟨w4.heap.size, 3, none⟩ (.int .i64 sb))) := BT16.out.setCell (p := ⟨w4.heap.size, 3, none⟩) BPX.out _
        go_upto_region 18 with fail
        clear tT160 tT161 tT162 tT163 tT164 ftT16 zT16
        refine mv_r18 IV16 HTAZ HTBZ SZM SZR XAV16 XBV16 XXV16 HMV16 (Lib.hid rfl) (by kernel_rfl) _ (fun u135 u136 u137 u138 u139 u140 u141 u142 wx18 bx18 => ?_)
        dsimp only
        have BT18 : Hid (Below w.heap.size w wx18) := BV16.out.trans (bx18.mono BV16.out.size)
        have IT18 := Lib.hid (IV16.out.below bx18)
        have XAT18 := Lib.hid (XAV16.out.below bx18)
        have XBT18 := Lib.hid (XBV16.out.below bx18)
        have XXT18 := Lib.hid (XXV16.out.below bx18)
        clear bx18
        have zT18 := XXT18.out.lt
        obtain ⟨tT180, tT181, tT182, tT183, tT184⟩ := XXT18.out.five
        have ftT18 := XXT18.out.fz 1
        have IV18 : Hid (Imm hx (wx18.setCell ⟨w4.heap.size, 1, none⟩ (.int .i64 sc))) := IT18.out.set1 HXN.out _
        have XAV18 := Lib.hid (XAT18.out.ne NEXA.out 1 (.int .i64 sc))
        have XBV18 := Lib.hid (XBT18.out.ne NEXB.out 1 (.int .i64 sc))
        have XXV18 : Hid (Has (wx18.setCell ⟨w4.heap.size, 1, none⟩ (.int .i64 sc)) w4.heap.size #[.slice apx X.pairs.length cpx, .int .i64 sc, .bool X.proven, .int .i64 sb, .slice arx X.proof.length crx]) := XXT18.out.set1 1 (by simp) (.int .i64 sc)
        have HMV18 := Lib.hid (HMV16.out.num sc sb X.proven KC.out KB.out)
        have BV18 : Hid (Below w.heap.size w (wx18.setCell ⟨w4.heap.size, 1, none⟩ (.int .i64 sc))) := BT18.out.setCell (p := ⟨w4.heap.size, 1, none⟩) BPX.out _
        go_upto_region 20 with fail
        clear tT180 tT181 tT182 tT183 tT184 ftT18 zT18
        refine mv_r20 IV18 HTAZ HTBZ SZM SZR XAV18 XBV18 XXV18 HMV18 (Lib.hid rfl) (by kernel_rfl) _ (fun u149 u150 u151 u152 u153 u154 u155 u156 wx20 bx20 => ?_)
        dsimp only
        have BT20 : Hid (Below w.heap.size w wx20) := BV18.out.trans (bx20.mono BV18.out.size)
        have IT20 := Lib.hid (IV18.out.below bx20)
        have XAT20 := Lib.hid (XAV18.out.below bx20)
        have XBT20 := Lib.hid (XBV18.out.below bx20)
        have XXT20 := Lib.hid (XXV18.out.below bx20)
        clear bx20
        have zT20 := XXT20.out.lt
        obtain ⟨tT200, tT201, tT202, tT203, tT204⟩ := XXT20.out.five
        have ftT20 := XXT20.out.fz 2
        have IV20 : Hid (Imm hx (wx20.setCell ⟨w4.heap.size, 2, none⟩ (.bool false))) := IT20.out.set1 HXN.out _
        have XAV20 := Lib.hid (XAT20.out.ne NEXA.out 2 (.bool false))
        have XBV20 := Lib.hid (XBT20.out.ne NEXB.out 2 (.bool false))
        have XXV20 : Hid (Has (wx20.setCell ⟨w4.heap.size, 2, none⟩ (.bool false)) w4.heap.size #[.slice apx X.pairs.length cpx, .int .i64 sc, .bool false, .int .i64 sb, .slice arx X.proof.length crx]) := XXT20.out.set1 2 (by simp) (.bool false)
        have HMV20 := Lib.hid (HMV18.out.num sc sb false KC.out KB.out)
        have BV20 : Hid (Below w.heap.size w (wx20.setCell ⟨w4.heap.size, 2, none⟩ (.bool false))) := BT20.out.setCell (p := ⟨w4.heap.size, 2, none⟩) BPX.out _
        go_upto_region 22 with fail
        clear tT200 tT201 tT202 tT203 tT204 ftT20 zT20
        refine mv_r22 IV20 HTAZ HTBZ SZM SZR XAV20 XBV20 XXV20 HMV20 (Lib.hid rfl) (by kernel_rfl) _ (fun u159 u160 u161 u162 u163 u164 u165 u166 u167 u168 u169 u170 u171 u172 u173 u174 u175 u176 u177 u178 wx22 bx22 => ?_)
        dsimp only
        have BT22 : Hid (Below w.heap.size w wx22) := BV20.out.trans (bx22.mono BV20.out.size)
        clear bx22
        go_wp2_with fail
        go_ret
        exact ⟨rfl, BT22.out⟩
set_option maxRecDepth 100000 in
set_option maxHeartbeats 4000000 in
theorem verifies_big (w : World) (a1 a2 a3 a4 : Option Addr) (n1 c1 n2 c2 n3 c3 n4 c4 : Nat) (k q1 q3 : Int) (q2 : Bool) (at_ by_ : Int) (h1 : n1 ≤ 9223372036854775807) (h2 : n2 ≤ 9223372036854775807) (hb : 120 < n1 ∨ 120 < n2 ∨ 60 < n3 ∨ 60 < n4) :
    Calls Try.prog 5 #[.slice a1 n1 c1, .int .i64 k, .slice a2 n2 c2, .agg #[.slice a3 n3 c3, .int .i64 q1, .bool q2, .int .i64 q3, .slice a4 n4 c4], .int .i64 at_, .int .i64 by_] w fun e w' => e = .returned (.bool true) ∧ Below w.heap.size w w' := by
  go_enter Try.func5, Try.ntmps5
  go_wp2_with fail
  have B0 : Hid (Below w.heap.size w (w.alloc (Obj.cells #[.slice a3 n3 c3, .int .i64 q1, .bool q2, .int .i64 q3, .slice a4 n4 c4] 32))) := (Below.refl _ _).alloc (Nat.le_refl _) _
  have XR : Hid (Has (w.alloc (Obj.cells #[.slice a3 n3 c3, .int .i64 q1, .bool q2, .int .i64 q3, .slice a4 n4 c4] 32)) w.heap.size #[.slice a3 n3 c3, .int .i64 q1, .bool q2, .int .i64 q3, .slice a4 n4 c4]) := Has.new _ _ _
  generalize w.alloc (Obj.cells #[.slice a3 n3 c3, .int .i64 q1, .bool q2, .int .i64 q3, .slice a4 n4 c4] 32) = w0 at *
  refine (Light_any _ a1 n1 c1 h1).mono ?_
  rintro e w1 ⟨rfl, rfl⟩
  by_cases g : 120 < n1
  · have g1 : decide ((n1 : Int) ≤ 120) = false := by simp; omega
    rw [g1]
    clear hb
    go_wp2_with fail
    refine (awake_any _).mono ?_
    rintro e w2 ⟨rfl, hb2⟩
    have B2 : Hid (Below w.heap.size w w2) := B0.out.trans (hb2.mono B0.out.size)
    clear hb2
    go_wp2_with fail
    go_ret
    exact ⟨rfl, B2.out⟩
  have g1 : decide ((n1 : Int) ≤ 120) = true := by simp; omega
  rw [g1]
  go_wp2_with fail
  refine (Light_any _ a2 n2 c2 h2).mono ?_
  rintro e w1 ⟨rfl, rfl⟩
  by_cases g' : 120 < n2
  · have g2 : decide ((n2 : Int) ≤ 120) = false := by simp; omega
    rw [g2]
    clear hb
    go_wp2_with fail
    refine (awake_any _).mono ?_
    rintro e w2 ⟨rfl, hb2⟩
    have B2 : Hid (Below w.heap.size w w2) := B0.out.trans (hb2.mono B0.out.size)
    clear hb2
    go_wp2_with fail
    go_ret
    exact ⟨rfl, B2.out⟩
  have g2 : decide ((n2 : Int) ≤ 120) = true := by simp; omega
  rw [g2]
  obtain ⟨r0, r1, r2, r3, r4⟩ := XR.out.five
  have zr := XR.out.lt
  by_cases g3 : 60 < n3
  · clear hb
    go_wp2_with fail
    refine (awake_any _).mono ?_
    rintro e w2 ⟨rfl, hb2⟩
    have B2 : Hid (Below w.heap.size w w2) := B0.out.trans (hb2.mono B0.out.size)
    clear hb2
    go_wp2_with fail
    go_ret
    exact ⟨rfl, B2.out⟩
  have g4 : 60 < n4 := by omega
  have g5 : decide (60 < n3) = false := by simpa using g3
  clear hb
  go_wp2_with fail
  refine (awake_any _).mono ?_
  rintro e w2 ⟨rfl, hb2⟩
  have B2 : Hid (Below w.heap.size w w2) := B0.out.trans (hb2.mono B0.out.size)
  clear hb2
  go_wp2_with fail
  go_ret
  exact ⟨rfl, B2.out⟩
end Go.Proofs.Ytfifbadepebpeaa
