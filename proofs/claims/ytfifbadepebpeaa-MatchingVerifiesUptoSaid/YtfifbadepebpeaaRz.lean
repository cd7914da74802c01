/- The reference Match. -/
import Derived.Test.YtfifbadepebpeaaRg
import Derived.Test.YtfifbadepebpeaaBo
namespace Go.Proofs.Ytfifbadepebpeaa
open Go.RowKit

set_option maxRecDepth 100000 in
set_option maxHeartbeats 60000000 in
theorem rmatch_own (h : Hp) (w : World) (hi : Imm h w) (va vb : Value) (a b : Tree) (ta : TreeV h va a) (tb : TreeV h vb b) (budget : Int) (hB : I64 budget) (sa : a.size ≤ 400) (sb : b.size ≤ 400) :
    Calls Try.prog 14 #[va, vb, .int .i64 budget] w fun e w' => ∃ v, e = .returned v ∧ ∃ h', St w.heap.size h w h' w' ∧ MatchO w.heap.size h' w' v (matchM (flatP a) (flatP b) budget) := by
  have TA := Lib.hid ta
  have TB := Lib.hid tb
  obtain ⟨al1, cl1, ak1, ck1, -, rfl, -, -, -, -, -, -⟩ := ta.open
  obtain ⟨al2, cl2, ak2, ck2, -, rfl, -, -, -, -, -, -⟩ := tb.open
  have HI := Lib.hid hi
  have sa' : a.size ≤ 262144 := by omega
  have sb' : b.size ≤ 262144 := by omega
  clear ta tb hi
  go_enter Try.func14, Try.ntmps14
  go_wp2_with fail
  have A8 := Lib.hid (((Has.new w #[.int .i64 a.kind, .string a.text, .slice al1 a.leads.length cl1, .slice ak1 a.kids.length ck1] 25).alloc (Obj.cells #[.int .i64 b.kind, .string b.text, .slice al2 b.leads.length cl2, .slice ak2 b.kids.length ck2] 25)).alloc (Obj.cells #[.slice none 0 0, .int .i64 0, .bool false, .int .i64 0, .slice none 0 0] 32))
  have B8 := Lib.hid ((Has.new1 w (Obj.cells #[.int .i64 a.kind, .string a.text, .slice al1 a.leads.length cl1, .slice ak1 a.kids.length ck1] 25) #[.int .i64 b.kind, .string b.text, .slice al2 b.leads.length cl2, .slice ak2 b.kids.length ck2] 25).alloc (Obj.cells #[.slice none 0 0, .int .i64 0, .bool false, .int .i64 0, .slice none 0 0] 32))
  have M8 : Hid (Has (((w.alloc (Obj.cells #[.int .i64 a.kind, .string a.text, .slice al1 a.leads.length cl1, .slice ak1 a.kids.length ck1] 25)).alloc (Obj.cells #[.int .i64 b.kind, .string b.text, .slice al2 b.leads.length cl2, .slice ak2 b.kids.length ck2] 25)).alloc (Obj.cells #[.slice none 0 0, .int .i64 0, .bool false, .int .i64 0, .slice none 0 0] 32)) (w.heap.size + 2) #[.slice none 0 0, .int .i64 0, .bool false, .int .i64 0, .slice none 0 0]) := by
    have := Has.new ((w.alloc (Obj.cells #[.int .i64 a.kind, .string a.text, .slice al1 a.leads.length cl1, .slice ak1 a.kids.length ck1] 25)).alloc (Obj.cells #[.int .i64 b.kind, .string b.text, .slice al2 b.leads.length cl2, .slice ak2 b.kids.length ck2] 25)) #[.slice none 0 0, .int .i64 0, .bool false, .int .i64 0, .slice none 0 0] 32
    unfold Hid
    simpa using this
  have S8 : Hid (St w.heap.size h w h (((w.alloc (Obj.cells #[.int .i64 a.kind, .string a.text, .slice al1 a.leads.length cl1, .slice ak1 a.kids.length ck1] 25)).alloc (Obj.cells #[.int .i64 b.kind, .string b.text, .slice al2 b.leads.length cl2, .slice ak2 b.kids.length ck2] 25)).alloc (Obj.cells #[.slice none 0 0, .int .i64 0, .bool false, .int .i64 0, .slice none 0 0] 32))) := (((St.refl HI.out).alloc _).alloc _).alloc _
  have Z8 : (((w.alloc (Obj.cells #[.int .i64 a.kind, .string a.text, .slice al1 a.leads.length cl1, .slice ak1 a.kids.length ck1] 25)).alloc (Obj.cells #[.int .i64 b.kind, .string b.text, .slice al2 b.leads.length cl2, .slice ak2 b.kids.length ck2] 25)).alloc (Obj.cells #[.slice none 0 0, .int .i64 0, .bool false, .int .i64 0, .slice none 0 0] 32)).heap.size = w.heap.size + 3 := by simp
  generalize hw3 : (((w.alloc (Obj.cells #[.int .i64 a.kind, .string a.text, .slice al1 a.leads.length cl1, .slice ak1 a.kids.length ck1] 25)).alloc (Obj.cells #[.int .i64 b.kind, .string b.text, .slice al2 b.leads.length cl2, .slice ak2 b.kids.length ck2] 25)).alloc (Obj.cells #[.slice none 0 0, .int .i64 0, .bool false, .int .i64 0, .slice none 0 0] 32)) = w3 at *
  clear hw3
  have I8 := Lib.hid S8.out.imm
  have HZ8 := Lib.hid Z8
  have l1 : w.heap.size < w3.heap.size := by omega
  have l2 : w.heap.size + 1 < w3.heap.size := by omega
  have l3 : w.heap.size < w3.heap.size + 1 := by omega
  have l4 : w.heap.size < w3.heap.size + 1 + 1 := by omega
  have l5 : w.heap.size + 1 < w3.heap.size + 1 := by omega
  have l6 : w.heap.size + 1 < w3.heap.size + 1 + 1 := by omega
  have l1n := Nat.ne_of_lt l1
  have l1g := Nat.ne_of_gt l1
  have l2n := Nat.ne_of_lt l2
  have l2g := Nat.ne_of_gt l2
  have l3n := Nat.ne_of_lt l3
  have l3g := Nat.ne_of_gt l3
  have za0 : w3.cell? ⟨w.heap.size, 0, none⟩ = some (.int .i64 a.kind) := A8.out.cl 0
  have za1 : w3.cell? ⟨w.heap.size, 1, none⟩ = some (.string a.text) := A8.out.cl 1
  have za2 : w3.cell? ⟨w.heap.size, 2, none⟩ = some (.slice al1 a.leads.length cl1) := A8.out.cl 2
  have za3 : w3.cell? ⟨w.heap.size, 3, none⟩ = some (.slice ak1 a.kids.length ck1) := A8.out.cl 3
  have zb0 : w3.cell? ⟨w.heap.size + 1, 0, none⟩ = some (.int .i64 b.kind) := B8.out.cl 0
  have zb1 : w3.cell? ⟨w.heap.size + 1, 1, none⟩ = some (.string b.text) := B8.out.cl 1
  have zb2 : w3.cell? ⟨w.heap.size + 1, 2, none⟩ = some (.slice al2 b.leads.length cl2) := B8.out.cl 2
  have zb3 : w3.cell? ⟨w.heap.size + 1, 3, none⟩ = some (.slice ak2 b.kids.length ck2) := B8.out.cl 3
  clear Z8
  go_upto_region 1 with fail
  go_cut [7, 8] (fun s7 s8 wx => ∃ g7 g8 : Nat, s7 = .pointer (some ⟨g7, 0, none⟩) ∧ s8 = .pointer (some ⟨g8, 0, none⟩) ∧ RmX h w3 (flatP a) (flatP b) g7 g8 wx)
  case first =>
    refine rm_r1 TA TB sa' sb' A8 B8 I8 HZ8 (by kernel_rfl) _ (fun g7 g8 u19 u20 u21 u22 wx X => ?_)
    dsimp only
    go_wp2_with fail
    go_meet
    exact ⟨_, _, rfl, rfl, X⟩
  case rest =>
    obtain ⟨g7, g8, rfl, rfl, X⟩ := hcut
    obtain ⟨h1, S1, ⟨c7, e7, N7⟩, ⟨c8, e8, N8⟩⟩ := X
    have lx := (flatP_po a).wf.pos
    have ly := (flatP_po b).wf.pos
    have PX := Lib.hid (flatP_po a)
    have PY := Lib.hid (flatP_po b)
    have NX0 := narrow_of sa
    have NY0 := narrow_of sb
    have sx : (flatP a).length ≤ 400 := by rw [flatP_length]; exact sa
    have sy : (flatP b).length ≤ 400 := by rw [flatP_length]; exact sb
    have ka : Hid ((nd (flatP a) 0).kind = a.kind) := by unfold Hid nd flatP; rw [flatAt_eq]; rfl
    have kb : Hid ((nd (flatP b) 0).kind = b.kind) := by unfold Hid nd flatP; rw [flatAt_eq]; rfl
    obtain ⟨bn, on, cn, bp, op, cp, bs, os, ct, bk, ok, ck, rfl, -, OX0⟩ := N7.open lx
    obtain ⟨dn, pn, en, dp, pp, ep, ds, qs, es, dk, pk, ek, rfl, -, OY0⟩ := N8.open ly
    have V7 : Hid (NumV h1 (.agg #[.slice (some ⟨bn, on, none⟩) (flatP a).length cn, .slice (some ⟨bp, op, none⟩) (flatP a).length cp, .slice (some ⟨bs, os, none⟩) (flatP a).length ct, .slice (some ⟨bk, ok, none⟩) (flatP a).length ck, .bool (!narrowB (flatP a))]) (flatP a)) := ⟨_, rfl, N7⟩
    have V8 : Hid (NumV h1 (.agg #[.slice (some ⟨dn, pn, none⟩) (flatP b).length en, .slice (some ⟨dp, pp, none⟩) (flatP b).length ep, .slice (some ⟨ds, qs, none⟩) (flatP b).length es, .slice (some ⟨dk, pk, none⟩) (flatP b).length ek, .bool (!narrowB (flatP b))]) (flatP b)) := ⟨_, rfl, N8⟩
    have NE7 := Lib.hid N7
    have NE8 := Lib.hid N8
    have G7 : Hid (∀ W, Imm h1 W → g7 < W.heap.size ∧ ∀ i, W.cell? ⟨g7, i, none⟩ = (#[.slice (some ⟨bn, on, none⟩) (flatP a).length cn, .slice (some ⟨bp, op, none⟩) (flatP a).length cp, .slice (some ⟨bs, os, none⟩) (flatP a).length ct, .slice (some ⟨bk, ok, none⟩) (flatP a).length ck, .bool (!narrowB (flatP a))] : Array Value)[i]?) := fun W hW => ⟨blk_lt (hW _ _ e7), fun i => blk_cell (hW _ _ e7) i⟩
    have G8 : Hid (∀ W, Imm h1 W → g8 < W.heap.size ∧ ∀ i, W.cell? ⟨g8, i, none⟩ = (#[.slice (some ⟨dn, pn, none⟩) (flatP b).length en, .slice (some ⟨dp, pp, none⟩) (flatP b).length ep, .slice (some ⟨ds, qs, none⟩) (flatP b).length es, .slice (some ⟨dk, pk, none⟩) (flatP b).length ek, .bool (!narrowB (flatP b))] : Array Value)[i]?) := fun W hW => ⟨blk_lt (hW _ _ e8), fun i => blk_cell (hW _ _ e8) i⟩
    have SW : Hid (St w.heap.size h w h1 wc) := S8.out.call S1
    have HNO : Hid (h1 (w.heap.size + 2) = none) := by
      unfold Hid
      rw [S1.old _ (by rw [HZ8.out]; omega)]
      exact new_own HI.out _ (by omega)
    have BX : Hid (∀ W, Below w3.heap.size w3 W → Has W (w.heap.size + 2) #[.slice none 0 0, .int .i64 0, .bool false, .int .i64 0, .slice none 0 0] ∧ W.cell? ⟨w.heap.size, 0, none⟩ = some (.int .i64 a.kind) ∧ W.cell? ⟨w.heap.size + 1, 0, none⟩ = some (.int .i64 b.kind) ∧ w.heap.size + 1 < W.heap.size) := fun W hW => ⟨M8.out.below hW, (A8.out.below hW).cl 0, (B8.out.below hW).cl 0, (B8.out.below hW).lt⟩
    have S1' := Lib.hid S1
    clear N7 N8 e7 e8 S1 OX0 OY0 A8 B8 M8 za0 za1 za2 za3 zb0 zb1 zb2 zb3 l1 l2 l3 l4 l5 l6 l1n l1g l2n l2g l3n l3g TA TB sa sb sa' sb'
    generalize hfa : flatP a = x at *
    generalize hfb : flatP b = y at *
    have HFA := Lib.hid hfa
    have HFB := Lib.hid hfb
    clear hfa hfb
    rw [NX0] at V7 G7 NE7
    rw [NY0] at V8 G8 NE8
    simp only [Bool.not_true] at V7 G7 NE7 V8 G8 NE8
    have NXH := Lib.hid NX0
    have NYH := Lib.hid NY0
    clear NX0 NY0
    have S9 : Hid (∀ n, St w3.heap.size h w3 h1 (wc.drewN n)) := fun n => S1'.out.drewN n
    obtain ⟨⟨-, mc, mf⟩, ba, bb, zb⟩ := BX.out wc S1'.out.below
    obtain ⟨z7, p7⟩ := G7.out wc S1'.out.imm
    obtain ⟨z8, p8⟩ := G8.out wc S1'.out.imm
    have p70 : wc.cell? ⟨g7, 0, none⟩ = some (.slice (some ⟨bn, on, none⟩) x.length cn) := p7 0
    have p80 : wc.cell? ⟨g8, 0, none⟩ = some (.slice (some ⟨dn, pn, none⟩) y.length en) := p8 0
    clear p7 p8 mc mf
    go_wp2_with fail
    go_quiet (fail)
    by_cases hk : a.kind = b.kind
    case neg =>
      have g1 := ibneT hk
      have HM : Hid (matchM (flatP a) (flatP b) budget = { pairs := [], cost := x.length + y.length, proven := true, bound := x.length + y.length, proof := [] }) := by unfold Hid; rw [HFA.out, HFB.out]; unfold matchM; rw [if_neg (by rw [ka.out, kb.out]; exact hk)]
      clear hk
      obtain ⟨MB, -, -, -⟩ := BX.out (wc.drewN nq) (S9.out nq).below
      have k0 : (wc.drewN nq).cell? ⟨w.heap.size + 2, 0, none⟩ = some (.slice none 0 0) := MB.cl 0
      have k1 : (wc.drewN nq).cell? ⟨w.heap.size + 2, 1, none⟩ = some (.int .i64 0) := MB.cl 1
      have k2 : (wc.drewN nq).cell? ⟨w.heap.size + 2, 2, none⟩ = some (.bool false) := MB.cl 2
      have k3 : (wc.drewN nq).cell? ⟨w.heap.size + 2, 3, none⟩ = some (.int .i64 0) := MB.cl 3
      have k4 : (wc.drewN nq).cell? ⟨w.heap.size + 2, 4, none⟩ = some (.slice none 0 0) := MB.cl 4
      have z0 := MB.fz 0
      have z1 := MB.fz 1
      have z2 := MB.fz 2
      have z3 := MB.fz 3
      have z4 := MB.fz 4
      have zz := MB.lt
      clear MB
      go_wp2_with fail
      refine bodyPost_ret (v := .agg #[.slice none 0 0, .int .i64 ((x.length : Int) + y.length), .bool true, .int .i64 ((x.length : Int) + y.length), .slice none 0 0]) (by simp [results, Try.results14, go_sem, k0, k1, k2, k3, k4]) rfl ?_
      refine ⟨_, rfl, _, set5 (SW.out.drewN nq) (by omega) HNO.out _ _ _ _ _, .inl ⟨by rw [HM.out], none, 0, none, 0, by rw [HM.out]; rfl, ?_, ?_, ?_, ?_⟩⟩
      · rw [HM.out]; unfold I64; simp only; omega
      · rw [HM.out]; unfold I64; simp only; omega
      · rw [HM.out]; exact ⟨Sl.nil _ _ _ _, by simp⟩
      · rw [HM.out]; exact ⟨[], Sl.nil _ _ _ _, by simp [EncL]⟩
    have g1 := ibneF hk
    have HK : Hid ((nd x 0).kind = (nd y 0).kind) := by unfold Hid; rw [ka.out, kb.out]; exact hk
    clear hk
    obtain ⟨mo, hmo⟩ : ∃ mo : Nat, max budget 0 = (mo : Int) := ⟨(max budget 0).toNat, by omega⟩
    have hmo2 : mo ≤ 9223372036854775807 := by unfold I64 at hB; omega
    obtain ⟨z7, p7⟩ := G7.out (wc.drewN nq) (S9.out nq).imm
    obtain ⟨z8, p8⟩ := G8.out (wc.drewN nq) (S9.out nq).imm
    have q70 : (wc.drewN nq).cell? ⟨g7, 0, none⟩ = some (.slice (some ⟨bn, on, none⟩) x.length cn) := p7 0
    have q71 : (wc.drewN nq).cell? ⟨g7, 1, none⟩ = some (.slice (some ⟨bp, op, none⟩) x.length cp) := p7 1
    have q72 : (wc.drewN nq).cell? ⟨g7, 2, none⟩ = some (.slice (some ⟨bs, os, none⟩) x.length ct) := p7 2
    have q73 : (wc.drewN nq).cell? ⟨g7, 3, none⟩ = some (.slice (some ⟨bk, ok, none⟩) x.length ck) := p7 3
    have q74 : (wc.drewN nq).cell? ⟨g7, 4, none⟩ = some (.bool false) := p7 4
    have q80 : (wc.drewN nq).cell? ⟨g8, 0, none⟩ = some (.slice (some ⟨dn, pn, none⟩) y.length en) := p8 0
    have q81 : (wc.drewN nq).cell? ⟨g8, 1, none⟩ = some (.slice (some ⟨dp, pp, none⟩) y.length ep) := p8 1
    have q82 : (wc.drewN nq).cell? ⟨g8, 2, none⟩ = some (.slice (some ⟨ds, qs, none⟩) y.length es) := p8 2
    have q83 : (wc.drewN nq).cell? ⟨g8, 3, none⟩ = some (.slice (some ⟨dk, pk, none⟩) y.length ek) := p8 3
    have q84 : (wc.drewN nq).cell? ⟨g8, 4, none⟩ = some (.bool false) := p8 4
    clear p7 p8 p70 p80
    go_wp2_with fail
    refine (rcompared_any h1 _ (S9.out nq).imm _ _ x y V7.out V8.out PX.out PY.out (by omega) (by omega) HK.out mo hmo2).mono ?_
    rintro e w4 ⟨v4, rfl, h4, S4, P4⟩
    have AL := allC_len PX.out PY.out
    have hxy : x.length * y.length ≤ 400 * 400 := Nat.mul_le_mul sx sy
    have S4' : Hid (St w3.heap.size h w3 h4 w4) := (S9.out nq).call S4
    have SW4 : Hid (St w.heap.size h w h4 w4) := (SW.out.drewN nq).call S4
    have HNO4 : Hid (h4 (w.heap.size + 2) = none) := by
      unfold Hid
      rw [S4.old _ (by have := (S9.out nq).size; rw [HZ8.out] at this; omega)]
      exact HNO.out
    have V74 := Lib.hid (V7.out.mono S4.le)
    have V84 := Lib.hid (V8.out.mono S4.le)
    have LE4 := Lib.hid S4.le
    have P4' := Lib.hid P4
    obtain ⟨a4, c4, rfl, -, -⟩ := P4.open
    obtain ⟨z7, p7⟩ := G7.out w4 (fun b c hc => S4.imm b c (S4.le b c hc))
    obtain ⟨z8, p8⟩ := G8.out w4 (fun b c hc => S4.imm b c (S4.le b c hc))
    have r70 : w4.cell? ⟨g7, 0, none⟩ = some (.slice (some ⟨bn, on, none⟩) x.length cn) := p7 0
    have r71 : w4.cell? ⟨g7, 1, none⟩ = some (.slice (some ⟨bp, op, none⟩) x.length cp) := p7 1
    have r72 : w4.cell? ⟨g7, 2, none⟩ = some (.slice (some ⟨bs, os, none⟩) x.length ct) := p7 2
    have r73 : w4.cell? ⟨g7, 3, none⟩ = some (.slice (some ⟨bk, ok, none⟩) x.length ck) := p7 3
    have r74 : w4.cell? ⟨g7, 4, none⟩ = some (.bool false) := p7 4
    have r80 : w4.cell? ⟨g8, 0, none⟩ = some (.slice (some ⟨dn, pn, none⟩) y.length en) := p8 0
    have r81 : w4.cell? ⟨g8, 1, none⟩ = some (.slice (some ⟨dp, pp, none⟩) y.length ep) := p8 1
    have r82 : w4.cell? ⟨g8, 2, none⟩ = some (.slice (some ⟨ds, qs, none⟩) y.length es) := p8 2
    have r83 : w4.cell? ⟨g8, 3, none⟩ = some (.slice (some ⟨dk, pk, none⟩) y.length ek) := p8 3
    have r84 : w4.cell? ⟨g8, 4, none⟩ = some (.bool false) := p8 4
    have CA := Lib.hid (cmpB_all PX.out PY.out budget)
    clear p7 p8 q70 q71 q72 q73 q74 q80 q81 q82 q83 q84 S4 P4 ba bb
    by_cases hbu : budget < ((allC x y).length : Int)
    · have HM : Hid (matchM (flatP a) (flatP b) budget = posM x y) := by
        unfold Hid; rw [HFA.out, HFB.out]; unfold matchM
        rw [if_pos HK.out, if_pos ⟨NXH.out, NYH.out⟩, CA.out.2 hbu]
      have hlen : budget < (((allC x y).take (mo + 1)).length : Int) := by
        have h0 : 0 < (allC x y).length := by
          have := (mem_allC (x := x) (y := y) (q := (0, 0))).2 ⟨0, lx, rfl, by rw [wR_zero]; simp⟩
          exact List.length_pos_of_mem this
        rw [List.length_take]; omega
      clear hbu P4'
      generalize (allC x y).take (mo + 1) = C at *
      go_wp2_with fail
      refine (byIndex_any x y PX.out PY.out (by omega) (by omega) x.length h4 _ S4'.out.imm _ _ V74.out V84.out 0 0 lx ly (by omega)).mono ?_
      rintro e w5 ⟨v5, rfl, h5, S5, P5⟩
      rw [show foll (kpI x y) x.length (((0 : Nat) : Int), ((0 : Nat) : Int)) = (posM x y).pairs from (pos_pairs PX.out PY.out).symm] at P5
      have PP := Lib.hid (pos_price PX.out PY.out HK.out)
      have PGE := price_ge PP.out
      have PLE : (posM x y).cost ≤ (x.length : Int) + y.length := by have e := (price_in PP.out).1; have := (wsum_ge x y (posM x y).pairs).2; omega
      have PBD : Hid ((posM x y).bound = max ((x.length : Int) - y.length) ((y.length : Int) - x.length)) := by unfold Hid posM; simp only; omega
      have P5' := Lib.hid P5
      obtain ⟨a5, c5, rfl, -, -⟩ := P5.open
      have S5' : Hid (St w3.heap.size h w3 h5 w5) := S4'.out.call S5
      have SW5 : Hid (St w.heap.size h w h5 w5) := SW4.out.call S5
      have HNO5 : Hid (h5 (w.heap.size + 2) = none) := by
        unfold Hid
        rw [S5.old _ (by have := S4'.out.size; rw [HZ8.out] at this; omega)]
        exact HNO4.out
      have V75 := Lib.hid (V74.out.mono S5.le)
      have V85 := Lib.hid (V84.out.mono S5.le)
      have hz5 : w.heap.size + 3 ≤ w5.heap.size := by have := S5'.out.size; rw [HZ8.out] at this; exact this
      obtain ⟨z7, p7⟩ := G7.out w5 (fun b c hc => S5.imm b c (S5.le b c (LE4.out b c hc)))
      obtain ⟨z8, p8⟩ := G8.out w5 (fun b c hc => S5.imm b c (S5.le b c (LE4.out b c hc)))
      have t70 : w5.cell? ⟨g7, 0, none⟩ = some (.slice (some ⟨bn, on, none⟩) x.length cn) := p7 0
      have t71 : w5.cell? ⟨g7, 1, none⟩ = some (.slice (some ⟨bp, op, none⟩) x.length cp) := p7 1
      have t72 : w5.cell? ⟨g7, 2, none⟩ = some (.slice (some ⟨bs, os, none⟩) x.length ct) := p7 2
      have t73 : w5.cell? ⟨g7, 3, none⟩ = some (.slice (some ⟨bk, ok, none⟩) x.length ck) := p7 3
      have t74 : w5.cell? ⟨g7, 4, none⟩ = some (.bool false) := p7 4
      have t80 : w5.cell? ⟨g8, 0, none⟩ = some (.slice (some ⟨dn, pn, none⟩) y.length en) := p8 0
      have t81 : w5.cell? ⟨g8, 1, none⟩ = some (.slice (some ⟨dp, pp, none⟩) y.length ep) := p8 1
      have t82 : w5.cell? ⟨g8, 2, none⟩ = some (.slice (some ⟨ds, qs, none⟩) y.length es) := p8 2
      have t83 : w5.cell? ⟨g8, 3, none⟩ = some (.slice (some ⟨dk, pk, none⟩) y.length ek) := p8 3
      have t84 : w5.cell? ⟨g8, 4, none⟩ = some (.bool false) := p8 4
      clear p7 p8 r70 r71 r72 r73 r74 r80 r81 r82 r83 r84 S5 P5
      go_wp2_with fail
      refine (rcost_any h5 _ (S5'.out.imm.alloc _) _ _ _ x y (posM x y).pairs V75.out V85.out PX.out PY.out (by omega) (by omega) P5'.out).mono ?_
      rintro e w6 ⟨rfl, hb6⟩
      rw [PP.out]
      simp only [Option.getD_some, Option.isSome_some]
      have HZ := (Has.new w5 #[.slice a5 (posM x y).pairs.length c5, .int .i64 0, .bool false, .int .i64 (max ((x.length : Int) - y.length) ((y.length : Int) - x.length)), .slice none 0 0] 32).below hb6
      have SN6 : Hid (St w.heap.size h w h5 w6) := (SW5.out.alloc _).same hb6
      have HZN : Hid (h5 w5.heap.size = none) := new_own S5'.out.imm _ (Nat.le_refl _)
      obtain ⟨MB, -, -, -⟩ := BX.out w6 ((S5'.out.alloc _).same hb6).below
      have k0 : w6.cell? ⟨w.heap.size + 2, 0, none⟩ = some (.slice none 0 0) := MB.cl 0
      have k1 : w6.cell? ⟨w.heap.size + 2, 1, none⟩ = some (.int .i64 0) := MB.cl 1
      have k2 : w6.cell? ⟨w.heap.size + 2, 2, none⟩ = some (.bool false) := MB.cl 2
      have k3 : w6.cell? ⟨w.heap.size + 2, 3, none⟩ = some (.int .i64 0) := MB.cl 3
      have k4 : w6.cell? ⟨w.heap.size + 2, 4, none⟩ = some (.slice none 0 0) := MB.cl 4
      have z0 := MB.fz 0
      have z1 := MB.fz 1
      have z2 := MB.fz 2
      have z3 := MB.fz 3
      have z4 := MB.fz 4
      have zz := MB.lt
      have n0 : w6.cell? ⟨w5.heap.size, 0, none⟩ = some (.slice a5 (posM x y).pairs.length c5) := HZ.cl 0
      have n1 : w6.cell? ⟨w5.heap.size, 1, none⟩ = some (.int .i64 0) := HZ.cl 1
      have n2 : w6.cell? ⟨w5.heap.size, 2, none⟩ = some (.bool false) := HZ.cl 2
      have n3 : w6.cell? ⟨w5.heap.size, 3, none⟩ = some (.int .i64 (max ((x.length : Int) - y.length) ((y.length : Int) - x.length))) := HZ.cl 3
      have n4 : w6.cell? ⟨w5.heap.size, 4, none⟩ = some (.slice none 0 0) := HZ.cl 4
      have nf := HZ.fz 1
      have nl := HZ.lt
      have ne1 : w5.heap.size ≠ w.heap.size + 2 := by omega
      have ne2 : w.heap.size + 2 ≠ w5.heap.size := by omega
      clear MB HZ hb6 t70 t71 t72 t73 t74 t80 t81 t82 t83 t84
      go_wp2_with fail
      refine bodyPost_ret (v := .agg #[.slice a5 (posM x y).pairs.length c5, .int .i64 (posM x y).cost, .bool false, .int .i64 (max ((x.length : Int) - y.length) ((y.length : Int) - x.length)), .slice none 0 0]) (by simp [results, Try.results14, go_sem, k0, k1, k2, k3, k4]) rfl ?_
      refine ⟨_, rfl, _, set5 (SN6.out.setCell (p := ⟨w5.heap.size, 1, none⟩) (by show w.heap.size ≤ w5.heap.size; omega) HZN.out _) (by omega) HNO5.out _ _ _ _ _, .inl ⟨by rw [HM.out]; rfl, a5, c5, none, 0, ?_, ?_, ?_, ?_, ?_⟩⟩
      · rw [HM.out, ← PBD.out]; rfl
      · rw [HM.out]; unfold I64; omega
      · rw [HM.out, PBD.out]; unfold I64; omega
      · rw [HM.out]; exact P5'.out
      · rw [HM.out]; exact ⟨[], Sl.nil _ _ _ _, rfl⟩
    · have HT : Hid ((allC x y).take (mo + 1) = allC x y) := List.take_of_length_le (by omega)
      have hlen : ((allC x y).length : Int) ≤ budget := by omega
      have HM : Hid (matchM (flatP a) (flatP b) budget = leastM x y (allC x y)) := by
        unfold Hid; rw [HFA.out, HFB.out]; unfold matchM
        obtain ⟨l, e1, e2⟩ := CA.out.1 hlen
        rw [if_pos HK.out, if_pos ⟨NXH.out, NYH.out⟩, e1]
        simp only
        rw [e2]
      rw [HT.out] at P4'
      rw [HT.out]
      have hlC : (allC x y).length ≤ 160000 := by omega
      have CC := Lib.hid (allC_cmp PX.out PY.out)
      clear hbu CA HT
      generalize allC x y = C at *
      go_upto_region 10 with fail
      have hmk := mk_cmps C.length (by omega) w4.drew
      go_cut [13] from 19 to 85 (fun s13 wx => s13 = .pointer (some ⟨w4.heap.size + 1, 0, none⟩) ∧ ∃ h5 xs0, TlI h4 w4 (w4.heap.size + 1) w4.heap.size x y (es1 C 0) h5 wx xs0)
      case first =>
        refine rm_r10 (Lib.hid S4'.out.imm) (Lib.hid (NE7.out.mono LE4.out)) (Lib.hid (NE8.out.mono LE4.out)) hlC z7 z8 r70 r71 r72 r73 r74 r80 r81 r82 r83 r84 (by kernel_rfl) _ (fun u79 u80 u81 u82 u83 u84 u85 wx h5 xs0 L => ?_)
        dsimp only
        go_wp2_with fail
        go_meet
        exact ⟨rfl, _, _, L⟩
      case rest =>
      obtain ⟨rfl, h5, xs0, L0'⟩ := hcut
      have L0 := Lib.hid L0'
      clear L0'
      have h0C : 0 < C.length := List.length_pos_of_mem CC.out.root
      have CIN : Hid (∀ k (hk : k < C.length), (0 ≤ C[k].1 ∧ C[k].1 < x.length) ∧ 0 ≤ C[k].2 ∧ C[k].2 < y.length) := fun k hk => by
        have := CC.out.inr _ (List.getElem_mem hk)
        unfold InR at this
        omega
      obtain ⟨a5, c5, e5, -, hpc⟩ := P4'.out.open
      simp only [Value.slice.injEq, true_and] at e5
      obtain ⟨rfl, rfl⟩ := e5
      obtain ⟨b4, o4, rfl, -, -⟩ := hpc w4 S4'.out.imm h0C
      have PC : Hid (∀ W, Imm h4 W → b4 < W.heap.size ∧ ∀ k (hk : k < C.length), W.cell? ⟨b4, o4 + k * 2, none⟩ = some (.int .i64 C[k].1) ∧ W.cell? ⟨b4, o4 + k * 2 + 1, none⟩ = some (.int .i64 C[k].2)) := fun W hW => by
        obtain ⟨b, o, e, h1, h2⟩ := hpc W hW h0C
        simp only [Option.some.injEq, Addr.mk.injEq, and_true] at e
        obtain ⟨rfl, rfl⟩ := e
        exact ⟨h1, h2⟩
      clear hpc hmk r70 r71 r72 r73 r74 r80 r81 r82 r83 r84 z7 z8 V74 V84 NE7 NE8 V7 V8
      go_wp2_with fail
      go_loopw [14, 86, 87, 88, 89, 90, 91, 92, 93, 94, 95, 96, 97, 98, 99, 100, 101, 102, 103, 104, 105, 106, 107, 108] (fun i _ _ _ _ _ _ _ _ _ _ _ _ _ _ _ _ _ _ _ _ _ _ _ wr => ∃ (k : Nat) (xs : List Value), k ≤ C.length ∧ i = .int .i64 k ∧ TlI h4 w4 (w4.heap.size + 1) w4.heap.size x y (es1 C k) h5 wr xs) (fun i _ _ _ _ _ _ _ _ _ _ _ _ _ _ _ _ _ _ _ _ _ _ _ _ => C.length - (intOf i).toNat)
      case atStart => exact ⟨0, _, Nat.zero_le _, rfl, L0.out⟩
      case round =>
        obtain ⟨k, xs, hkl, rfl, L⟩ := hrel
        clear L0
        have hel := es1_len hkl
        by_cases hlt : k < C.length
        · skip
          obtain ⟨zt, t10⟩ := L.tab.l L.st.imm
          rw [hel] at t10
          obtain ⟨zg, hcs⟩ := L.cells (i := k) (by omega)
          obtain ⟨v0, d0, -, f0⟩ := hcs 0 (by omega)
          obtain ⟨v1, d1, -, f1⟩ := hcs 1 (by omega)
          obtain ⟨v2, d2, -, f2⟩ := hcs 2 (by omega)
          obtain ⟨v3, d3, -, f3⟩ := hcs 3 (by omega)
          obtain ⟨v4, d4, -, f4⟩ := hcs 4 (by omega)
          obtain ⟨v5, d5, -, f5⟩ := hcs 5 (by omega)
          simp only [Nat.add_zero] at d0 f0
          obtain ⟨zp, hp⟩ := PC.out wr L.st.imm0
          obtain ⟨e0, e1⟩ := hp k hlt
          have ci := CIN.out k hlt
          have LN : Hid (∀ n, TlI h4 w4 (w4.heap.size + 1) w4.heap.size x y (es1 C (k + 1)) h5 (((((((wr.drewN n).setCell ⟨w4.heap.size, k * 6, none⟩ (.int .i64 C[k].1)).setCell ⟨w4.heap.size, k * 6 + 1, none⟩ (.int .i64 C[k].2)).setCell ⟨w4.heap.size, k * 6 + 2, none⟩ (.int .i64 0)).setCell ⟨w4.heap.size, k * 6 + 3, none⟩ (.slice none 0 0)).setCell ⟨w4.heap.size, k * 6 + 4, none⟩ (.int .i64 0)).setCell ⟨w4.heap.size, k * 6 + 5, none⟩ (.slice none 0 0)) _) := fun n => by
            rw [← es1_succ hlt]
            exact (L.drewN n).put6 (by omega) (blankC C[k]) _ _ _ _ _ _ (blank_enc h5 C[k] (by unfold I64; omega) (by unfold I64; omega))
          have u0 : (0 : Int) ≤ (k : Int) := by omega
          have u1 : (k : Int) < (C.length : Int) := by omega
          clear L hcs hp
          generalize C[k].1 = q1 at *
          generalize C[k].2 = q2 at *
          go_wp2_with fail
          refine wp_region_still_tail 17 (by kernel_rfl) (by kernel_rfl) ?_
          simp only [List.take_succ_cons, List.take_zero, List.drop_succ_cons, List.drop_zero]
          change wpStill _ _ (World.drew _) (fun a' => wpList _ _ _ _ a' (World.drew _)) _ _
          repeat still_step
          refine wpStill_nil ?_
          go_wp2_with fail
          go_roundw
          case rel => exact ⟨k + 1, _, by omega, by go_num, LN.out 1⟩
          case measure => simp [intOf]; omega
        · obtain rfl : k = C.length := by omega
          rw [es1_full x y] at L
          have L1 := Lib.hid L
          clear L hel
          obtain ⟨wo, rfl⟩ : ∃ wo : World, wo = wr := ⟨_, rfl⟩
          go_wp2_with fail
          go_loopw [15, 16, 17, 18, 112, 113, 114, 115, 116, 117, 118, 119, 120, 121, 122, 123, 124, 125, 126, 127, 128, 129, 130, 131, 132, 133, 134, 135, 136, 137, 138, 139, 140, 141, 142, 143, 144, 145, 146, 147, 148, 149, 150, 151, 152, 153, 154, 155, 156, 157, 158, 159, 160, 161, 162, 163, 164, 165, 166, 167, 168, 169, 170, 171, 172, 173, 174] (fun i _ _ _ _ _ _ _ _ _ _ _ _ _ _ _ _ _ _ _ _ _ _ _ _ _ _ _ _ _ _ _ _ _ _ _ _ _ _ _ _ _ _ _ _ _ _ _ _ _ _ _ _ _ _ _ _ _ _ _ _ _ _ _ _ _ _ wr => ∃ (r : Nat) (hj : Hp) (xs : List Value), r ≤ C.length ∧ i = .int .i64 ((r : Int) - 1) ∧ TlI h4 w4 (w4.heap.size + 1) w4.heap.size x y (esR x y C r) hj wr xs) (fun i _ _ _ _ _ _ _ _ _ _ _ _ _ _ _ _ _ _ _ _ _ _ _ _ _ _ _ _ _ _ _ _ _ _ _ _ _ _ _ _ _ _ _ _ _ _ _ _ _ _ _ _ _ _ _ _ _ _ _ _ _ _ _ _ _ _ _ => (intOf i + 1).toNat)
          case atStart => exact ⟨C.length, h5, _, Nat.le_refl _, rfl, L1.out⟩
          case round =>
            obtain ⟨r, hj, xs2, hrl, rfl, L⟩ := hrel
            clear L1
            cases r with
            | zero =>
              rw [esR_zero] at L
              have hbl : Hid ((buildP x y C).length = C.length) := build_length x y C
              obtain ⟨l1, l2, l3, l4⟩ := L.fr (by rw [hbl.out]; omega)
              rw [hbl.out] at l3 l4
              obtain ⟨zg, e2, -, ic, -⟩ := L.row (i := 0) (by rw [hbl.out]; omega)
              simp only [Nat.zero_mul, Nat.zero_add] at e2
              obtain ⟨zt, t10⟩ := L.tab.l L.st.imm
              rw [hbl.out] at t10
              have FO := Lib.hid (build_fol PX.out PY.out CC.out (by omega))
              have LP := Lib.hid (least_pairs PX.out PY.out C)
              have LCS : Hid ((leastM x y C).cost = ((buildP x y C)[0]'(by rw [hbl.out]; omega)).cost) := by
                unfold Hid leastM
                simp only
                rw [List.getD_eq_getElem?_getD, List.getElem?_eq_getElem (by rw [hbl.out]; omega), Option.getD_some]
              have LBD : Hid ((leastM x y C).bound = ((buildP x y C)[0]'(by rw [hbl.out]; omega)).cost) := LCS.out
              have LPF : Hid ((leastM x y C).proof = buildP x y C) := rfl
              have LPV : Hid ((leastM x y C).proven = true) := rfl
              have LPP : Hid ((leastM x y C).pairs = foll (kpL x y (buildP x y C)) x.length (0, 0)) := by unfold Hid; rw [← LP.out]; rfl
              rw [show (((0 : Nat) : Int) - 1) = -1 from rfl]
              generalize ((buildP x y C)[0]'(by rw [hbl.out]; omega)).cost = c0 at *
              have FOL : Hid (Calls Try.prog 41 #[.pointer (some ⟨w4.heap.size + 1, 0, none⟩), .slice (some ⟨w4.heap.size, 0, none⟩) C.length C.length, .int .i64 0, .int .i64 0] wr.drew fun e w' => ∃ (ap : Option Addr) (cp : Nat), e = .returned (.slice ap (leastM x y C).pairs.length cp) ∧ ∃ h10, TlI h4 w4 (w4.heap.size + 1) w4.heap.size x y (buildP x y C) h10 w' xs2 ∧ Prs h10 (.slice ap (leastM x y C).pairs.length cp) (leastM x y C).pairs ∧ (w'.cell? ⟨w4.heap.size + 1, 10, none⟩ = some (.slice (some ⟨w4.heap.size, 0, none⟩) C.length C.length) ∧ w'.cell? ⟨w4.heap.size, 2, none⟩ = some (.int .i64 c0)) ∧ w4.heap.size + 1 < w'.heap.size) := by
                have hk0 : (((0 : Nat) : Int), ((0 : Nat) : Int)) ∈ keys (buildP x y C) := by rw [show keys (buildP x y C) = C from build_keys x y C]; exact CC.out.root
                have := follow_own x y PX.out PY.out (by omega) (by omega) (buildP x y C) FO.out (w4.heap.size + 1) w4.heap.size 0 C.length x.length (hj.fr w4.heap.size wr) wr.drew l1.drew (by rw [hbl.out]; exact l3) (by rw [hbl.out]; exact l4) 0 0 hk0 (by omega)
                rw [hbl.out] at this
                refine this.mono ?_
                rintro e w' ⟨v, rfl, hf, Sf, Pf, Of⟩
                rw [show foll (kpL x y (buildP x y C)) x.length (((0 : Nat) : Int), ((0 : Nat) : Int)) = (leastM x y C).pairs from LPP.out.symm] at Pf
                have SU := St.unfr (hj := hj) L.drew.st.imm Sf
                have Pf' := Pf.on (h' := fun b => if b < wr.drew.heap.size then hj b else hf b) (fun g hg => if_neg (Nat.not_lt.mpr (Of g hg)))
                obtain ⟨ap, cp, rfl, -, -⟩ := Pf.open
                refine ⟨ap, cp, rfl, _, L.drew.call SU, Pf', ⟨?_, ?_⟩, Nat.lt_of_lt_of_le zt Sf.below.size⟩
                · rw [Sf.below.cell (by exact zt)]; exact t10
                · rw [Sf.below.cell (by exact zg)]; exact e2
              have S4z : w.heap.size + 3 ≤ w4.heap.size := by have := S4'.out.size; rw [HZ8.out] at this; exact this
              have IC := Lib.hid ic
              clear L l1 l2 l3 l4 ic FO LP
              have nn1 : w.heap.size + 2 ≠ w4.heap.size := by omega
              have nn2 : w.heap.size + 2 ≠ w4.heap.size + 1 := by omega
              have nn3 : w4.heap.size ≠ w.heap.size + 2 := by omega
              have nn4 : w4.heap.size + 1 ≠ w.heap.size + 2 := by omega
              have nn5 : w.heap.size + 1 ≠ w4.heap.size := by omega
              have nn6 : w4.heap.size ≠ w.heap.size + 1 := by omega
              go_upto_region 21 with fail
              go_region_held3 (fun w' => w'.cell? ⟨w4.heap.size + 1, 10, none⟩ = some (.slice (some ⟨w4.heap.size, 0, none⟩) C.length C.length) ∧ w'.cell? ⟨w4.heap.size, 2, none⟩ = some (.int .i64 c0)) (first | (go_keep; done) | with_reducible exact ⟨m0, m1⟩ | exact ⟨far5 nn2 m0 _ _ _ _ _, far5 nn1 m1 _ _ _ _ _⟩)
                (first | (go_at_call 41; refine FOL.out.mono ?_; rintro e w10 ⟨ap, cp, rfl, h10, T10, P10, ⟨m0, m1⟩, zt10⟩; have S10 := T10.st; have TT10 := Lib.hid T10; have S10' := Lib.hid (S4'.out.call S10); have SW10 := Lib.hid (SW4.out.call S10); have HNO10 : Hid (h10 (w.heap.size + 2) = none) := (by unfold Hid; rw [S10.old _ (by omega)]; exact HNO4.out); have PP10 := Lib.hid P10; obtain ⟨MB, -, -, -⟩ := BX.out w10 S10'.out.below; have k0 : w10.cell? ⟨w.heap.size + 2, 0, none⟩ = some (.slice none 0 0) := MB.cl 0; have k1 : w10.cell? ⟨w.heap.size + 2, 1, none⟩ = some (.int .i64 0) := MB.cl 1; have k2 : w10.cell? ⟨w.heap.size + 2, 2, none⟩ = some (.bool false) := MB.cl 2; have k3 : w10.cell? ⟨w.heap.size + 2, 3, none⟩ = some (.int .i64 0) := MB.cl 3; have k4 : w10.cell? ⟨w.heap.size + 2, 4, none⟩ = some (.slice none 0 0) := MB.cl 4; have y0 := MB.fz 0; have y1 := MB.fz 1; have y2 := MB.fz 2; have y3 := MB.fz 3; have y4 := MB.fz 4; have yy := MB.lt; have zg10 : w4.heap.size < w10.heap.size := (by omega); clear S10 P10 T10 MB))
              go_wp2_with fail
              refine bodyPost_ret (v := .agg #[.slice ap (leastM x y C).pairs.length cp, .int .i64 c0, .bool true, .int .i64 c0, .slice (some ⟨w4.heap.size, 0, none⟩) C.length C.length]) (by simp [results, Try.results14, go_sem, k0, k1, k2, k3, k4]) rfl ?_
              have hown := (((((Ow.base TT10.out.own (B' := w.heap.size) (by omega)).setCell (p := ⟨w.heap.size + 2, 0, none⟩) (by simp [Value.ownBlock]; omega) (.slice ap (leastM x y C).pairs.length cp)).setCell (p := ⟨w.heap.size + 2, 1, none⟩) (by simp [Value.ownBlock]; omega) (.int .i64 c0)).setCell (p := ⟨w.heap.size + 2, 2, none⟩) (by simp [Value.ownBlock]; omega) (.bool true)).setCell (p := ⟨w.heap.size + 2, 3, none⟩) (by simp [Value.ownBlock]; omega) (.int .i64 c0)).setCell (p := ⟨w.heap.size + 2, 4, none⟩) (by simp [Value.ownBlock]; omega) (.slice (some ⟨w4.heap.size, 0, none⟩) C.length C.length)
              refine ⟨_, rfl, _, set5 SW10.out (by omega) HNO10.out _ _ _ _ _, .inr ⟨ap, cp, w4.heap.size, xs2, ?_, ?_, ?_, ?_, ?_, ?_, ?_⟩⟩
              · rw [HM.out, LCS.out, LBD.out, LPF.out, LPV.out, hbl.out]
              · rw [HM.out, LCS.out]; exact IC.out
              · rw [HM.out, LBD.out]; exact IC.out
              · rw [HM.out, LPF.out, hbl.out]; omega
              · rw [HM.out]; exact PP10.out
              · rw [HM.out, LPF.out]; exact hown
              · rw [HM.out, LPF.out]; exact TT10.out.enc
            | succ s =>
              have e1 : (((s + 1 : Nat) : Int) - 1) = (s : Int) := by omega
              rw [e1]
              clear e1
              have hs : s < C.length := by omega
              have hel := esR_len x y C (s + 1)
              obtain ⟨zp, hp⟩ := PC.out wr L.st.imm0
              obtain ⟨p0, p1⟩ := hp s hs
              have ci := CIN.out s hs
              have HPR := Lib.hid (prop_esR PX.out PY.out NXH.out NYH.out CC.out hs)
              have HBD := Lib.hid (entry_bd PX.out PY.out NXH.out NYH.out CC.out hs)
              have HCE := Lib.hid (cost_esR PX.out PY.out CC.out hs)
              obtain ⟨pa, hpa⟩ : ∃ n : Nat, C[s].1 = (n : Int) := ⟨C[s].1.toNat, by omega⟩
              obtain ⟨qa, hqa⟩ : ∃ n : Nat, C[s].2 = (n : Int) := ⟨C[s].2.toNat, by omega⟩
              have hpq : C[s] = ((pa : Int), (qa : Int)) := Prod.ext hpa hqa
              rw [hpa, hqa] at ci
              have lpa : pa < x.length := by omega
              have lqa : qa < y.length := by omega
              have HPA := Lib.hid hpa
              have HQA := Lib.hid hqa
              have HPC : Hid (∀ W, Imm h4 W → b4 < W.heap.size ∧ W.cell? ⟨b4, o4 + s * 2, none⟩ = some (.int .i64 (pa : Int)) ∧ W.cell? ⟨b4, o4 + s * 2 + 1, none⟩ = some (.int .i64 (qa : Int))) := fun W hW => by
                obtain ⟨z, hp⟩ := PC.out W hW
                obtain ⟨p0, p1⟩ := hp s hs
                rw [HPA.out] at p0
                rw [HQA.out] at p1
                exact ⟨z, p0, p1⟩
              rw [hpa] at p0
              rw [hqa] at p1
              obtain ⟨A, hA⟩ : ∃ A, A = alignOf x y C[s] (dget (buildP x y (C.drop (s + 1)))) := ⟨_, rfl⟩
              have LIS : Hid (Calls Try.prog 38 #[.pointer (some ⟨w4.heap.size + 1, 0, none⟩), .int .i64 pa, .int .i64 qa] wr.drew fun e w5 => ∃ v1 v2 v3, e = .returned (.tuple #[v1, v2, v3]) ∧ ∃ h6, TlI h4 w4 (w4.heap.size + 1) w4.heap.size x y (esR x y C (s + 1)) h6 w5 xs2 ∧ Ints h6 v1 (dropP x pa) ∧ Ints h6 v2 (dropP y qa) ∧ Rws h6 v3 (costP x y C[s] (dget (buildP x y (C.drop (s + 1)))))) := by
                obtain ⟨f1, f2, f3, f4⟩ := L.drew.fr (by rw [hel]; omega)
                refine (lists_any wr.drew _ f1 (w4.heap.size + 1) w4.heap.size 0 _ x y PX.out PY.out (by omega) (by omega) (esR x y C (s + 1)) f3 f4 (by rw [hel]; omega) (by rw [esR_keys]; exact CC.out.srt) (fun q => ?_) pa qa lpa lqa ?_).mono ?_
                · have := dget_esR PX.out PY.out NXH.out NYH.out CC.out (s + 1) q
                  unfold I64
                  omega
                · have := esR_clo (x := x) (y := y) CC.out hs (s + 1)
                  rw [hpa, hqa] at this
                  exact this
                · rintro e w5 ⟨v1, v2, v3, rfl, hN, SN, I1, I2, R3⟩
                  obtain ⟨h6, S6, le6⟩ := SN.join L.drew.st.imm
                  refine ⟨v1, v2, v3, rfl, h6, L.drew.call S6, I1.mono le6, I2.mono le6, ?_⟩
                  rw [← HCE.out, hpq]
                  exact R3.mono le6
              have HAL : Hid (alignP (dropP x pa) (dropP y qa) (costP x y C[s] (dget (buildP x y (C.drop (s + 1))))) = A) := by unfold Hid; rw [hA]; unfold alignOf; rw [hpa, hqa]
              have HPR' : Hid (Prop17 (dropP x pa) (dropP y qa) (costP x y C[s] (dget (buildP x y (C.drop (s + 1)))))) := by have := HPR.out; rw [hpa, hqa] at this; exact this
              have HNEXT : Hid (∀ (es : List CompP), es = (esR x y C (s + 1)).set s ((blankC C[s]).setK A) → ∀ (h : s < es.length), es.set s { es[s] with cost := differP (nd x (pa : Int)).text (nd y (qa : Int)).text + A.cost } = esR x y C s) := fun es he h => by
                have := esR_next hs A hA he h
                rw [hpa, hqa] at this
                exact this
              have HAT : Hid (∀ (h : s < (esR x y C (s + 1)).length), (esR x y C (s + 1))[s] = blankC C[s]) := fun h => esR_at hs h
              have hbd := HBD.out
              rw [← hA, hpa, hqa] at hbd
              rw [show nd x (pa : Int) = x[pa] from nd_of (List.getElem?_eq_getElem lpa), show nd y (qa : Int) = y[qa] from nd_of (List.getElem?_eq_getElem lqa)] at hbd HNEXT
              generalize costP x y C[s] (dget (buildP x y (C.drop (s + 1)))) = cst at *
              have L' := Lib.hid L
              have hel' := Lib.hid hel
              have hpq' := Lib.hid hpq
              have u0 : (0 : Int) ≤ (s : Int) := by omega
              have u1 : (s : Int) < (C.length : Int) := by omega
              clear hp hA hpa hqa hpq L HBD HPR HCE hel
              go_upto_region 18 with fail
              go_region_held3 (fun w' => w'.cell? ⟨b4, o4 + s * 2, none⟩ = some (.int .i64 (pa : Int)) ∧ w'.cell? ⟨b4, o4 + s * 2 + 1, none⟩ = some (.int .i64 (qa : Int))) (first | go_keep | with_reducible exact ⟨m0, m1⟩)
                (first | (go_at_call 38; refine LIS.out.mono ?_; rintro e w5 ⟨v1, v2, v3, rfl, h6, L6, I1, I2, R3⟩; obtain ⟨zp5, m0, m1⟩ := HPC.out w5 L6.st.imm0; have L6' := Lib.hid L6; have J1 := Lib.hid I1; have J2 := Lib.hid I2; have J3 := Lib.hid R3; clear L6 I1 I2 R3))
              clear p0 p1 m0 m1 zp zp5 LIS
              have HE6 : EncAlign h6 A [] → False := fun hh => by have := EncAlign.len _ _ hh; simp at this
              clear HE6
              have HAC : Hid (Calls Try.prog 39 #[v1, v2, v3] w5.drew fun e w7 => ∃ (ap : Option Addr) (cp : Nat) (ar : Option Addr) (cr : Nat), e = .returned (.tuple #[.agg #[.slice ap A.pairs.length cp, .int .i64 A.cost, .slice ar A.pot.length cr], .int .i64 0]) ∧ ∃ h7, TlI h4 w4 (w4.heap.size + 1) w4.heap.size x y (esR x y C (s + 1)) h7 w7 xs2 ∧ EncAlign h7 A [.slice ap A.pairs.length cp, .int .i64 A.cost, .slice ar A.pot.length cr]) := by
                refine (ralign_any h6 _ L6'.out.drew.st.imm _ _ _ _ _ _ J1.out J2.out J3.out HPR'.out).mono ?_
                rw [HAL.out]
                rintro e w7 ⟨cs, rfl, h7, S7, E7⟩
                obtain ⟨ap, cp, ar, cr, rfl⟩ := E7.three
                exact ⟨ap, cp, ar, cr, rfl, h7, L6'.out.drew.call S7, E7⟩
              obtain ⟨zt5, t5⟩ := L6'.out.tab.l L6'.out.st.imm
              rw [hel'.out] at t5
              have nb1 : w4.heap.size + 1 ≠ w4.heap.size := by omega
              have nb2 : w4.heap.size ≠ w4.heap.size + 1 := by omega
              clear HPR' HAL J1 J2 J3
              go_upto_region 19 with fail
              go_region_held3 (fun w' => w'.cell? ⟨w4.heap.size + 1, 10, none⟩ = some (.slice (some ⟨w4.heap.size, 0, none⟩) C.length C.length)) (first | go_keep | with_reducible exact m2)
                (first | (go_at_call 39; refine HAC.out.mono ?_; rintro e w7 ⟨ap, cp, ar, cr, rfl, h7, L7, E7⟩; obtain ⟨zt7, m2⟩ := L7.tab.l L7.st.imm; rw [hel'.out] at m2; obtain ⟨zg7, hc7⟩ := L7.cells (i := s) (by rw [hel'.out]; omega); obtain ⟨y3, d3, -, f3⟩ := hc7 3 (by omega); obtain ⟨y4, d4, -, f4⟩ := hc7 4 (by omega); obtain ⟨y5, d5, -, f5⟩ := hc7 5 (by omega); have L7' := Lib.hid L7; have E7' := Lib.hid E7; clear L7 E7 hc7))
              clear t5 zt5 L6' HAC
              obtain ⟨xs8, L8⟩ := L7'.out.put3e (i := s) (by rw [hel'.out]; omega) _ (HAT.out _) A _ _ _ E7'.out
              have hel8 : ((esR x y C (s + 1)).set s ((blankC C[s]).setK A)).length = C.length := by rw [List.length_set]; exact hel'.out
              have HN := Lib.hid (HNEXT.out _ rfl)
              obtain ⟨zg8, -, e8, -, i8⟩ := L8.row (i := s) (by rw [hel8]; omega)
              simp only [set_at] at e8 i8
              have e8' : (((blankC C[s]).setK A)).kids.cost = A.cost := rfl
              rw [e8'] at e8 i8
              clear e8'
              obtain ⟨zt8, t8⟩ := L8.tab.l L8.st.imm
              rw [hel8] at t8
              obtain ⟨zp8, q0, q1⟩ := HPC.out _ L8.st.imm0
              obtain ⟨-, hc8⟩ := L8.cells (i := s) (by rw [hel8]; omega)
              obtain ⟨y2, d2, -, f2⟩ := hc8 2 (by omega)
              have hel8' := Lib.hid hel8
              have LBL : Hid (∀ W, Imm h7 W → Calls Try.prog 40 #[.pointer (some ⟨w4.heap.size + 1, 0, none⟩), .int .i64 pa, .int .i64 qa] W fun e w' => e = .returned (.int .i64 (differP x[pa].text y[qa].text)) ∧ ∃ n, w' = W.drewN n) := fun W hW => label_any h7 W hW (w4.heap.size + 1) x y _ L8.tab pa qa lpa lqa
              have L8' := Lib.hid L8
              clear L8 L7' hc8 hel8 d3 d4 d5 f3 f4 f5 m2 zt7 zg7 E7' HNEXT HAT y3 y4 y5
              generalize ((w7.setCell ⟨w4.heap.size, s * 6 + 3, none⟩ (.slice ap A.pairs.length cp)).setCell ⟨w4.heap.size, s * 6 + 4, none⟩ (.int .i64 A.cost)).setCell ⟨w4.heap.size, s * 6 + 5, none⟩ (.slice ar A.pot.length cr) = w8 at *
              generalize differP x[pa].text y[qa].text = D at *
              have I8' := Lib.hid L8'.out.st.imm
              have hb4 : b4 < w4.heap.size := (PC.out w4 S4'.out.imm).1
              have nb3 : b4 ≠ w4.heap.size := by omega
              have nb4 : w4.heap.size ≠ b4 := by omega
              have nx4 : s * 6 + 2 ≠ s * 6 + 4 := by omega
              have NX4 := Lib.hid nx4
              clear nx4
              have wDA : IntKind.i64.wrap (D + A.cost) = D + A.cost := w64 (by omega)
              go_upto_region 20 with fail
              go_region_held3 (fun w' => w'.cell? ⟨w4.heap.size + 1, 10, none⟩ = some (.slice (some ⟨w4.heap.size, 0, none⟩) C.length C.length) ∧ w'.cell? ⟨b4, o4 + s * 2, none⟩ = some (.int .i64 (pa : Int)) ∧ w'.cell? ⟨b4, o4 + s * 2 + 1, none⟩ = some (.int .i64 (qa : Int)) ∧ w'.cell? ⟨w4.heap.size, s * 6 + 4, none⟩ = some (.int .i64 A.cost)) (first | (go_keep; done) | exact ⟨t8, q0, q1, e8⟩ | exact ⟨far1 nb2 t8, far1 nb4 q0, far1 nb4 q1, near1 NX4.out e8⟩)
                (first | (go_at_call 40; refine (LBL.out _ I8'.out.drew).mono ?_; rintro e w9 ⟨rfl, n9, rfl⟩))
              go_wp2_with fail
              go_roundw
              case rel =>
                refine ⟨s, h7, xs8.set (s * 6 + 2) (.int .i64 (D + A.cost)), by omega, by go_num, ?_⟩
                clear wDA
                have LL := (L8'.out.drewN (1 + n9)).put1 (i := s) (by rw [hel8'.out]; omega) (D + A.cost) (by unfold I64; omega)
                rw [HN.out] at LL
                exact LL
              case measure => first | (simp [intOf]; done) | (simp [intOf]; omega)
end Go.Proofs.Ytfifbadepebpeaa
