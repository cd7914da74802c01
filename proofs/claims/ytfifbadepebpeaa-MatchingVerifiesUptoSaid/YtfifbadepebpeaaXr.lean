/- The reference's Verify of a matching. -/
import Derived.Test.YtfifbadepebpeaaXh
import Derived.Test.YtfifbadepebpeaaXv
namespace Go.Proofs.Ytfifbadepebpeaa
open Go.RowKit

set_option maxRecDepth 100000 in
set_option maxHeartbeats 8000000 in
theorem rverify_any (h : Hp) (w : World) (hi : Imm h w) (va vb vm : Value) (a b : Tree) (m : MatchP) (ta : TreeV h va a) (tb : TreeV h vb b) (hm : MatchV h vm m) (sa : a.size ≤ 400) (sb : b.size ≤ 400) :
    Calls Try.prog 19 #[va, vb, vm] w (VerRes w (decide (verifyP (flatP a) (flatP b) m))) := by
  obtain ⟨ap, cp, ar, cr, rfl, i1, i2, hpm, hrm⟩ := hm
  have HP := Lib.hid hpm
  have HR := Lib.hid hrm
  have hpn : m.proof.length ≤ 140737488355328 := by obtain ⟨_, s, _⟩ := hrm; exact s.len.1
  have hpp : m.pairs.length ≤ 140737488355328 := hpm.1.len.1
  clear hpm hrm
  have TA := Lib.hid ta
  have TB := Lib.hid tb
  obtain ⟨al1, cl1, ak1, ck1, -, rfl, -, -, -, -, -, -⟩ := ta.open
  obtain ⟨al2, cl2, ak2, ck2, -, rfl, -, -, -, -, -, -⟩ := tb.open
  have HI := Lib.hid hi
  have sa' : a.size ≤ 262144 := by omega
  have sb' : b.size ≤ 262144 := by omega
  clear ta tb hi
  go_enter Try.func19, Try.ntmps19
  go_wp2_with fail
  have A8 := Lib.hid (((Has.new w #[.int .i64 a.kind, .string a.text, .slice al1 a.leads.length cl1, .slice ak1 a.kids.length ck1] 25).alloc (Obj.cells #[.int .i64 b.kind, .string b.text, .slice al2 b.leads.length cl2, .slice ak2 b.kids.length ck2] 25)).alloc (Obj.cells #[.slice ap m.pairs.length cp, .int .i64 m.cost, .bool m.proven, .int .i64 m.bound, .slice ar m.proof.length cr] 32))
  have B8 := Lib.hid ((Has.new1 w (Obj.cells #[.int .i64 a.kind, .string a.text, .slice al1 a.leads.length cl1, .slice ak1 a.kids.length ck1] 25) #[.int .i64 b.kind, .string b.text, .slice al2 b.leads.length cl2, .slice ak2 b.kids.length ck2] 25).alloc (Obj.cells #[.slice ap m.pairs.length cp, .int .i64 m.cost, .bool m.proven, .int .i64 m.bound, .slice ar m.proof.length cr] 32))
  have M8 : Hid (Has (((w.alloc (Obj.cells #[.int .i64 a.kind, .string a.text, .slice al1 a.leads.length cl1, .slice ak1 a.kids.length ck1] 25)).alloc (Obj.cells #[.int .i64 b.kind, .string b.text, .slice al2 b.leads.length cl2, .slice ak2 b.kids.length ck2] 25)).alloc (Obj.cells #[.slice ap m.pairs.length cp, .int .i64 m.cost, .bool m.proven, .int .i64 m.bound, .slice ar m.proof.length cr] 32)) (w.heap.size + 2) #[.slice ap m.pairs.length cp, .int .i64 m.cost, .bool m.proven, .int .i64 m.bound, .slice ar m.proof.length cr]) := by
    have := Has.new ((w.alloc (Obj.cells #[.int .i64 a.kind, .string a.text, .slice al1 a.leads.length cl1, .slice ak1 a.kids.length ck1] 25)).alloc (Obj.cells #[.int .i64 b.kind, .string b.text, .slice al2 b.leads.length cl2, .slice ak2 b.kids.length ck2] 25)) #[.slice ap m.pairs.length cp, .int .i64 m.cost, .bool m.proven, .int .i64 m.bound, .slice ar m.proof.length cr] 32
    unfold Hid
    simpa using this
  have S8 : Hid (St w.heap.size h w h (((w.alloc (Obj.cells #[.int .i64 a.kind, .string a.text, .slice al1 a.leads.length cl1, .slice ak1 a.kids.length ck1] 25)).alloc (Obj.cells #[.int .i64 b.kind, .string b.text, .slice al2 b.leads.length cl2, .slice ak2 b.kids.length ck2] 25)).alloc (Obj.cells #[.slice ap m.pairs.length cp, .int .i64 m.cost, .bool m.proven, .int .i64 m.bound, .slice ar m.proof.length cr] 32))) := (((St.refl HI.out).alloc _).alloc _).alloc _
  have Z8 : (((w.alloc (Obj.cells #[.int .i64 a.kind, .string a.text, .slice al1 a.leads.length cl1, .slice ak1 a.kids.length ck1] 25)).alloc (Obj.cells #[.int .i64 b.kind, .string b.text, .slice al2 b.leads.length cl2, .slice ak2 b.kids.length ck2] 25)).alloc (Obj.cells #[.slice ap m.pairs.length cp, .int .i64 m.cost, .bool m.proven, .int .i64 m.bound, .slice ar m.proof.length cr] 32)).heap.size = w.heap.size + 3 := by simp
  generalize hw3 : (((w.alloc (Obj.cells #[.int .i64 a.kind, .string a.text, .slice al1 a.leads.length cl1, .slice ak1 a.kids.length ck1] 25)).alloc (Obj.cells #[.int .i64 b.kind, .string b.text, .slice al2 b.leads.length cl2, .slice ak2 b.kids.length ck2] 25)).alloc (Obj.cells #[.slice ap m.pairs.length cp, .int .i64 m.cost, .bool m.proven, .int .i64 m.bound, .slice ar m.proof.length cr] 32)) = w3 at *
  clear hw3
  have I8 := Lib.hid S8.out.imm
  have HZ8 := Lib.hid Z8
  have l1 : w.heap.size < w3.heap.size := by omega
  have l2 : w.heap.size + 1 < w3.heap.size := by omega
  have l3 : w.heap.size < w3.heap.size + 1 := by omega
  have l4 : w.heap.size < w3.heap.size + 1 + 1 := by omega
  have l5 : w.heap.size + 1 < w3.heap.size + 1 := by omega
  have l6 : w.heap.size + 1 < w3.heap.size + 1 + 1 := by omega
  have l1n := Nat.ne_of_lt l1
  have l1g := Nat.ne_of_gt l1
  have l2n := Nat.ne_of_lt l2
  have l2g := Nat.ne_of_gt l2
  have l3n := Nat.ne_of_lt l3
  have l3g := Nat.ne_of_gt l3
  have za0 : w3.cell? ⟨w.heap.size, 0, none⟩ = some (.int .i64 a.kind) := A8.out.cl 0
  have za1 : w3.cell? ⟨w.heap.size, 1, none⟩ = some (.string a.text) := A8.out.cl 1
  have za2 : w3.cell? ⟨w.heap.size, 2, none⟩ = some (.slice al1 a.leads.length cl1) := A8.out.cl 2
  have za3 : w3.cell? ⟨w.heap.size, 3, none⟩ = some (.slice ak1 a.kids.length ck1) := A8.out.cl 3
  have zb0 : w3.cell? ⟨w.heap.size + 1, 0, none⟩ = some (.int .i64 b.kind) := B8.out.cl 0
  have zb1 : w3.cell? ⟨w.heap.size + 1, 1, none⟩ = some (.string b.text) := B8.out.cl 1
  have zb2 : w3.cell? ⟨w.heap.size + 1, 2, none⟩ = some (.slice al2 b.leads.length cl2) := B8.out.cl 2
  have zb3 : w3.cell? ⟨w.heap.size + 1, 3, none⟩ = some (.slice ak2 b.kids.length ck2) := B8.out.cl 3
  clear Z8
  go_upto_region 1 with fail
  go_cut [7, 8] (fun s7 s8 wx => ∃ g7 g8 : Nat, s7 = .pointer (some ⟨g7, 0, none⟩) ∧ s8 = .pointer (some ⟨g8, 0, none⟩) ∧ RmX h w3 (flatP a) (flatP b) g7 g8 wx)
  case first =>
    refine rv_r1 TA TB sa' sb' A8 B8 I8 HZ8 (by kernel_rfl) _ (fun g7 g8 u18 u19 u20 u21 wx X => ?_)
    dsimp only
    go_wp2_with fail
    go_meet
    exact ⟨_, _, rfl, rfl, X⟩
  case rest =>
    obtain ⟨g7, g8, rfl, rfl, X⟩ := hcut
    obtain ⟨h1, S1, ⟨c7, e7, N7⟩, ⟨c8, e8, N8⟩⟩ := X
    have lx := (flatP_po a).wf.pos
    have ly := (flatP_po b).wf.pos
    have PX := Lib.hid (flatP_po a)
    have PY := Lib.hid (flatP_po b)
    have NX0 := narrow_of sa
    have NY0 := narrow_of sb
    have sx : (flatP a).length ≤ 400 := by rw [flatP_length]; exact sa
    have sy : (flatP b).length ≤ 400 := by rw [flatP_length]; exact sb
    have ka : Hid ((nd (flatP a) 0).kind = a.kind) := by unfold Hid nd flatP; rw [flatAt_eq]; rfl
    have kb : Hid ((nd (flatP b) 0).kind = b.kind) := by unfold Hid nd flatP; rw [flatAt_eq]; rfl
    obtain ⟨bn, on, cn, bp, op, cp', bs, os, ct, bk, ok, ck, rfl, -, OX0⟩ := N7.open lx
    obtain ⟨dn, pn, en, dp, pp, ep, ds, qs, es, dk, pk, ek, rfl, -, OY0⟩ := N8.open ly
    have V7 : Hid (NumV h1 (.agg #[.slice (some ⟨bn, on, none⟩) (flatP a).length cn, .slice (some ⟨bp, op, none⟩) (flatP a).length cp', .slice (some ⟨bs, os, none⟩) (flatP a).length ct, .slice (some ⟨bk, ok, none⟩) (flatP a).length ck, .bool (!narrowB (flatP a))]) (flatP a)) := ⟨_, rfl, N7⟩
    have V8 : Hid (NumV h1 (.agg #[.slice (some ⟨dn, pn, none⟩) (flatP b).length en, .slice (some ⟨dp, pp, none⟩) (flatP b).length ep, .slice (some ⟨ds, qs, none⟩) (flatP b).length es, .slice (some ⟨dk, pk, none⟩) (flatP b).length ek, .bool (!narrowB (flatP b))]) (flatP b)) := ⟨_, rfl, N8⟩
    have NE7 := Lib.hid N7
    have NE8 := Lib.hid N8
    have G7 : Hid (∀ W, Imm h1 W → g7 < W.heap.size ∧ ∀ i, W.cell? ⟨g7, i, none⟩ = (#[.slice (some ⟨bn, on, none⟩) (flatP a).length cn, .slice (some ⟨bp, op, none⟩) (flatP a).length cp', .slice (some ⟨bs, os, none⟩) (flatP a).length ct, .slice (some ⟨bk, ok, none⟩) (flatP a).length ck, .bool (!narrowB (flatP a))] : Array Value)[i]?) := fun W hW => ⟨blk_lt (hW _ _ e7), fun i => blk_cell (hW _ _ e7) i⟩
    have G8 : Hid (∀ W, Imm h1 W → g8 < W.heap.size ∧ ∀ i, W.cell? ⟨g8, i, none⟩ = (#[.slice (some ⟨dn, pn, none⟩) (flatP b).length en, .slice (some ⟨dp, pp, none⟩) (flatP b).length ep, .slice (some ⟨ds, qs, none⟩) (flatP b).length es, .slice (some ⟨dk, pk, none⟩) (flatP b).length ek, .bool (!narrowB (flatP b))] : Array Value)[i]?) := fun W hW => ⟨blk_lt (hW _ _ e8), fun i => blk_cell (hW _ _ e8) i⟩
    have SW : Hid (St w.heap.size h w h1 wc) := S8.out.call S1
    have HNO : Hid (h1 (w.heap.size + 2) = none) := by
      unfold Hid
      rw [S1.old _ (by rw [HZ8.out]; omega)]
      exact new_own HI.out _ (by omega)
    have BX : Hid (∀ W, Below w3.heap.size w3 W → Has W (w.heap.size + 2) #[.slice ap m.pairs.length cp, .int .i64 m.cost, .bool m.proven, .int .i64 m.bound, .slice ar m.proof.length cr] ∧ W.cell? ⟨w.heap.size, 0, none⟩ = some (.int .i64 a.kind) ∧ W.cell? ⟨w.heap.size + 1, 0, none⟩ = some (.int .i64 b.kind) ∧ w.heap.size + 1 < W.heap.size) := fun W hW => ⟨M8.out.below hW, (A8.out.below hW).cl 0, (B8.out.below hW).cl 0, (B8.out.below hW).lt⟩
    have S1' := Lib.hid S1
    clear N7 N8 e7 e8 S1 OX0 OY0 A8 B8 M8 za0 za1 za2 za3 zb0 zb1 zb2 zb3 l1 l2 l3 l4 l5 l6 l1n l1g l2n l2g l3n l3g TA TB sa sb sa' sb'
    generalize hfa : flatP a = x at *
    generalize hfb : flatP b = y at *
    have HFA := Lib.hid hfa
    have HFB := Lib.hid hfb
    clear hfa hfb
    rw [NX0] at V7 G7 NE7
    rw [NY0] at V8 G8 NE8
    simp only [Bool.not_true] at V7 G7 NE7 V8 G8 NE8
    have NXH := Lib.hid NX0
    have NYH := Lib.hid NY0
    clear NX0 NY0
    have S9 : Hid (∀ n, St w3.heap.size h w3 h1 (wc.drewN n)) := fun n => S1'.out.drewN n
    have SWB : Hid (∀ W, Below wc.heap.size wc W → Below w.heap.size w W) := fun W hW => SW.out.below.trans (hW.mono SW.out.size)
    have BXC : Hid (∀ W, Below wc.heap.size wc W → Has W (w.heap.size + 2) #[.slice ap m.pairs.length cp, .int .i64 m.cost, .bool m.proven, .int .i64 m.bound, .slice ar m.proof.length cr] ∧ W.cell? ⟨w.heap.size, 0, none⟩ = some (.int .i64 a.kind) ∧ W.cell? ⟨w.heap.size + 1, 0, none⟩ = some (.int .i64 b.kind) ∧ w.heap.size + 1 < W.heap.size) := fun W hW => BX.out W (S1'.out.below.trans (hW.mono S1'.out.size))
    have IMC : Hid (∀ W, Below wc.heap.size wc W → Imm h1 W) := fun W hW => S1'.out.imm.below hW
    have HP1 : Hid (Prs h1 (.slice ap m.pairs.length cp) m.pairs) := HP.out.mono S1'.out.le
    have HR1 : Hid (Cmps h1 (.slice ar m.proof.length cr) m.proof) := HR.out.mono S1'.out.le
    obtain ⟨MB, ba, bb, zb⟩ := BXC.out wc (Below.refl _ _)
    obtain ⟨z7, p7⟩ := G7.out wc S1'.out.imm
    obtain ⟨z8, p8⟩ := G8.out wc S1'.out.imm
    have q70 : wc.cell? ⟨g7, 0, none⟩ = some (.slice (some ⟨bn, on, none⟩) x.length cn) := p7 0
    have q71 : wc.cell? ⟨g7, 1, none⟩ = some (.slice (some ⟨bp, op, none⟩) x.length cp') := p7 1
    have q72 : wc.cell? ⟨g7, 2, none⟩ = some (.slice (some ⟨bs, os, none⟩) x.length ct) := p7 2
    have q73 : wc.cell? ⟨g7, 3, none⟩ = some (.slice (some ⟨bk, ok, none⟩) x.length ck) := p7 3
    have q74 : wc.cell? ⟨g7, 4, none⟩ = some (.bool false) := p7 4
    have q80 : wc.cell? ⟨g8, 0, none⟩ = some (.slice (some ⟨dn, pn, none⟩) y.length en) := p8 0
    have q81 : wc.cell? ⟨g8, 1, none⟩ = some (.slice (some ⟨dp, pp, none⟩) y.length ep) := p8 1
    have q82 : wc.cell? ⟨g8, 2, none⟩ = some (.slice (some ⟨ds, qs, none⟩) y.length es) := p8 2
    have q83 : wc.cell? ⟨g8, 3, none⟩ = some (.slice (some ⟨dk, pk, none⟩) y.length ek) := p8 3
    have q84 : wc.cell? ⟨g8, 4, none⟩ = some (.bool false) := p8 4
    have k0 : wc.cell? ⟨w.heap.size + 2, 0, none⟩ = some (.slice ap m.pairs.length cp) := MB.cl 0
    have zm := MB.lt
    clear p7 p8 MB
    generalize hpr : priceP x y m.pairs = pr
    have HPRC : Hid (priceP x y m.pairs = pr) := hpr
    clear hpr
    go_wp2_with fail
    refine (rcost_any h1 _ S1'.out.imm _ _ _ x y m.pairs V7.out V8.out PX.out PY.out (by omega) (by omega) HP1.out).mono ?_
    rintro e w2 ⟨rfl, hb2⟩
    rw [HPRC.out]
    have B2 := Lib.hid hb2
    clear hb2 q70 q71 q72 q73 q74 q80 q81 q82 q83 q84 k0 zm ba bb zb z7 z8
    obtain ⟨MB, ba, bb, zb⟩ := BXC.out w2 B2.out
    have c0 : w2.cell? ⟨w.heap.size + 2, 0, none⟩ = some (.slice ap m.pairs.length cp) := MB.cl 0
    have c1 : w2.cell? ⟨w.heap.size + 2, 1, none⟩ = some (.int .i64 m.cost) := MB.cl 1
    have c2 : w2.cell? ⟨w.heap.size + 2, 2, none⟩ = some (.bool m.proven) := MB.cl 2
    have c3 : w2.cell? ⟨w.heap.size + 2, 3, none⟩ = some (.int .i64 m.bound) := MB.cl 3
    have c4 : w2.cell? ⟨w.heap.size + 2, 4, none⟩ = some (.slice ar m.proof.length cr) := MB.cl 4
    have zm := MB.lt
    have BW : Hid (Below w.heap.size w w2) := SWB.out w2 B2.out
    have HVP : Hid (verifyP x y m ↔ priceP x y m.pairs = some m.cost ∧ m.bound ≤ m.cost ∧ (m.proven = true → m.bound = m.cost ∧ if (nd x 0).kind = (nd y 0).kind then provedP x y m else m.proof = [] ∧ m.pairs = [])) := by
      unfold Hid; exact Iff.rfl
    clear MB
    cases pr with
    | none =>
      simp only [Option.getD_none, Option.isSome_none]
      go_wp2_with fail
      go_ret
      exact ⟨by rw [decide_eq_false (p := verifyP x y m) (fun hs => by have := (HVP.out.1 hs).1; rw [HPRC.out] at this; cases this)]; rfl, BW.out⟩
    | some c =>
    simp only [Option.getD_some, Option.isSome_some]
    by_cases hc : c = m.cost
    case neg =>
      have g1 := ibneT hc
      have HN : Hid (c ≠ m.cost) := hc
      clear hc
      go_wp2_with fail
      go_ret
      exact ⟨by rw [decide_eq_false (p := verifyP x y m) (fun hs => by have := (HVP.out.1 hs).1; rw [HPRC.out] at this; exact HN.out (Option.some.inj this))]; rfl, BW.out⟩
    subst hc
    have g1 : (m.cost != m.cost) = false := by simp
    by_cases hb : m.cost < m.bound
    · go_wp2_with fail
      go_ret
      exact ⟨by rw [decide_eq_false (p := verifyP x y m) (fun hs => by have := (HVP.out.1 hs).2.1; omega)]; rfl, BW.out⟩
    have g2 : decide (m.cost < m.bound) = false := by simpa using hb
    have hb2 : m.bound ≤ m.cost := by omega
    generalize hpv : m.proven = pv at *
    have HPV := Lib.hid hpv
    clear hpv
    cases pv
    · go_wp2_with fail
      go_ret
      exact ⟨by rw [decide_eq_true (p := verifyP x y m) (HVP.out.2 ⟨HPRC.out, hb2, fun e => by cases e⟩)]; rfl, BW.out⟩
    by_cases hbc : m.bound = m.cost
    case neg =>
      have g3 := ibneT hbc
      have HN : Hid (m.bound ≠ m.cost) := hbc
      clear hbc
      go_wp2_with fail
      go_ret
      exact ⟨by rw [decide_eq_false (p := verifyP x y m) (fun hs => HN.out ((HVP.out.1 hs).2.2 (by first | rfl | trivial)).1)]; rfl, BW.out⟩
    have g3 := ibneF hbc
    have HBC := Lib.hid hbc
    clear hbc
    by_cases hkk : a.kind = b.kind
    case neg =>
      have g4 := ibneT hkk
      have HN : Hid (¬ (nd x 0).kind = (nd y 0).kind) := by unfold Hid; rw [ka.out, kb.out]; exact hkk
      have HV2 : Hid (verifyP x y m ↔ m.proof = [] ∧ m.pairs = []) := by
        unfold Hid
        rw [HVP.out]
        refine ⟨fun hs => ?_, fun hs => ⟨HPRC.out, hb2, fun _ => ⟨HBC.out, by rw [if_neg HN.out]; exact hs⟩⟩⟩
        have := (hs.2.2 (by first | rfl | trivial)).2
        rw [if_neg HN.out] at this
        exact this
      clear hkk
      by_cases h5 : m.proof.length = 0
      · have e5 : m.proof = [] := List.eq_nil_of_length_eq_zero h5
        by_cases h6 : m.pairs.length = 0
        · have e6 : m.pairs = [] := List.eq_nil_of_length_eq_zero h6
          have HT : Hid (decide (verifyP x y m) = true) := decide_eq_true (HV2.out.2 ⟨e5, e6⟩)
          have g5 : ((m.proof.length : Int) == 0) = true := by rw [h5]; rfl
          have g6 : ((m.pairs.length : Int) == 0) = true := by rw [h6]; rfl
          have g7' : decide (m.proof.length = 0) = true := by simp [h5]
          have g8' : decide (m.pairs.length = 0) = true := by simp [h6]
          clear h5 h6 e5 e6
          go_wp2_with fail
          go_ret
          exact ⟨by rw [HT.out]; rfl, BW.out⟩
        · have HT : Hid (decide (verifyP x y m) = false) := decide_eq_false (fun hs => h6 (by rw [(HV2.out.1 hs).2]; rfl))
          have g5 : ((m.proof.length : Int) == 0) = true := by rw [h5]; rfl
          have g6 : ((m.pairs.length : Int) == 0) = false := by rw [beq_eq_false_iff_ne]; omega
          clear h5 h6 e5
          go_wp2_with fail
          go_ret
          exact ⟨by rw [HT.out]; rfl, BW.out⟩
      · have HT : Hid (decide (verifyP x y m) = false) := decide_eq_false (fun hs => h5 (by rw [(HV2.out.1 hs).1]; rfl))
        have g5 : ((m.proof.length : Int) == 0) = false := by rw [beq_eq_false_iff_ne]; omega
        clear h5
        go_wp2_with fail
        go_ret
        exact ⟨by rw [HT.out]; rfl, BW.out⟩
    have g4 := ibneF hkk
    have HK : Hid ((nd x 0).kind = (nd y 0).kind) := by unfold Hid; rw [ka.out, kb.out]; exact hkk
    have HV2 : Hid (verifyP x y m ↔ provedP x y m) := by
      unfold Hid
      rw [HVP.out]
      refine ⟨fun hs => ?_, fun hs => ⟨HPRC.out, hb2, fun _ => ⟨HBC.out, by rw [if_pos HK.out]; exact hs⟩⟩⟩
      have := (hs.2.2 (by first | rfl | trivial)).2
      rw [if_pos HK.out] at this
      exact this
    have HV3 : Hid (verifyP x y m ↔ keys m.proof = allC x y ∧ (∀ e ∈ m.proof, EntV x y (dget m.proof) e) ∧ (m.proof.getD 0 default).cost = m.cost) := by
      unfold Hid; rw [HV2.out]; exact provedP_iff PX.out PY.out m
    clear hkk HV2 HVP
    obtain ⟨z7, p7⟩ := G7.out w2 (IMC.out w2 B2.out)
    obtain ⟨z8, p8⟩ := G8.out w2 (IMC.out w2 B2.out)
    have r70 : w2.cell? ⟨g7, 0, none⟩ = some (.slice (some ⟨bn, on, none⟩) x.length cn) := p7 0
    have r71 : w2.cell? ⟨g7, 1, none⟩ = some (.slice (some ⟨bp, op, none⟩) x.length cp') := p7 1
    have r72 : w2.cell? ⟨g7, 2, none⟩ = some (.slice (some ⟨bs, os, none⟩) x.length ct) := p7 2
    have r73 : w2.cell? ⟨g7, 3, none⟩ = some (.slice (some ⟨bk, ok, none⟩) x.length ck) := p7 3
    have r74 : w2.cell? ⟨g7, 4, none⟩ = some (.bool false) := p7 4
    have r80 : w2.cell? ⟨g8, 0, none⟩ = some (.slice (some ⟨dn, pn, none⟩) y.length en) := p8 0
    have r81 : w2.cell? ⟨g8, 1, none⟩ = some (.slice (some ⟨dp, pp, none⟩) y.length ep) := p8 1
    have r82 : w2.cell? ⟨g8, 2, none⟩ = some (.slice (some ⟨ds, qs, none⟩) y.length es) := p8 2
    have r83 : w2.cell? ⟨g8, 3, none⟩ = some (.slice (some ⟨dk, pk, none⟩) y.length ek) := p8 3
    have r84 : w2.cell? ⟨g8, 4, none⟩ = some (.bool false) := p8 4
    clear p7 p8
    go_wp2_with fail
    refine (rcompared_any h1 _ (IMC.out w2 B2.out) _ _ x y V7.out V8.out PX.out PY.out (by omega) (by omega) HK.out m.proof.length (by omega)).mono ?_
    rintro e w4 ⟨v4, rfl, h4, S4, P4⟩
    clear r70 r71 r72 r73 r74 r80 r81 r82 r83 r84 z7 z8 c0 c1 c2 c3 c4 ba bb zb zm
    have B4 : Hid (Below wc.heap.size wc w4) := B2.out.trans (S4.below.mono B2.out.size)
    have I4 := Lib.hid S4.imm
    have LE4 := Lib.hid S4.le
    have BW4 : Hid (Below w.heap.size w w4) := SWB.out w4 B4.out
    have P4' := Lib.hid P4
    obtain ⟨a4, c4, rfl, -, -⟩ := P4.open
    obtain ⟨MB, -, -, -⟩ := BXC.out w4 B4.out
    have k1 : w4.cell? ⟨w.heap.size + 2, 1, none⟩ = some (.int .i64 m.cost) := MB.cl 1
    have k4 : w4.cell? ⟨w.heap.size + 2, 4, none⟩ = some (.slice ar m.proof.length cr) := MB.cl 4
    have zm := MB.lt
    clear MB S4 P4
    by_cases hlen : ((allC x y).take (m.proof.length + 1)).length = m.proof.length
    case neg =>
      have g5 : ((((allC x y).take (m.proof.length + 1)).length : Int) != (m.proof.length : Int)) = true := by rw [bne_iff_ne]; omega
      have HT : Hid (decide (verifyP x y m) = false) := decide_eq_false (fun hs => by
        have e := (HV3.out.1 hs).1
        apply hlen
        have : (allC x y).length = m.proof.length := by rw [← e, keys_len]
        rw [List.length_take]; omega)
      clear hlen
      generalize (allC x y).take (m.proof.length + 1) = D at *
      go_wp2_with fail
      go_ret
      exact ⟨by rw [HT.out]; rfl, BW4.out⟩
    obtain ⟨hl1, hl2⟩ := take_len _ _ hlen
    clear hlen
    rw [hl2] at P4'
    rw [hl2]
    have CC := Lib.hid (allC_cmp PX.out PY.out)
    have AL := allC_len PX.out PY.out
    have hxy : x.length * y.length ≤ 400 * 400 := Nat.mul_le_mul sx sy
    clear hl2
    generalize allC x y = C at *
    have hCl : C.length ≤ 160000 := by omega
    have HL1 := Lib.hid hl1
    rw [hl1] at P4'
    rw [hl1]
    have h0C : 0 < m.proof.length := by rw [← hl1]; exact List.length_pos_of_mem CC.out.root
    have hml : m.proof.length ≤ 160000 := by omega
    have g5 : ((m.proof.length : Int) != (m.proof.length : Int)) = false := by simp
    have CIN : Hid (∀ k (hk : k < C.length), (0 ≤ C[k].1 ∧ C[k].1 < x.length) ∧ 0 ≤ C[k].2 ∧ C[k].2 < y.length) := fun k hk => by
      have := CC.out.inr _ (List.getElem_mem hk)
      unfold InR at this
      omega
    have PC0 := P4'.out
    rw [← HL1.out] at PC0
    obtain ⟨a5, c5, e5, -, hpc⟩ := PC0.open
    rw [HL1.out] at e5
    simp only [Value.slice.injEq, true_and] at e5
    obtain ⟨rfl, rfl⟩ := e5
    obtain ⟨b4, o4, rfl, -, -⟩ := hpc w4 I4.out (by rw [HL1.out]; exact h0C)
    have PC : Hid (∀ W, Imm h4 W → b4 < W.heap.size ∧ ∀ k (hk : k < C.length), W.cell? ⟨b4, o4 + k * 2, none⟩ = some (.int .i64 C[k].1) ∧ W.cell? ⟨b4, o4 + k * 2 + 1, none⟩ = some (.int .i64 C[k].2)) := fun W hW => by
      obtain ⟨b, o, e, h1, h2⟩ := hpc W hW (by rw [HL1.out]; exact h0C)
      simp only [Option.some.injEq, Addr.mk.injEq, and_true] at e
      obtain ⟨rfl, rfl⟩ := e
      exact ⟨h1, h2⟩
    have HR4 := Lib.hid (HR1.out.mono LE4.out)
    obtain ⟨aq, cq, e6, -, hqc⟩ := HR4.out.open
    simp only [Value.slice.injEq, true_and] at e6
    obtain ⟨rfl, rfl⟩ := e6
    obtain ⟨bq, oq, -, -, -, -, rfl, -⟩ := hqc w4 I4.out 0 h0C
    have RW : Hid (∀ K (hK : K < m.proof.length), ∃ ap cp ar cr', (∀ W, Imm h4 W → bq < W.heap.size ∧ W.cell? ⟨bq, oq + K * 6, none⟩ = some (.int .i64 m.proof[K].a) ∧ W.cell? ⟨bq, oq + K * 6 + 1, none⟩ = some (.int .i64 m.proof[K].b) ∧ W.cell? ⟨bq, oq + K * 6 + 2, none⟩ = some (.int .i64 m.proof[K].cost) ∧
      W.cell? ⟨bq, oq + K * 6 + 3, none⟩ = some (.slice ap m.proof[K].kids.pairs.length cp) ∧ W.cell? ⟨bq, oq + K * 6 + 4, none⟩ = some (.int .i64 m.proof[K].kids.cost) ∧ W.cell? ⟨bq, oq + K * 6 + 5, none⟩ = some (.slice ar m.proof[K].kids.pot.length cr')) ∧ Prs h4 (.slice ap m.proof[K].kids.pairs.length cp) m.proof[K].kids.pairs ∧ Rws h4 (.slice ar m.proof[K].kids.pot.length cr') m.proof[K].kids.pot) := fun K hK => HR4.out.row K hK
    have HI64 : Hid (∀ e ∈ m.proof, I64 e.cost ∧ I64 e.kids.cost) := fun e he => by
      obtain ⟨k, hk, rfl⟩ := List.mem_iff_getElem.1 he
      obtain ⟨_, _, _, _, _, _, _, _, _, _, _, _, _, _, _, _, _, _, i3, i4⟩ := hqc w4 I4.out k hk
      exact ⟨i3, i4⟩
    have FAL : Hid (¬ keys m.proof = C → decide (verifyP x y m) = false) := fun hn => decide_eq_false (fun hs => hn (HV3.out.1 hs).1)
    clear hpc hqc PC0
    go_wp2_with fail
    go_loopw [6, 12, 80, 81, 82, 83, 84, 85, 86, 87, 88, 89, 90, 91, 92, 93, 94, 95, 96, 97, 98, 99, 100, 101, 102, 103, 104, 105, 106, 107, 108, 109, 110, 111] (fun _ i _ _ _ _ _ _ _ _ _ _ _ _ _ _ _ _ _ _ _ _ _ _ _ _ _ _ _ _ _ _ _ _ wr => ∃ k : Nat, k ≤ m.proof.length ∧ i = .int .i64 k ∧ Below w4.heap.size w4 wr ∧ Hid ((keys m.proof).take k = C.take k)) (fun _ i _ _ _ _ _ _ _ _ _ _ _ _ _ _ _ _ _ _ _ _ _ _ _ _ _ _ _ _ _ _ _ _ _ => m.proof.length - (intOf i).toNat)
    case atStart => exact ⟨0, Nat.zero_le _, rfl, Below.refl _ _, by unfold Hid; simp⟩
    case round =>
      obtain ⟨k, hkl, rfl, hB, HKT⟩ := hrel
      have BWR : Hid (Below w.heap.size w wr) := BW4.out.trans (hB.mono BW4.out.size)
      obtain ⟨MB, -, -, -⟩ := BXC.out wr (B4.out.trans (hB.mono B4.out.size))
      have j1 : wr.cell? ⟨w.heap.size + 2, 1, none⟩ = some (.int .i64 m.cost) := MB.cl 1
      have j4 : wr.cell? ⟨w.heap.size + 2, 4, none⟩ = some (.slice (some ⟨bq, oq, none⟩) m.proof.length cr) := MB.cl 4
      have zj := MB.lt
      have IW : Hid (Imm h4 wr) := I4.out.below hB
      have HBR := Lib.hid hB
      clear MB k1 k4 zm hB
      by_cases hlt : k < m.proof.length
      · skip
        obtain ⟨_, _, _, _, hrow, -, -⟩ := RW.out k hlt
        obtain ⟨zq, d0, d1, -, -, -, -⟩ := hrow wr IW.out
        have hkC : k < C.length := by rw [HL1.out]; exact hlt
        obtain ⟨zp, hpc⟩ := PC.out wr IW.out
        obtain ⟨e0, e1⟩ := hpc k hkC
        have HNE : Hid (¬ (m.proof[k].a = C[k].1 ∧ m.proof[k].b = C[k].2) → keys m.proof ≠ C) := fun hn => keys_ne HL1.out.symm hkC hn
        have HSN : Hid (m.proof[k].a = C[k].1 → m.proof[k].b = C[k].2 → (keys m.proof).take (k + 1) = C.take (k + 1)) := fun ha hb => keys_snoc HL1.out.symm hkC HKT.out ha hb
        generalize m.proof[k].a = qa at *
        generalize m.proof[k].b = qb at *
        generalize C[k].1 = ra at *
        generalize C[k].2 = rb at *
        have u0 : (0 : Int) ≤ (k : Int) := by omega
        have u1 : (k : Int) < (m.proof.length : Int) := by omega
        clear hrow hpc
        by_cases hA : qa = ra
        case neg =>
          have g6 := ibneT hA
          have HN : Hid (decide (verifyP x y m) = false) := FAL.out (HNE.out fun h => hA h.1)
          clear hA
          go_wp2_with fail
          go_quiet (fail)
          go_wp2_with fail
          go_ret
          exact ⟨by rw [HN.out]; rfl, BWR.out.drewN _⟩
        have g6 := ibneF hA
        by_cases hBb : qb = rb
        case neg =>
          have g7' := ibneT hBb
          have HN : Hid (decide (verifyP x y m) = false) := FAL.out (HNE.out fun h => hBb h.2)
          clear hA hBb
          go_wp2_with fail
          go_quiet (fail)
          go_wp2_with fail
          go_ret
          exact ⟨by rw [HN.out]; rfl, BWR.out.drewN _⟩
        have g7' := ibneF hBb
        have HST := Lib.hid (HSN.out hA hBb)
        clear hA hBb
        go_wp2_with fail
        go_quiet (fail)
        go_wp2_with fail
        go_roundw
        case rel => exact ⟨k + 1, by omega, by go_num, HBR.out.drewN _, HST⟩
        case measure => simp [intOf]; omega
      · skip
        obtain rfl : k = m.proof.length := by omega
        have HKE : Hid (keys m.proof = C) := by
          have := HKT.out
          unfold Hid
          rw [List.take_of_length_le (by rw [keys_len]; exact Nat.le_refl _), List.take_of_length_le (by rw [HL1.out]; exact Nat.le_refl _)] at this
          exact this
        have HV4 : Hid (verifyP x y m ↔ (∀ e ∈ m.proof, EntV x y (dget m.proof) e) ∧ (m.proof.getD 0 default).cost = m.cost) := by
          unfold Hid; rw [HV3.out]; exact ⟨fun h => h.2, fun h => ⟨HKE.out, h⟩⟩
        have HCK : Hid (∀ k (hk : k < m.proof.length), C[k]'(by rw [HL1.out]; exact hk) = (m.proof[k].a, m.proof[k].b)) := fun k hk => by
          rw [← keys_at m.proof k hk]
          have := HKE.out
          simp only [this]
        have HENT : Hid (∀ k (hk : k < m.proof.length), ¬ EntV x y (dget m.proof) m.proof[k] → decide (verifyP x y m) = false) := fun k hk hn => decide_eq_false (fun hs => hn ((HV4.out.1 hs).1 _ (List.getElem_mem hk)))
        have NE7 := Lib.hid (NE7.out.mono LE4.out)
        have NE8 := Lib.hid (NE8.out.mono LE4.out)
        obtain ⟨z7, p7⟩ := G7.out wr (fun b c hc => IW.out b c (LE4.out b c hc))
        obtain ⟨z8, p8⟩ := G8.out wr (fun b c hc => IW.out b c (LE4.out b c hc))
        have s70 : wr.cell? ⟨g7, 0, none⟩ = some (.slice (some ⟨bn, on, none⟩) x.length cn) := p7 0
        have s71 : wr.cell? ⟨g7, 1, none⟩ = some (.slice (some ⟨bp, op, none⟩) x.length cp') := p7 1
        have s72 : wr.cell? ⟨g7, 2, none⟩ = some (.slice (some ⟨bs, os, none⟩) x.length ct) := p7 2
        have s73 : wr.cell? ⟨g7, 3, none⟩ = some (.slice (some ⟨bk, ok, none⟩) x.length ck) := p7 3
        have s74 : wr.cell? ⟨g7, 4, none⟩ = some (.bool false) := p7 4
        have s80 : wr.cell? ⟨g8, 0, none⟩ = some (.slice (some ⟨dn, pn, none⟩) y.length en) := p8 0
        have s81 : wr.cell? ⟨g8, 1, none⟩ = some (.slice (some ⟨dp, pp, none⟩) y.length ep) := p8 1
        have s82 : wr.cell? ⟨g8, 2, none⟩ = some (.slice (some ⟨ds, qs, none⟩) y.length es) := p8 2
        have s83 : wr.cell? ⟨g8, 3, none⟩ = some (.slice (some ⟨dk, pk, none⟩) y.length ek) := p8 3
        have s84 : wr.cell? ⟨g8, 4, none⟩ = some (.bool false) := p8 4
        clear p7 p8
        obtain ⟨wo, rfl⟩ : ∃ wo : World, wo = wr := ⟨_, rfl⟩
        have TBL : Hid (∃ h5, Imm h5 (wo.alloc (Obj.cells #[.slice (some ⟨bn, on, none⟩) x.length cn, .slice (some ⟨bp, op, none⟩) x.length cp', .slice (some ⟨bs, os, none⟩) x.length ct, .slice (some ⟨bk, ok, none⟩) x.length ck, .bool false, .slice (some ⟨dn, pn, none⟩) y.length en, .slice (some ⟨dp, pp, none⟩) y.length ep, .slice (some ⟨ds, qs, none⟩) y.length es, .slice (some ⟨dk, pk, none⟩) y.length ek, .bool false, .slice (some ⟨bq, oq, none⟩) m.proof.length cr] 79)) ∧ h4.le h5 ∧ Tab h5 wo.heap.size x y (.slice (some ⟨bq, oq, none⟩) m.proof.length cr)) := tab_new IW.out NE7.out NE8.out _ _
        have BWO : Hid (Below w.heap.size w (wo.alloc (Obj.cells #[.slice (some ⟨bn, on, none⟩) x.length cn, .slice (some ⟨bp, op, none⟩) x.length cp', .slice (some ⟨bs, os, none⟩) x.length ct, .slice (some ⟨bk, ok, none⟩) x.length ck, .bool false, .slice (some ⟨dn, pn, none⟩) y.length en, .slice (some ⟨dp, pp, none⟩) y.length ep, .slice (some ⟨ds, qs, none⟩) y.length es, .slice (some ⟨dk, pk, none⟩) y.length ek, .bool false, .slice (some ⟨bq, oq, none⟩) m.proof.length cr] 79))) := BWR.out.alloc BWR.out.size _
        have BCO : Hid (Below wc.heap.size wc (wo.alloc (Obj.cells #[.slice (some ⟨bn, on, none⟩) x.length cn, .slice (some ⟨bp, op, none⟩) x.length cp', .slice (some ⟨bs, os, none⟩) x.length ct, .slice (some ⟨bk, ok, none⟩) x.length ck, .bool false, .slice (some ⟨dn, pn, none⟩) y.length en, .slice (some ⟨dp, pp, none⟩) y.length ep, .slice (some ⟨ds, qs, none⟩) y.length es, .slice (some ⟨dk, pk, none⟩) y.length ek, .bool false, .slice (some ⟨bq, oq, none⟩) m.proof.length cr] 79))) := (B4.out.trans (HBR.out.mono B4.out.size)).alloc (B4.out.trans (HBR.out.mono B4.out.size)).size _
        go_wp2_with fail
        clear s70 s71 s72 s73 s74 s80 s81 s82 s83 s84 z7 z8 j1 j4 zj
        generalize hbt : wo.heap.size = bt at *
        generalize wo.alloc (Obj.cells #[.slice (some ⟨bn, on, none⟩) x.length cn, .slice (some ⟨bp, op, none⟩) x.length cp', .slice (some ⟨bs, os, none⟩) x.length ct, .slice (some ⟨bk, ok, none⟩) x.length ck, .bool false, .slice (some ⟨dn, pn, none⟩) y.length en, .slice (some ⟨dp, pp, none⟩) y.length ep, .slice (some ⟨ds, qs, none⟩) y.length es, .slice (some ⟨dk, pk, none⟩) y.length ek, .bool false, .slice (some ⟨bq, oq, none⟩) m.proof.length cr] 79) = w5 at *
        obtain ⟨h5, J5, LE5, TB5⟩ := TBL.out
        have I5 := Lib.hid J5
        have HT5 := Lib.hid TB5
        have HR5 := Lib.hid (HR4.out.mono LE5)
        have L45 := Lib.hid LE5
        clear hbt J5 LE5 TB5 TBL IW HBR BWR
        go_loopw [6, 14, 15, 16, 17, 118, 119, 120, 121, 122, 123, 124, 125, 126, 127, 128, 129, 130, 131, 132, 133, 134, 135, 136, 137, 138, 139, 140, 141, 142, 143, 144, 145, 146, 147, 148, 149, 150, 151, 152, 153, 154, 155, 156, 157, 158, 159, 160, 161, 162, 163, 164, 165, 166, 167, 168, 169, 170, 171, 172, 173, 174, 175, 176, 177, 178, 179] (fun _ i _ _ _ _ _ _ _ _ _ _ _ _ _ _ _ _ _ _ _ _ _ _ _ _ _ _ _ _ _ _ _ _ _ _ _ _ _ _ _ _ _ _ _ _ _ _ _ _ _ _ _ _ _ _ _ _ _ _ _ _ _ _ _ _ _ wr => ∃ k : Nat, k ≤ m.proof.length ∧ i = .int .i64 k ∧ Below w5.heap.size w5 wr ∧ Hid (∀ j (hj : j < m.proof.length), j < k → EntV x y (dget m.proof) m.proof[j])) (fun _ i _ _ _ _ _ _ _ _ _ _ _ _ _ _ _ _ _ _ _ _ _ _ _ _ _ _ _ _ _ _ _ _ _ _ _ _ _ _ _ _ _ _ _ _ _ _ _ _ _ _ _ _ _ _ _ _ _ _ _ _ _ _ _ _ _ _ => m.proof.length - (intOf i).toNat)
        case atStart => exact ⟨0, Nat.zero_le _, rfl, Below.refl _ _, fun j hj h => absurd h (by omega)⟩
        case round =>
          obtain ⟨k, hkl, rfl, hB, HEV⟩ := hrel
          have BWR : Hid (Below w.heap.size w wr) := BWO.out.trans (hB.mono BWO.out.size)
          have IW : Hid (Imm h5 wr) := I5.out.below hB
          have HBR := Lib.hid hB
          have BMM : Hid (∀ W, Below wr.heap.size wr W → W.cell? ⟨w.heap.size + 2, 1, none⟩ = some (.int .i64 m.cost) ∧ W.cell? ⟨w.heap.size + 2, 4, none⟩ = some (.slice (some ⟨bq, oq, none⟩) m.proof.length cr) ∧ w.heap.size + 2 < W.heap.size) := fun W hW => by
            obtain ⟨MB, -, -, -⟩ := BXC.out W (BCO.out.trans ((HBR.out.trans (hW.mono HBR.out.size)).mono BCO.out.size))
            exact ⟨MB.cl 1, MB.cl 4, MB.lt⟩
          obtain ⟨j1, j4, zj⟩ := BMM.out wr (Below.refl _ _)
          clear hB
          by_cases hlt : k < m.proof.length
          · skip
            obtain ⟨ap1, cp1, ar1, cr1, hrow, PP, RR⟩ := HR5.out.row k hlt
            have hkC : k < C.length := by rw [HL1.out]; exact hlt
            have ci := CIN.out k hkC
            have hck := HCK.out k hlt
            have HE := Lib.hid (HENT.out k hlt)
            obtain ⟨ic1, ic2⟩ := HI64.out _ (List.getElem_mem hlt)
            have HCLO := Lib.hid (CC.out.clo _ (List.getElem_mem hkC))
            have HNX : Hid (EntV x y (dget m.proof) m.proof[k] → ∀ j (hj : j < m.proof.length), j < k + 1 → EntV x y (dget m.proof) m.proof[j]) := fun he j hj hjk => by
              by_cases hjk' : j = k
              · subst hjk'; exact he
              · exact HEV.out j hj (by omega)
            have HPCW : Hid (∀ W, Imm h5 W → b4 < W.heap.size ∧ W.cell? ⟨b4, o4 + k * 2, none⟩ = some (.int .i64 C[k].1) ∧ W.cell? ⟨b4, o4 + k * 2 + 1, none⟩ = some (.int .i64 C[k].2)) := fun W hW => by
              obtain ⟨z, hp⟩ := PC.out W (fun b c hc => hW b c (L45.out b c hc))
              exact ⟨z, hp k hkC⟩
            have HROW := Lib.hid hrow
            generalize m.proof[k] = tt at *
            generalize C[k] = pq at *
            subst hck
            obtain ⟨pa, hpa⟩ : ∃ n : Nat, tt.a = (n : Int) := ⟨tt.a.toNat, by simp only at ci; omega⟩
            obtain ⟨qa, hqa⟩ : ∃ n : Nat, tt.b = (n : Int) := ⟨tt.b.toNat, by simp only at ci; omega⟩
            simp only [hpa, hqa] at ci HPCW HCLO
            have lpa : pa < x.length := by omega
            have lqa : qa < y.length := by omega
            have HEQ : Hid (EntV x y (dget m.proof) tt ↔ SVer (dropP x (pa : Int)) (dropP y (qa : Int)) (costP x y ((pa : Int), (qa : Int)) (dget m.proof)) tt.kids ∧ tt.cost = differP x[pa].text y[qa].text + tt.kids.cost) := by
              unfold Hid EntV
              rw [hpa, hqa, show nd x (pa : Int) = x[pa] from nd_of (List.getElem?_eq_getElem lpa), show nd y (qa : Int) = y[qa] from nd_of (List.getElem?_eq_getElem lqa)]
            have HDB := differP_bd x[pa].text y[qa].text
            have LIS : Hid (Calls Try.prog 38 #[.pointer (some ⟨bt, 0, none⟩), .int .i64 pa, .int .i64 qa] wr.drew fun e w6 => ∃ v1 v2 v3, e = .returned (.tuple #[v1, v2, v3]) ∧ ∃ h6, St wr.heap.size h5 wr.drew h6 w6 ∧ Ints h6 v1 (dropP x (pa : Int)) ∧ Ints h6 v2 (dropP y (qa : Int)) ∧ Rws h6 v3 (costP x y ((pa : Int), (qa : Int)) (dget m.proof))) := by
              refine (lists_any wr.drew h5 IW.out.drew bt bq oq cr x y PX.out PY.out (by omega) (by omega) m.proof HT5.out HR5.out (by omega) (by rw [HKE.out]; exact CC.out.srt) (dget_i64 fun e he => (HI64.out e he).1) pa qa lpa lqa ?_).mono ?_
              · intro c hc k' hk' e
                rw [HKE.out]
                refine HCLO.out _ ?_
                unfold kp kpC
                exact List.mem_flatMap.2 ⟨c, hc, List.mem_map.2 ⟨k', List.mem_filter.2 ⟨hk', by simpa using e⟩, rfl⟩⟩
              · rintro e w6 ⟨v1, v2, v3, rfl, hN, SN, I1, I2, R3⟩
                obtain ⟨h6, S6, le6⟩ := SN.join IW.out.drew
                exact ⟨v1, v2, v3, rfl, h6, S6, I1.mono le6, I2.mono le6, R3.mono le6⟩
            have LBL : Hid (∀ h6 W, h5.le h6 → Imm h6 W → Calls Try.prog 40 #[.pointer (some ⟨bt, 0, none⟩), .int .i64 pa, .int .i64 qa] W fun e w' => e = .returned (.int .i64 (differP x[pa].text y[qa].text)) ∧ ∃ n, w' = W.drewN n) := fun h6 W hl hW => label_any h6 W hW bt x y _ (HT5.out.mono hl) pa qa lpa lqa
            have FCT : Hid (∀ W, Below wr.heap.size wr W → W.cell? ⟨w.heap.size + 2, 4, none⟩ = some (.slice (some ⟨bq, oq, none⟩) m.proof.length cr) ∧ W.cell? ⟨b4, o4 + k * 2, none⟩ = some (.int .i64 (pa : Int)) ∧ W.cell? ⟨b4, o4 + k * 2 + 1, none⟩ = some (.int .i64 (qa : Int)) ∧ W.cell? ⟨bq, oq + k * 6 + 2, none⟩ = some (.int .i64 tt.cost) ∧ W.cell? ⟨bq, oq + k * 6 + 3, none⟩ = some (.slice ap1 tt.kids.pairs.length cp1) ∧ W.cell? ⟨bq, oq + k * 6 + 4, none⟩ = some (.int .i64 tt.kids.cost) ∧ W.cell? ⟨bq, oq + k * 6 + 5, none⟩ = some (.slice ar1 tt.kids.pot.length cr1)) := fun W hW => by
              obtain ⟨-, e1, -⟩ := BMM.out W hW
              obtain ⟨-, e2, e3⟩ := HPCW.out W (IW.out.below hW)
              obtain ⟨-, -, -, e4, e5, e6, e7⟩ := HROW.out W (IW.out.below hW)
              exact ⟨e1, e2, e3, e4, e5, e6, e7⟩
            have FSZ : Hid (∀ W, Below wr.heap.size wr W → w.heap.size + 2 < W.heap.size ∧ b4 < W.heap.size ∧ bq < W.heap.size) := fun W hW => ⟨(BMM.out W hW).2.2, (HPCW.out W (IW.out.below hW)).1, (HROW.out W (IW.out.below hW)).1⟩
            obtain ⟨-, p0, p1, -⟩ := FCT.out wr (Below.refl _ _)
            have PPH := Lib.hid PP
            have RRH := Lib.hid RR
            have u0 : (0 : Int) ≤ (k : Int) := by omega
            have u1 : (k : Int) < (m.proof.length : Int) := by omega
            clear PP RR hrow HPCW HROW hpa hqa HCLO
            generalize costP x y ((pa : Int), (qa : Int)) (dget m.proof) = cst at *
            generalize differP x[pa].text y[qa].text = D at *
            go_upto_region 23 with fail
            go_region_held3 (fun w' => w'.cell? ⟨b4, o4 + k * 2, none⟩ = some (.int .i64 (pa : Int)) ∧ w'.cell? ⟨b4, o4 + k * 2 + 1, none⟩ = some (.int .i64 (qa : Int))) (first | (go_keep; done) | with_reducible exact ⟨m0, m1⟩)
              (first | (go_at_call 38; refine LIS.out.mono ?_; rintro e w6 ⟨v1, v2, v3, rfl, h6, S6, I1, I2, R3⟩; have B6 : Hid (Below wr.heap.size wr w6) := ((Below.refl _ _).drew).trans S6.below; obtain ⟨-, m0, m1, -⟩ := FCT.out w6 B6.out; have S6' := Lib.hid S6; have K1 := Lib.hid I1; have K2 := Lib.hid I2; have K3 := Lib.hid R3; clear S6 I1 I2 R3))
            clear p0 p1 m0 m1 j1 j4 zj LIS
            have AV : Hid (AlignV h6 (.agg #[.slice ap1 tt.kids.pairs.length cp1, .int .i64 tt.kids.cost, .slice ar1 tt.kids.pot.length cr1]) tt.kids) := ⟨[.slice ap1 tt.kids.pairs.length cp1, .int .i64 tt.kids.cost, .slice ar1 tt.kids.pot.length cr1], rfl, ap1, cp1, ar1, cr1, rfl, ic2, PPH.out.mono S6'.out.le, RRH.out.mono S6'.out.le⟩
            have I6 := Lib.hid S6'.out.imm
            have L56 := Lib.hid S6'.out.le
            obtain ⟨j4, q0, q1, d2, d3, d4, d5⟩ := FCT.out w6 B6.out
            obtain ⟨zj, zp, zq⟩ := FSZ.out w6 B6.out
            generalize hsv : decide (SVer (dropP x (pa : Int)) (dropP y (qa : Int)) cst tt.kids) = sv
            have HSV := Lib.hid hsv
            have VRF : Hid (Calls Try.prog 44 #[v1, v2, v3, .agg #[.slice ap1 tt.kids.pairs.length cp1, .int .i64 tt.kids.cost, .slice ar1 tt.kids.pot.length cr1]] w6.drew (VerRes w6.drew sv)) := by
              have := r17verify_any h6 w6.drew I6.out.drew _ _ _ _ _ _ cst tt.kids K1.out K2.out K3.out AV.out
              rw [hsv] at this
              exact this
            clear hsv
            cases sv
            · have HN : Hid (decide (verifyP x y m) = false) := HE.out (fun he => by have := (HEQ.out.1 he).1; have hh := of_decide_eq_false HSV.out; exact hh this)
              have VRS : Hid (Calls Try.prog 44 #[v1, v2, v3, .agg #[.slice ap1 tt.kids.pairs.length cp1, .int .i64 tt.kids.cost, .slice ar1 tt.kids.pot.length cr1]] w6.drew fun e w7 => e = .returned (.bool false) ∧ (w7.cell? ⟨w.heap.size + 2, 4, none⟩ = some (.slice (some ⟨bq, oq, none⟩) m.proof.length cr) ∧ w7.cell? ⟨bq, oq + k * 6 + 3, none⟩ = some (.slice ap1 tt.kids.pairs.length cp1) ∧ w7.cell? ⟨bq, oq + k * 6 + 4, none⟩ = some (.int .i64 tt.kids.cost) ∧ w7.cell? ⟨bq, oq + k * 6 + 5, none⟩ = some (.slice ar1 tt.kids.pot.length cr1)) ∧ Below wr.heap.size wr w7) := by
                refine VRF.out.mono ?_
                rintro e w7 ⟨rfl, hb7⟩
                have B7 : Below wr.heap.size wr w7 := B6.out.drew.trans (hb7.mono B6.out.size)
                obtain ⟨m0, -, -, -, m4, m5, m6⟩ := FCT.out w7 B7
                exact ⟨rfl, ⟨m0, m4, m5, m6⟩, B7⟩
              go_upto_region 24 with fail
              refine rv_r24f (PP := fun w7 => Below wr.heap.size wr w7) ⟨j4, d3, d4, d5⟩ zj zq u0 u1 VRS (by kernel_rfl) _ (fun u140 u141 u142 u143 u144 u145 u146 u147 u148 u149 u150 u151 u152 u153 u154 u155 u156 u157 u158 u159 u160 u161 u162 u163 u164 u165 u166 u167 u168 u169 u170 u171 u172 u173 u174 u175 u176 u177 u178 w7 B7 => ?_)
              dsimp only
              go_wp2_with fail
              go_ret
              exact ⟨by rw [HN.out]; rfl, BWR.out.trans (B7.mono BWR.out.size)⟩
            · have hsv := of_decide_eq_true HSV.out
              have kb := SVer.bd hsv
              have wDA : IntKind.i64.wrap (D + tt.kids.cost) = D + tt.kids.cost := w64 (by omega)
              have HSVT := Lib.hid hsv
              clear hsv
              by_cases hcc : tt.cost = D + tt.kids.cost
              · have g9 : (tt.cost != D + tt.kids.cost) = false := ibneF hcc
                have HOK := Lib.hid (HNX.out (HEQ.out.2 ⟨HSVT.out, hcc⟩))
                clear hcc
                go_upto_region 24 with fail
                go_region_held3 (fun w' => w'.cell? ⟨w.heap.size + 2, 4, none⟩ = some (.slice (some ⟨bq, oq, none⟩) m.proof.length cr) ∧ w'.cell? ⟨b4, o4 + k * 2, none⟩ = some (.int .i64 (pa : Int)) ∧ w'.cell? ⟨b4, o4 + k * 2 + 1, none⟩ = some (.int .i64 (qa : Int)) ∧ w'.cell? ⟨bq, oq + k * 6 + 2, none⟩ = some (.int .i64 tt.cost) ∧ w'.cell? ⟨bq, oq + k * 6 + 3, none⟩ = some (.slice ap1 tt.kids.pairs.length cp1) ∧ w'.cell? ⟨bq, oq + k * 6 + 4, none⟩ = some (.int .i64 tt.kids.cost) ∧ w'.cell? ⟨bq, oq + k * 6 + 5, none⟩ = some (.slice ar1 tt.kids.pot.length cr1)) (first | (go_keep; done) | with_reducible exact ⟨m0, m1, m2, m3, m4, m5, m6⟩ | exact ⟨m0, m1, m2, m3, m4, m5, m6⟩)
                  (first | (go_at_call 44; refine VRF.out.mono ?_; rintro e w7 ⟨rfl, hb7⟩; have B7 : Hid (Below wr.heap.size wr w7) := B6.out.drew.trans (hb7.mono B6.out.size); have I7 : Hid (Imm h6 w7) := I6.out.drew.below hb7; clear hb7; obtain ⟨m0, m1, m2, m3, m4, m5, m6⟩ := FCT.out w7 B7.out; obtain ⟨y1, y2, y3⟩ := FSZ.out w7 B7.out) | (go_at_call 40; refine (LBL.out h6 _ L56.out I7.out).mono ?_; rintro e w8 ⟨rfl, n8, rfl⟩))
                go_wp2_with fail
                go_roundw
                case rel => exact ⟨k + 1, by omega, by go_num, (HBR.out.trans (B7.out.mono HBR.out.size)).drewN _, HOK.out⟩
                case measure => simp [intOf]; omega
              · have g9 : (tt.cost != D + tt.kids.cost) = true := ibneT hcc
                have HN : Hid (decide (verifyP x y m) = false) := HE.out (fun he => hcc (HEQ.out.1 he).2)
                clear hcc
                go_upto_region 24 with fail
                go_region_held3 (fun w' => w'.cell? ⟨w.heap.size + 2, 4, none⟩ = some (.slice (some ⟨bq, oq, none⟩) m.proof.length cr) ∧ w'.cell? ⟨b4, o4 + k * 2, none⟩ = some (.int .i64 (pa : Int)) ∧ w'.cell? ⟨b4, o4 + k * 2 + 1, none⟩ = some (.int .i64 (qa : Int)) ∧ w'.cell? ⟨bq, oq + k * 6 + 2, none⟩ = some (.int .i64 tt.cost) ∧ w'.cell? ⟨bq, oq + k * 6 + 3, none⟩ = some (.slice ap1 tt.kids.pairs.length cp1) ∧ w'.cell? ⟨bq, oq + k * 6 + 4, none⟩ = some (.int .i64 tt.kids.cost) ∧ w'.cell? ⟨bq, oq + k * 6 + 5, none⟩ = some (.slice ar1 tt.kids.pot.length cr1)) (first | (go_keep; done) | with_reducible exact ⟨m0, m1, m2, m3, m4, m5, m6⟩ | exact ⟨m0, m1, m2, m3, m4, m5, m6⟩)
                  (first | (go_at_call 44; refine VRF.out.mono ?_; rintro e w7 ⟨rfl, hb7⟩; have B7 : Hid (Below wr.heap.size wr w7) := B6.out.drew.trans (hb7.mono B6.out.size); have I7 : Hid (Imm h6 w7) := I6.out.drew.below hb7; clear hb7; obtain ⟨m0, m1, m2, m3, m4, m5, m6⟩ := FCT.out w7 B7.out; obtain ⟨y1, y2, y3⟩ := FSZ.out w7 B7.out) | (go_at_call 40; refine (LBL.out h6 _ L56.out I7.out).mono ?_; rintro e w8 ⟨rfl, n8, rfl⟩))
                go_wp2_with fail
                go_ret
                exact ⟨by rw [HN.out]; rfl, (BWR.out.trans (B7.out.mono BWR.out.size)).drewN _⟩
          · obtain rfl : k = m.proof.length := by omega
            have HALL : Hid (∀ e ∈ m.proof, EntV x y (dget m.proof) e) := fun e he => by
              obtain ⟨j, hj, rfl⟩ := List.mem_iff_getElem.1 he
              exact HEV.out j hj hj
            obtain ⟨_, _, _, _, hrow, -, -⟩ := HR5.out.row 0 h0C
            obtain ⟨zq, -, -, d2, -, -, -⟩ := hrow wr IW.out
            simp only [Nat.zero_mul, Nat.add_zero] at d2
            have HV5 : Hid (verifyP x y m ↔ m.proof[0].cost = m.cost) := by
              unfold Hid
              rw [HV4.out, List.getD_eq_getElem?_getD, List.getElem?_eq_getElem h0C, Option.getD_some]
              exact ⟨fun h => h.2, fun h => ⟨HALL.out, h⟩⟩
            generalize m.proof[0].cost = c0 at *
            have u1 : (0 : Int) < (m.proof.length : Int) := by omega
            clear hrow
            by_cases hc : c0 = m.cost
            · have g8' := ibeqT hc
              have HT : Hid (decide (verifyP x y m) = true) := decide_eq_true (HV5.out.2 hc)
              clear hc
              go_wp2_with fail
              go_quiet (fail)
              go_wp2_with fail
              go_ret
              exact ⟨by rw [HT.out]; rfl, BWR.out.drewN _⟩
            · have g8' := ibeqF hc
              have HT : Hid (decide (verifyP x y m) = false) := decide_eq_false (fun hs => hc (HV5.out.1 hs))
              clear hc
              go_wp2_with fail
              go_quiet (fail)
              go_wp2_with fail
              go_ret
              exact ⟨by rw [HT.out]; rfl, BWR.out.drewN _⟩
end Go.Proofs.Ytfifbadepebpeaa
