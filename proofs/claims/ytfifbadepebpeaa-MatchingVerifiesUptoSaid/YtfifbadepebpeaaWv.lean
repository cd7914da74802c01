/- matching.Verify and matching.Cost. -/
import Derived.Test.YtfifbadepebpeaaWu
namespace Go.Proofs.Ytfifbadepebpeaa
open Go.RowKit

set_option maxRecDepth 100000 in
set_option maxHeartbeats 4000000 in
theorem mverify_any (h : Hp) (w : World) (hi : Imm h w) (va vb vm : Value) (a b : Tree) (m : MatchP) (ha : TreeV h va a) (hbT : TreeV h vb b) (sa : a.size ≤ 262144) (sb : b.size ≤ 262144) (hm : MatchV h vm m) :
    Calls Try.prog 18 #[va, vb, vm] w (VerRes w (decide (verifyP (flatP a) (flatP b) m))) := by
  have HM := Lib.hid hm
  obtain ⟨ap, cp, ar, cr, rfl, i1, i2, hpm, hrm⟩ := hm
  have HP := Lib.hid hpm
  have hpn : m.proof.length ≤ 140737488355328 := by obtain ⟨_, s, _⟩ := hrm; exact s.len.1
  have hpn2 : m.pairs.length ≤ 140737488355328 := hpm.1.len.1
  clear hpm hrm
  have HTA := Lib.hid ha
  have HTB := Lib.hid hbT
  have HI := Lib.hid hi
  have WX := Lib.hid (flatP_wf a)
  have WY := Lib.hid (flatP_wf b)
  have px := WX.out.pos
  have py := WY.out.pos
  have sx : (flatP a).length ≤ 262144 := by rw [flatP_length]; exact sa
  have sy : (flatP b).length ≤ 262144 := by rw [flatP_length]; exact sb
  have SA := Lib.hid sa
  have SB := Lib.hid sb
  obtain ⟨al, cl, ak, ck, ys, rfl, hk, hll, hkl, -, -, -⟩ := ha.open
  obtain ⟨bl, dl, bk, dk, yt, rfl, hk', hll', hkl', -, -, -⟩ := hbT.open
  clear hi ha hbT sa sb
  go_enter Try.func18, Try.ntmps18
  go_upto_region 1 with fail
  have a0 : (((w.alloc (Obj.cells #[.int .i64 a.kind, .string a.text, .slice al a.leads.length cl, .slice ak a.kids.length ck] 25)).alloc (Obj.cells #[.int .i64 b.kind, .string b.text, .slice bl b.leads.length dl, .slice bk b.kids.length dk] 25)).alloc (Obj.cells #[.slice ap m.pairs.length cp, .int .i64 m.cost, .bool m.proven, .int .i64 m.bound, .slice ar m.proof.length cr] 32)).cell? ⟨w.heap.size, 0, none⟩ = some (.int .i64 a.kind) := by rw [World.cell?_alloc_past _ _ _ (by simp; omega), World.cell?_alloc_past _ _ _ (by simp), World.cell?_alloc_at _ _ _ _ rfl]; rfl
  have a1 : (((w.alloc (Obj.cells #[.int .i64 a.kind, .string a.text, .slice al a.leads.length cl, .slice ak a.kids.length ck] 25)).alloc (Obj.cells #[.int .i64 b.kind, .string b.text, .slice bl b.leads.length dl, .slice bk b.kids.length dk] 25)).alloc (Obj.cells #[.slice ap m.pairs.length cp, .int .i64 m.cost, .bool m.proven, .int .i64 m.bound, .slice ar m.proof.length cr] 32)).cell? ⟨w.heap.size, 1, none⟩ = some (.string a.text) := by rw [World.cell?_alloc_past _ _ _ (by simp; omega), World.cell?_alloc_past _ _ _ (by simp), World.cell?_alloc_at _ _ _ _ rfl]; rfl
  have a2 : (((w.alloc (Obj.cells #[.int .i64 a.kind, .string a.text, .slice al a.leads.length cl, .slice ak a.kids.length ck] 25)).alloc (Obj.cells #[.int .i64 b.kind, .string b.text, .slice bl b.leads.length dl, .slice bk b.kids.length dk] 25)).alloc (Obj.cells #[.slice ap m.pairs.length cp, .int .i64 m.cost, .bool m.proven, .int .i64 m.bound, .slice ar m.proof.length cr] 32)).cell? ⟨w.heap.size, 2, none⟩ = some (.slice al a.leads.length cl) := by rw [World.cell?_alloc_past _ _ _ (by simp; omega), World.cell?_alloc_past _ _ _ (by simp), World.cell?_alloc_at _ _ _ _ rfl]; rfl
  have a3 : (((w.alloc (Obj.cells #[.int .i64 a.kind, .string a.text, .slice al a.leads.length cl, .slice ak a.kids.length ck] 25)).alloc (Obj.cells #[.int .i64 b.kind, .string b.text, .slice bl b.leads.length dl, .slice bk b.kids.length dk] 25)).alloc (Obj.cells #[.slice ap m.pairs.length cp, .int .i64 m.cost, .bool m.proven, .int .i64 m.bound, .slice ar m.proof.length cr] 32)).cell? ⟨w.heap.size, 3, none⟩ = some (.slice ak a.kids.length ck) := by rw [World.cell?_alloc_past _ _ _ (by simp; omega), World.cell?_alloc_past _ _ _ (by simp), World.cell?_alloc_at _ _ _ _ rfl]; rfl
  have b0 : (((w.alloc (Obj.cells #[.int .i64 a.kind, .string a.text, .slice al a.leads.length cl, .slice ak a.kids.length ck] 25)).alloc (Obj.cells #[.int .i64 b.kind, .string b.text, .slice bl b.leads.length dl, .slice bk b.kids.length dk] 25)).alloc (Obj.cells #[.slice ap m.pairs.length cp, .int .i64 m.cost, .bool m.proven, .int .i64 m.bound, .slice ar m.proof.length cr] 32)).cell? ⟨w.heap.size + 1, 0, none⟩ = some (.int .i64 b.kind) := by rw [World.cell?_alloc_past _ _ _ (by simp), World.cell?_alloc_at _ _ _ _ (by simp)]; rfl
  have b1 : (((w.alloc (Obj.cells #[.int .i64 a.kind, .string a.text, .slice al a.leads.length cl, .slice ak a.kids.length ck] 25)).alloc (Obj.cells #[.int .i64 b.kind, .string b.text, .slice bl b.leads.length dl, .slice bk b.kids.length dk] 25)).alloc (Obj.cells #[.slice ap m.pairs.length cp, .int .i64 m.cost, .bool m.proven, .int .i64 m.bound, .slice ar m.proof.length cr] 32)).cell? ⟨w.heap.size + 1, 1, none⟩ = some (.string b.text) := by rw [World.cell?_alloc_past _ _ _ (by simp), World.cell?_alloc_at _ _ _ _ (by simp)]; rfl
  have b2 : (((w.alloc (Obj.cells #[.int .i64 a.kind, .string a.text, .slice al a.leads.length cl, .slice ak a.kids.length ck] 25)).alloc (Obj.cells #[.int .i64 b.kind, .string b.text, .slice bl b.leads.length dl, .slice bk b.kids.length dk] 25)).alloc (Obj.cells #[.slice ap m.pairs.length cp, .int .i64 m.cost, .bool m.proven, .int .i64 m.bound, .slice ar m.proof.length cr] 32)).cell? ⟨w.heap.size + 1, 2, none⟩ = some (.slice bl b.leads.length dl) := by rw [World.cell?_alloc_past _ _ _ (by simp), World.cell?_alloc_at _ _ _ _ (by simp)]; rfl
  have b3 : (((w.alloc (Obj.cells #[.int .i64 a.kind, .string a.text, .slice al a.leads.length cl, .slice ak a.kids.length ck] 25)).alloc (Obj.cells #[.int .i64 b.kind, .string b.text, .slice bl b.leads.length dl, .slice bk b.kids.length dk] 25)).alloc (Obj.cells #[.slice ap m.pairs.length cp, .int .i64 m.cost, .bool m.proven, .int .i64 m.bound, .slice ar m.proof.length cr] 32)).cell? ⟨w.heap.size + 1, 3, none⟩ = some (.slice bk b.kids.length dk) := by rw [World.cell?_alloc_past _ _ _ (by simp), World.cell?_alloc_at _ _ _ _ (by simp)]; rfl
  have M0 : Hid (∀ i, (((w.alloc (Obj.cells #[.int .i64 a.kind, .string a.text, .slice al a.leads.length cl, .slice ak a.kids.length ck] 25)).alloc (Obj.cells #[.int .i64 b.kind, .string b.text, .slice bl b.leads.length dl, .slice bk b.kids.length dk] 25)).alloc (Obj.cells #[.slice ap m.pairs.length cp, .int .i64 m.cost, .bool m.proven, .int .i64 m.bound, .slice ar m.proof.length cr] 32)).cell? ⟨w.heap.size + 2, i, none⟩ = (#[.slice ap m.pairs.length cp, .int .i64 m.cost, .bool m.proven, .int .i64 m.bound, .slice ar m.proof.length cr] : Array Value)[i]?) := fun i => by rw [World.cell?_alloc_at _ _ _ _ (by simp)]
  have S0 : Hid (St w.heap.size h w h (((w.alloc (Obj.cells #[.int .i64 a.kind, .string a.text, .slice al a.leads.length cl, .slice ak a.kids.length ck] 25)).alloc (Obj.cells #[.int .i64 b.kind, .string b.text, .slice bl b.leads.length dl, .slice bk b.kids.length dk] 25)).alloc (Obj.cells #[.slice ap m.pairs.length cp, .int .i64 m.cost, .bool m.proven, .int .i64 m.bound, .slice ar m.proof.length cr] 32))) := (((St.refl HI.out).alloc _).alloc _).alloc _
  have z0 : (((w.alloc (Obj.cells #[.int .i64 a.kind, .string a.text, .slice al a.leads.length cl, .slice ak a.kids.length ck] 25)).alloc (Obj.cells #[.int .i64 b.kind, .string b.text, .slice bl b.leads.length dl, .slice bk b.kids.length dk] 25)).alloc (Obj.cells #[.slice ap m.pairs.length cp, .int .i64 m.cost, .bool m.proven, .int .i64 m.bound, .slice ar m.proof.length cr] 32)).heap.size = w.heap.size + 3 := by simp
  generalize hW0 : ((w.alloc (Obj.cells #[.int .i64 a.kind, .string a.text, .slice al a.leads.length cl, .slice ak a.kids.length ck] 25)).alloc (Obj.cells #[.int .i64 b.kind, .string b.text, .slice bl b.leads.length dl, .slice bk b.kids.length dk] 25)).alloc (Obj.cells #[.slice ap m.pairs.length cp, .int .i64 m.cost, .bool m.proven, .int .i64 m.bound, .slice ar m.proof.length cr] 32) = w0 at *
  clear hW0
  have l1 : w.heap.size < w0.heap.size := by omega
  have l2 : w.heap.size + 1 < w0.heap.size := by omega
  have l3 : w.heap.size + 2 < w0.heap.size := by omega
  clear z0
  go_region_held3 (fun w' => w'.cell? ⟨w.heap.size, 0, none⟩ = some (.int .i64 a.kind) ∧ w'.cell? ⟨w.heap.size, 1, none⟩ = some (.string a.text) ∧ w'.cell? ⟨w.heap.size, 2, none⟩ = some (.slice al a.leads.length cl) ∧ w'.cell? ⟨w.heap.size, 3, none⟩ = some (.slice ak a.kids.length ck) ∧ w'.cell? ⟨w.heap.size + 1, 0, none⟩ = some (.int .i64 b.kind) ∧ w'.cell? ⟨w.heap.size + 1, 1, none⟩ = some (.string b.text) ∧ w'.cell? ⟨w.heap.size + 1, 2, none⟩ = some (.slice bl b.leads.length dl) ∧ w'.cell? ⟨w.heap.size + 1, 3, none⟩ = some (.slice bk b.kids.length dk))
    (first | go_keep | exact ⟨(F1.below.cell (p := ⟨w.heap.size, 0, none⟩) l1).trans a0, (F1.below.cell (p := ⟨w.heap.size, 1, none⟩) l1).trans a1, (F1.below.cell (p := ⟨w.heap.size, 2, none⟩) l1).trans a2, (F1.below.cell (p := ⟨w.heap.size, 3, none⟩) l1).trans a3, (F1.below.cell (p := ⟨w.heap.size + 1, 0, none⟩) l2).trans b0, (F1.below.cell (p := ⟨w.heap.size + 1, 1, none⟩) l2).trans b1, (F1.below.cell (p := ⟨w.heap.size + 1, 2, none⟩) l2).trans b2, (F1.below.cell (p := ⟨w.heap.size + 1, 3, none⟩) l2).trans b3⟩ | exact ⟨(F2.below.cell (p := ⟨w.heap.size, 0, none⟩) (Nat.lt_of_lt_of_le l1 zz1)).trans ((F1.below.cell (p := ⟨w.heap.size, 0, none⟩) l1).trans a0), (F2.below.cell (p := ⟨w.heap.size, 1, none⟩) (Nat.lt_of_lt_of_le l1 zz1)).trans ((F1.below.cell (p := ⟨w.heap.size, 1, none⟩) l1).trans a1), (F2.below.cell (p := ⟨w.heap.size, 2, none⟩) (Nat.lt_of_lt_of_le l1 zz1)).trans ((F1.below.cell (p := ⟨w.heap.size, 2, none⟩) l1).trans a2), (F2.below.cell (p := ⟨w.heap.size, 3, none⟩) (Nat.lt_of_lt_of_le l1 zz1)).trans ((F1.below.cell (p := ⟨w.heap.size, 3, none⟩) l1).trans a3), (F2.below.cell (p := ⟨w.heap.size + 1, 0, none⟩) (Nat.lt_of_lt_of_le l2 zz1)).trans ((F1.below.cell (p := ⟨w.heap.size + 1, 0, none⟩) l2).trans b0), (F2.below.cell (p := ⟨w.heap.size + 1, 1, none⟩) (Nat.lt_of_lt_of_le l2 zz1)).trans ((F1.below.cell (p := ⟨w.heap.size + 1, 1, none⟩) l2).trans b1), (F2.below.cell (p := ⟨w.heap.size + 1, 2, none⟩) (Nat.lt_of_lt_of_le l2 zz1)).trans ((F1.below.cell (p := ⟨w.heap.size + 1, 2, none⟩) l2).trans b2), (F2.below.cell (p := ⟨w.heap.size + 1, 3, none⟩) (Nat.lt_of_lt_of_le l2 zz1)).trans ((F1.below.cell (p := ⟨w.heap.size + 1, 3, none⟩) l2).trans b3)⟩)
    (first
      | (go_at_call 29; (with_reducible refine (flatten_any h _ (by exact S0.out.imm.drew) _ a HTA.out (by have := SA.out; omega)).mono ?_); rintro e w1 ⟨vx, h1, rfl, F1, NX⟩; have zz1 : w0.heap.size ≤ w1.heap.size := F1.below.size)
      | (go_at_call 29; (with_reducible refine (flatten_any h1 _ F1.imm _ b (HTB.out.mono F1.le) (by have := SB.out; omega)).mono ?_); rintro e w2 ⟨vy, h2, rfl, F2, NY⟩; have zz2 : w1.heap.size ≤ w2.heap.size := F2.below.size))
  have S2 := Lib.hid ((S0.out.drew.call F1).call F2)
  have NX' := Lib.hid (NX.mono F2.le)
  have NY' := Lib.hid NY
  have ZB : w.heap.size + 2 < w2.heap.size := by omega
  have MB : Hid (∀ W, Below w2.heap.size w2 W → ∀ i, W.cell? ⟨w.heap.size + 2, i, none⟩ = (#[.slice ap m.pairs.length cp, .int .i64 m.cost, .bool m.proven, .int .i64 m.bound, .slice ar m.proof.length cr] : Array Value)[i]?) := fun W hW i => by
    rw [hW.cell ZB, F2.below.cell (by show w.heap.size + 2 < _; omega), F1.below.cell l3]
    exact M0.out i
  have k0 : w2.cell? ⟨w.heap.size + 2, 0, none⟩ = some (.slice ap m.pairs.length cp) := MB.out _ (Below.refl _ _) 0
  have HPm : Hid (Prs h2 (.slice ap m.pairs.length cp) m.pairs) := (HP.out.mono F1.le).mono F2.le
  have HMm : Hid (MatchV h2 _ m) := (HM.out.mono F1.le).mono F2.le
  have px' := px
  generalize hfa : flatP a = x at *
  generalize hfb : flatP b = y at *
  have HFA := Lib.hid hfa
  have HFB := Lib.hid hfb
  generalize hpr : priceP x y m.pairs = pr
  have HPRC : Hid (priceP x y m.pairs = pr) := hpr
  clear F1 F2 NX NY a0 a1 a2 a3 b0 b1 b2 b3 M0 S0 hfa hfb hpr
  go_wp2_with fail
  refine (price_any h2 _ S2.out.imm _ _ _ x y m.pairs NX'.out NY'.out px py (by omega) (by omega) HPm.out).mono ?_
  rintro e w3 ⟨rfl, hb3⟩
  rw [HPRC.out]
  have B3 := Lib.hid hb3
  have z3 : w.heap.size + 2 < w3.heap.size := by have := hb3.size; omega
  have BW : Hid (Below w.heap.size w w3) := S2.out.below.trans (hb3.mono (by omega))
  have c1 : w3.cell? ⟨w.heap.size + 2, 1, none⟩ = some (.int .i64 m.cost) := MB.out _ hb3 1
  have c2 : w3.cell? ⟨w.heap.size + 2, 2, none⟩ = some (.bool m.proven) := MB.out _ hb3 2
  have c3 : w3.cell? ⟨w.heap.size + 2, 3, none⟩ = some (.int .i64 m.bound) := MB.out _ hb3 3
  have c4 : w3.cell? ⟨w.heap.size + 2, 4, none⟩ = some (.slice ar m.proof.length cr) := MB.out _ hb3 4
  have c0 : w3.cell? ⟨w.heap.size + 2, 0, none⟩ = some (.slice ap m.pairs.length cp) := MB.out _ hb3 0
  have I3 := Lib.hid (S2.out.imm.below hb3)
  have HVP : Hid (verifyP x y m ↔ priceP x y m.pairs = some m.cost ∧ m.bound ≤ m.cost ∧ (m.proven = true → m.bound = m.cost ∧ if (nd x 0).kind = (nd y 0).kind then provedP x y m else m.proof = [] ∧ m.pairs = [])) := by
    unfold Hid; exact Iff.rfl
  clear hb3 k0
  cases pr with
  | none =>
    simp only [Option.getD_none, Option.isSome_none]
    go_wp2_with fail
    go_ret
    exact ⟨by rw [decide_eq_false (p := verifyP x y m) (fun hs => by have := (HVP.out.1 hs).1; rw [HPRC.out] at this; cases this)]; rfl, BW.out⟩
  | some c =>
  simp only [Option.getD_some, Option.isSome_some]
  by_cases hc : c = m.cost
  case neg =>
    have g1 := ibneT hc
    have HN : Hid (c ≠ m.cost) := hc
    clear hc
    go_wp2_with fail
    go_ret
    exact ⟨by rw [decide_eq_false (p := verifyP x y m) (fun hs => by have := (HVP.out.1 hs).1; rw [HPRC.out] at this; exact HN.out (Option.some.inj this))]; rfl, BW.out⟩
  subst hc
  have g1 : (m.cost != m.cost) = false := by simp
  by_cases hb : m.cost < m.bound
  · go_wp2_with fail
    go_ret
    exact ⟨by rw [decide_eq_false (p := verifyP x y m) (fun hs => by have := (HVP.out.1 hs).2.1; omega)]; rfl, BW.out⟩
  have g2 : decide (m.cost < m.bound) = false := by simpa using hb
  have hb2 : m.bound ≤ m.cost := by omega
  generalize hpv : m.proven = pv at *
  have HPV := Lib.hid hpv
  clear hpv
  cases pv
  · go_wp2_with fail
    go_ret
    exact ⟨by rw [decide_eq_true (p := verifyP x y m) (HVP.out.2 ⟨HPRC.out, hb2, fun e => by cases e⟩)]; rfl, BW.out⟩
  by_cases hbc : m.bound = m.cost
  case neg =>
    have g3 := ibneT hbc
    have HN : Hid (m.bound ≠ m.cost) := hbc
    clear hbc
    go_wp2_with fail
    go_ret
    exact ⟨by rw [decide_eq_false (p := verifyP x y m) (fun hs => HN.out ((HVP.out.1 hs).2.2 (by first | rfl | trivial)).1)]; rfl, BW.out⟩
  have g3 := ibneF hbc
  have HBC := Lib.hid hbc
  clear hbc
  obtain ⟨bx, ox, cx, hxe, hxn, hxc⟩ := NX'.out.openI px
  subst hxe
  obtain ⟨by', oy, cy, hye, hyn, hyc⟩ := NY'.out.openI py
  subst hye
  obtain ⟨hbx, hxa⟩ := hxc w3 I3.out
  obtain ⟨hby, hya⟩ := hyc w3 I3.out
  obtain ⟨-, -, x0, -⟩ := hxa 0 (by omega) (by omega)
  obtain ⟨-, -, y0, -⟩ := hya 0 (by omega) (by omega)
  simp only [Int.toNat_zero, Nat.zero_mul, Nat.add_zero] at x0 y0
  have q1 : (0 : Int) < (x.length : Int) := by omega
  have q2 : (0 : Int) < (y.length : Int) := by omega
  clear hxc hyc hxa hya
  by_cases hkk : (nd x 0).kind = (nd y 0).kind
  · have g4 := ibneF hkk
    have HKK := Lib.hid hkk
    clear hkk
    have HMV : Hid (MatchV h2 (.agg #[.slice ap m.pairs.length cp, .int .i64 m.cost, .bool true, .int .i64 m.bound, .slice ar m.proof.length cr]) m) := HMm.out
    go_wp2_with fail
    go_quiet (fail)
    go_wp2_with fail
    refine (proved_any h2 _ (I3.out.drewN _) _ _ _ x y m NX'.out NY'.out WX.out WY.out HKK.out sx sy HMV.out).mono ?_
    rintro e w5 ⟨rfl, hb5⟩
    have B5 : Hid (Below w.heap.size w w5) := (BW.out.drewN _).trans (hb5.mono (by have := BW.out.size; exact this))
    have HVE : Hid (decide (provedP x y m) = decide (verifyP x y m)) := by
      unfold Hid
      rw [decide_eq_decide, HVP.out]
      constructor
      · intro hh; exact ⟨HPRC.out, hb2, fun _ => ⟨HBC.out, by rw [if_pos HKK.out]; exact hh⟩⟩
      · intro hh; have := (hh.2.2 (by first | rfl | trivial)).2; rw [if_pos HKK.out] at this; exact this
    clear hb5
    go_wp2_with fail
    go_ret
    exact ⟨by rw [← HVE.out]; rfl, B5.out⟩
  · have g4 := ibneT hkk
    have HKK : Hid (¬ (nd x 0).kind = (nd y 0).kind) := hkk
    clear hkk
    have HVE : Hid (verifyP x y m ↔ m.proof = [] ∧ m.pairs = []) := by
      unfold Hid
      rw [HVP.out]
      constructor
      · intro hh; have := (hh.2.2 (by first | rfl | trivial)).2; rw [if_neg HKK.out] at this; exact this
      · intro hh; exact ⟨HPRC.out, hb2, fun _ => ⟨HBC.out, by rw [if_neg HKK.out]; exact hh⟩⟩
    by_cases e1 : m.proof.length = 0
    · have g5 : ((m.proof.length : Int) == 0) = true := by simp [e1]
      have E1 : Hid (m.proof = []) := List.eq_nil_of_length_eq_zero e1
      clear e1
      by_cases e2 : m.pairs.length = 0
      · have g6 : ((m.pairs.length : Int) == 0) = true := by simp [e2]
        have E2 : Hid (m.pairs = []) := List.eq_nil_of_length_eq_zero e2
        clear e2
        go_wp2_with fail
        go_quiet (fail)
        go_wp2_with fail
        go_ret
        exact ⟨by rw [decide_eq_true (p := verifyP x y m) (HVE.out.2 ⟨E1.out, E2.out⟩)]; rfl, BW.out.drewN _⟩
      · have g6 : ((m.pairs.length : Int) == 0) = false := beqF e2
        have E2 : Hid (m.pairs ≠ []) := fun e => e2 (by rw [e]; rfl)
        clear e2
        go_wp2_with fail
        go_quiet (fail)
        go_wp2_with fail
        go_ret
        exact ⟨by rw [decide_eq_false (p := verifyP x y m) (fun hs => E2.out (HVE.out.1 hs).2)]; rfl, BW.out.drewN _⟩
    · have g5 : ((m.proof.length : Int) == 0) = false := beqF e1
      have E1 : Hid (m.proof ≠ []) := fun e => e1 (by rw [e]; rfl)
      clear e1
      go_wp2_with fail
      go_quiet (fail)
      go_wp2_with fail
      go_ret
      exact ⟨by rw [decide_eq_false (p := verifyP x y m) (fun hs => E1.out (HVE.out.1 hs).1)]; rfl, BW.out.drewN _⟩
end Go.Proofs.Ytfifbadepebpeaa
