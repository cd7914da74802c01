/- light; what a certificate proves; the walk of MatchingProves. -/
import Derived.Test.YtfifbadepebpeaaAy
import Derived.Test.YtfifbadepebpeaaBd
namespace Go.Proofs.Ytfifbadepebpeaa
open Go.RowKit

def lightB (a b : Tree) : Bool := decide (a.size ≤ 120) && decide (b.size ≤ 120)

set_option maxRecDepth 100000 in
set_option maxHeartbeats 1000000 in
theorem light_any (h : Hp) (w : World) (hi : Imm h w) (va vb : Value) (a b : Tree) (ha : TreeV h va a) (hb : TreeV h vb b) (sa : a.size ≤ 1000000000) (sb : b.size ≤ 1000000000) :
    Calls Try.prog 10 #[va, vb] w fun e w' => e = .returned (.bool (lightB a b)) ∧ Below w.heap.size w w' := by
  have HTA := Lib.hid ha
  have HTB := Lib.hid hb
  have HI := Lib.hid hi
  obtain ⟨al, cl, ak, ck, ys, rfl, hk, hll, hkl, -, -, -⟩ := ha.open
  obtain ⟨bl, dl, bk, dk, yt, rfl, hk', hll', hkl', -, -, -⟩ := hb.open
  clear hi ha hb
  go_enter Try.func10, Try.ntmps10
  go_wp2_with fail
  refine (rsize_any a.size h _ ((HI.out.alloc _).alloc _) _ a HTA.out (Nat.le_refl _) sa).mono ?_
  rintro e w1 ⟨rfl, hb1⟩
  have z1 : w.heap.size + 2 ≤ w1.heap.size := by have := hb1.size; simp at this; omega
  have B1 : Hid (Below w.heap.size w w1) := (((Below.refl _ _).alloc (Nat.le_refl _) _).alloc (by simp) _).trans (hb1.mono (by simp; omega))
  have hbx : Hid (∀ i, w1.cell? ⟨w.heap.size + 1, i, none⟩ = (#[.int .i64 b.kind, .string b.text, .slice bl b.leads.length dl, .slice bk b.kids.length dk] : Array Value)[i]?) := fun i => by
    rw [hb1.cell (by simp), World.cell?_alloc_at _ _ _ _ (by simp)]
  have c0 : w1.cell? ⟨w.heap.size + 1, 0, none⟩ = some (.int .i64 b.kind) := hbx.out 0
  have c1 : w1.cell? ⟨w.heap.size + 1, 1, none⟩ = some (.string b.text) := hbx.out 1
  have c2 : w1.cell? ⟨w.heap.size + 1, 2, none⟩ = some (.slice bl b.leads.length dl) := hbx.out 2
  have c3 : w1.cell? ⟨w.heap.size + 1, 3, none⟩ = some (.slice bk b.kids.length dk) := hbx.out 3
  clear hb1
  by_cases h1 : a.size ≤ 120
  · go_wp2_with fail
    refine (rsize_any b.size h _ (HI.out.below B1.out) _ b HTB.out (Nat.le_refl _) sb).mono ?_
    rintro e w2 ⟨rfl, hb2⟩
    have B2 : Hid (Below w.heap.size w w2) := B1.out.trans (hb2.mono (by omega))
    clear hb2
    by_cases h2 : b.size ≤ 120
    · go_wp2_with fail
      go_ret
      exact ⟨by simp [lightB, h1, h2]; try omega, B2.out⟩
    · go_wp2_with fail
      go_ret
      exact ⟨by simp [lightB, h2]; try omega, B2.out⟩
  · have g1 : decide (a.size ≤ 120) = false := by simpa using h1
    go_wp2_with fail
    go_ret
    exact ⟨by simp [lightB, g1]; try omega, B1.out⟩

theorem first_key {x y : List NodeP} {l : List (Int × Int)} (g : Good x y (kp x y) l l.length) : ∃ r, sortP l = (0, 0) :: r := by
  have hs := sortP_sorted g.nodup
  have h0 : (0, 0) ∈ sortP l := sortP_mem.2 (good_closed g).1
  cases hl : sortP l with
  | nil => rw [hl] at h0; simp at h0
  | cons p r =>
    rw [hl] at hs h0
    rcases List.mem_cons.1 h0 with h0 | h0
    · exact ⟨r, by rw [h0]⟩
    · have hlt := (List.pairwise_cons.1 hs).1 _ h0
      have hp : p ∈ l := sortP_mem.1 (by rw [hl]; simp)
      have := g.inr p hp
      unfold ltP at hlt
      unfold InR at this
      simp only at hlt
      omega

theorem proves_plain {x y : List NodeP} (hx : WF x) (hy : WF y) {m : MatchP} (hv : verifyP x y m) (hp : m.proven = true) {pairs : List (Int × Int)} {c : Int} (hc : priceP x y pairs = some c) : m.cost ≤ c := by
  obtain ⟨h1, _, h3⟩ := hv
  obtain ⟨_, h4⟩ := h3 hp
  by_cases hk : (nd x 0).kind = (nd y 0).kind
  · rw [if_pos hk] at h4
    obtain ⟨k1, k2, k3⟩ := h4
    cases hb : cmpB x y m.proof.length with
    | none => rw [hb] at k1; cases k1
    | some l =>
      rw [hb] at k1
      simp only [Option.map_some, Option.some.injEq] at k1
      have g := (cmpB_good hx hy hb).1
      obtain ⟨r, hr⟩ := first_key g
      have hle := least_of hx hy m.proof l g (fun q => by rw [← k1]; exact sortP_mem) k2 pairs c hc
      have : dget m.proof (0, 0) = m.cost := by
        rw [← k3]
        cases hpf : m.proof with
        | nil => rw [hpf, hr] at k1; simp at k1
        | cons e es =>
          rw [hpf, hr] at k1
          simp only [List.map_cons, List.cons.injEq] at k1
          rw [dget_cons, if_pos k1.1]; rfl
      omega
  · rw [if_neg hk] at h4
    rw [h4.2] at h1
    cases pairs with
    | nil =>
      rw [h1] at hc
      have := Option.some.inj hc
      omega
    | cons p ps =>
      exfalso
      unfold priceP at hc
      rw [priceGo] at hc
      split at hc
      · rename_i ok
        have h0 : p = (0, 0) := ok.2.2.2.2.2.1.2 rfl
        subst h0
        exact hk ok.2.2.2.2.1
      · cases hc

set_option maxRecDepth 100000 in
set_option maxHeartbeats 4000000 in
theorem proves_any (h : Hp) (w : World) (hi : Imm h w) (va vb vm vp : Value) (a b : Tree) (m : MatchP) (pairs : List (Int × Int)) (ha : TreeV h va a) (hb : TreeV h vb b) (hm : MatchV h vm m) (hp : Prs h vp pairs) (sa : a.size ≤ 1048576) (sb : b.size ≤ 1048576) :
    Calls Try.prog 9 #[va, vb, vm, vp] w fun e w' => e = .returned (.bool true) ∧ Below w.heap.size w w' := by
  have HTA := Lib.hid ha
  have HTB := Lib.hid hb
  have HI := Lib.hid hi
  have HM := Lib.hid hm
  have HP := Lib.hid hp
  obtain ⟨al, cl, ak, ck, ys, rfl, hk, hll, hkl, -, -, -⟩ := ha.open
  obtain ⟨bl, dl, bk, dk, yt, rfl, hk', hll', hkl', -, -, -⟩ := hb.open
  obtain ⟨am, cm, ar, cr, rfl, i1, i2, hpm, hrm⟩ := hm
  obtain ⟨ap, cp, rfl, hpn, -⟩ := hp.open
  have hpl := hpm.1.len.1
  have hrl : m.proof.length ≤ 140737488355328 := by obtain ⟨_, s, _⟩ := hrm; exact s.len.1
  clear hi ha hb hp hpm hrm
  generalize hlb : lightB a b = lb
  have HLB := Lib.hid hlb
  clear hlb
  go_enter Try.func9, Try.ntmps9
  go_upto_region 1 with fail
  have I0 : Hid (Imm h (((w.alloc (Obj.cells #[.int .i64 a.kind, .string a.text, .slice al a.leads.length cl, .slice ak a.kids.length ck] 25)).alloc (Obj.cells #[.int .i64 b.kind, .string b.text, .slice bl b.leads.length dl, .slice bk b.kids.length dk] 25)).alloc (Obj.cells #[.slice am m.pairs.length cm, .int .i64 m.cost, .bool m.proven, .int .i64 m.bound, .slice ar m.proof.length cr] 32))) := ((HI.out.alloc _).alloc _).alloc _
  go_wp2_with fail
  refine (light_any h _ I0.out _ _ a b HTA.out HTB.out (by omega) (by omega)).mono ?_
  rintro e w1 ⟨rfl, hb1⟩
  rw [HLB.out]
  have z1 : w.heap.size + 3 ≤ w1.heap.size := by have := hb1.size; simp at this; omega
  have B1 : Hid (Below w.heap.size w w1) := ((((Below.refl _ _).alloc (Nat.le_refl _) _).alloc (by simp) _).alloc (by simp; omega) _).trans (hb1.mono (by simp; omega))
  have X1 : Hid (Has w1 w.heap.size #[.int .i64 a.kind, .string a.text, .slice al a.leads.length cl, .slice ak a.kids.length ck]) := (((Has.new w _ _).alloc _).alloc _).below hb1
  have X2 : Hid (Has w1 (w.heap.size + 1) #[.int .i64 b.kind, .string b.text, .slice bl b.leads.length dl, .slice bk b.kids.length dk]) := ((Has.new1 w _ _ _).alloc _).below hb1
  have X3 : Hid (Has w1 (w.heap.size + 2) #[.slice am m.pairs.length cm, .int .i64 m.cost, .bool m.proven, .int .i64 m.bound, .slice ar m.proof.length cr]) := by
    have := (Has.new1 (w.alloc (Obj.cells #[.int .i64 a.kind, .string a.text, .slice al a.leads.length cl, .slice ak a.kids.length ck] 25)) (Obj.cells #[.int .i64 b.kind, .string b.text, .slice bl b.leads.length dl, .slice bk b.kids.length dk] 25) #[.slice am m.pairs.length cm, .int .i64 m.cost, .bool m.proven, .int .i64 m.bound, .slice ar m.proof.length cr] 32).below hb1
    have e : (w.alloc (Obj.cells #[.int .i64 a.kind, .string a.text, .slice al a.leads.length cl, .slice ak a.kids.length ck] 25)).heap.size + 1 = w.heap.size + 2 := by simp
    rw [e] at this
    exact this
  have I1 := Lib.hid (I0.out.below hb1)
  have a0 : w1.cell? ⟨w.heap.size, 0, none⟩ = some (.int .i64 a.kind) := X1.out.cl 0
  have a1 : w1.cell? ⟨w.heap.size, 1, none⟩ = some (.string a.text) := X1.out.cl 1
  have a2 : w1.cell? ⟨w.heap.size, 2, none⟩ = some (.slice al a.leads.length cl) := X1.out.cl 2
  have a3 : w1.cell? ⟨w.heap.size, 3, none⟩ = some (.slice ak a.kids.length ck) := X1.out.cl 3
  have b0 : w1.cell? ⟨w.heap.size + 1, 0, none⟩ = some (.int .i64 b.kind) := X2.out.cl 0
  have b1 : w1.cell? ⟨w.heap.size + 1, 1, none⟩ = some (.string b.text) := X2.out.cl 1
  have b2 : w1.cell? ⟨w.heap.size + 1, 2, none⟩ = some (.slice bl b.leads.length dl) := X2.out.cl 2
  have b3 : w1.cell? ⟨w.heap.size + 1, 3, none⟩ = some (.slice bk b.kids.length dk) := X2.out.cl 3
  have m0 : w1.cell? ⟨w.heap.size + 2, 0, none⟩ = some (.slice am m.pairs.length cm) := X3.out.cl 0
  have m1 : w1.cell? ⟨w.heap.size + 2, 1, none⟩ = some (.int .i64 m.cost) := X3.out.cl 1
  have m2 : w1.cell? ⟨w.heap.size + 2, 2, none⟩ = some (.bool m.proven) := X3.out.cl 2
  have m3 : w1.cell? ⟨w.heap.size + 2, 3, none⟩ = some (.int .i64 m.bound) := X3.out.cl 3
  have m4 : w1.cell? ⟨w.heap.size + 2, 4, none⟩ = some (.slice ar m.proof.length cr) := X3.out.cl 4
  clear hb1
  have FIN : Hid (∀ W, Below w.heap.size w W → ∀ W', Below W.heap.size W W' → Below w.heap.size w W') := fun W h1 W' h2 => h1.trans (h2.mono h1.size)
  cases lb
  · go_wp2_with fail
    refine (awake_any _).mono ?_
    rintro e w2 ⟨rfl, hb2⟩
    have B2 := Lib.hid (FIN.out _ B1.out _ hb2)
    clear hb2
    go_wp2_with fail
    go_ret
    exact ⟨rfl, B2.out⟩
  have hsz : a.size ≤ 262144 ∧ b.size ≤ 262144 := by
    have := HLB.out
    unfold lightB at this
    simp only [Bool.and_eq_true, decide_eq_true_eq] at this
    omega
  by_cases h1 : 60 < m.pairs.length
  · go_wp2_with fail
    refine (awake_any _).mono ?_
    rintro e w2 ⟨rfl, hb2⟩
    have B2 := Lib.hid (FIN.out _ B1.out _ hb2)
    clear hb2
    go_wp2_with fail
    go_ret
    exact ⟨rfl, B2.out⟩
  have g1 : decide (60 < m.pairs.length) = false := by simpa using h1
  by_cases h2 : 60 < m.proof.length
  · go_wp2_with fail
    refine (awake_any _).mono ?_
    rintro e w2 ⟨rfl, hb2⟩
    have B2 := Lib.hid (FIN.out _ B1.out _ hb2)
    clear hb2
    go_wp2_with fail
    go_ret
    exact ⟨rfl, B2.out⟩
  have g2 : decide (60 < m.proof.length) = false := by simpa using h2
  by_cases h3 : 60 < pairs.length
  · go_wp2_with fail
    refine (awake_any _).mono ?_
    rintro e w2 ⟨rfl, hb2⟩
    have B2 := Lib.hid (FIN.out _ B1.out _ hb2)
    clear hb2
    go_wp2_with fail
    go_ret
    exact ⟨rfl, B2.out⟩
  have g3 : decide (60 < pairs.length) = false := by simpa using h3
  generalize hpv : m.proven = pv at *
  have HPV := Lib.hid hpv
  clear hpv
  cases pv
  · go_wp2_with fail
    refine (awake_any _).mono ?_
    rintro e w2 ⟨rfl, hb2⟩
    have B2 := Lib.hid (FIN.out _ B1.out _ hb2)
    clear hb2
    go_wp2_with fail
    go_ret
    exact ⟨rfl, B2.out⟩
  have HMV : Hid (MatchV h (.agg #[.slice am m.pairs.length cm, .int .i64 m.cost, .bool true, .int .i64 m.bound, .slice ar m.proof.length cr]) m) := HM.out
  generalize hvr : decide (verifyP (flatP a) (flatP b) m) = vr
  have HVR := Lib.hid hvr
  clear hvr
  go_wp2_with fail
  refine (mverify_any h _ I1.out _ _ _ a b m HTA.out HTB.out hsz.1 hsz.2 HMV.out).mono ?_
  rintro e w2 ⟨rfl, hb2⟩
  rw [HVR.out]
  have B2 := Lib.hid (FIN.out _ B1.out _ hb2)
  cases vr
  · clear hb2
    go_wp2_with fail
    refine (awake_any _).mono ?_
    rintro e w3 ⟨rfl, hb3⟩
    have B3 := Lib.hid (FIN.out _ B2.out _ hb3)
    clear hb3
    go_wp2_with fail
    go_ret
    exact ⟨rfl, B3.out⟩
  have I2 := Lib.hid (I1.out.below hb2)
  have Y1 := Lib.hid (X1.out.below hb2)
  have Y2 := Lib.hid (X2.out.below hb2)
  have Y3 := Lib.hid (X3.out.below hb2)
  have c0 : w2.cell? ⟨w.heap.size, 0, none⟩ = some (.int .i64 a.kind) := Y1.out.cl 0
  have c1 : w2.cell? ⟨w.heap.size, 1, none⟩ = some (.string a.text) := Y1.out.cl 1
  have c2 : w2.cell? ⟨w.heap.size, 2, none⟩ = some (.slice al a.leads.length cl) := Y1.out.cl 2
  have c3 : w2.cell? ⟨w.heap.size, 3, none⟩ = some (.slice ak a.kids.length ck) := Y1.out.cl 3
  have d0 : w2.cell? ⟨w.heap.size + 1, 0, none⟩ = some (.int .i64 b.kind) := Y2.out.cl 0
  have d1 : w2.cell? ⟨w.heap.size + 1, 1, none⟩ = some (.string b.text) := Y2.out.cl 1
  have d2 : w2.cell? ⟨w.heap.size + 1, 2, none⟩ = some (.slice bl b.leads.length dl) := Y2.out.cl 2
  have d3 : w2.cell? ⟨w.heap.size + 1, 3, none⟩ = some (.slice bk b.kids.length dk) := Y2.out.cl 3
  clear hb2
  have HPL : Hid (∀ c, priceP (flatP a) (flatP b) pairs = some c → m.cost ≤ c) := fun c hc => proves_plain (flatP_wf a) (flatP_wf b) (of_decide_eq_true HVR.out) HPV.out hc
  generalize hpr : priceP (flatP a) (flatP b) pairs = pr
  have HPR := Lib.hid hpr
  clear hpr
  go_wp2_with fail
  refine (mcost_any h _ I2.out _ _ _ a b pairs HTA.out HTB.out hsz.1 hsz.2 HP.out).mono ?_
  rintro e w3 ⟨rfl, hb3⟩
  rw [HPR.out]
  have B3 := Lib.hid (FIN.out _ B2.out _ hb3)
  have Z3 := Lib.hid (Y3.out.below hb3)
  clear hb3
  go_wp2_with fail
  refine (awake_any _).mono ?_
  rintro e w4 ⟨rfl, hb4⟩
  have B4 := Lib.hid (FIN.out _ B3.out _ hb4)
  have Z4 := Lib.hid (Z3.out.below hb4)
  have f1 : w4.cell? ⟨w.heap.size + 2, 1, none⟩ = some (.int .i64 m.cost) := Z4.out.cl 1
  clear hb4
  cases pr with
  | none =>
    simp only [Option.getD_none, Option.isSome_none]
    go_wp2_with fail
    go_ret
    exact ⟨rfl, B4.out⟩
  | some c =>
    have hcc : m.cost ≤ c := HPL.out c HPR.out
    simp only [Option.getD_some, Option.isSome_some]
    go_wp2_with fail
    go_ret
    exact ⟨rfl, B4.out⟩
end Go.Proofs.Ytfifbadepebpeaa
