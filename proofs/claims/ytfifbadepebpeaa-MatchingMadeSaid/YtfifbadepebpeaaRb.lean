/- The reference's Same of alignments. -/
import Derived.Test.YtfifbadepebpeaaBg
namespace Go.Proofs.Ytfifbadepebpeaa
open Go.RowKit

def alSame (a b : AlignP) : Bool := decide (a.pairs = b.pairs) && (decide (a.cost = b.cost) && decide (a.pot = b.pot))

theorem Rws.openI {h : Hp} {v : Value} {ls : List (List Int)} (hv : Rws h v ls) : ∃ a cap, v = .slice a ls.length cap ∧ ls.length ≤ 140737488355328 ∧
    (0 < ls.length → ∃ b off, a = some ⟨b, off, none⟩ ∧ ∀ w, Imm h w → b < w.heap.size ∧ ∀ k (hk : k < ls.length), ∃ ad cap', w.cell? ⟨b, off + k, none⟩ = some (.slice ad ls[k].length cap') ∧ Ints h (.slice ad ls[k].length cap') ls[k]) := by
  obtain ⟨cs, s, hr⟩ := hv
  obtain ⟨a, cap, rfl, hn⟩ := s.shape
  refine ⟨a, cap, rfl, hn, fun h0 => ?_⟩
  have hs := s
  obtain ⟨a', cap', he, h1, h2, h3⟩ := hs
  simp only [Value.slice.injEq, true_and] at he
  obtain ⟨rfl, rfl⟩ := he
  rcases h3 with h3 | ⟨b, off, c, rfl, hb, hc⟩
  · omega
  refine ⟨b, off, rfl, fun w hi => ⟨blk_lt (hi b c hb), fun k hk => ?_⟩⟩
  obtain ⟨b', off', hab, hb', hc'⟩ := s.cells hi h0
  simp only [Option.some.injEq, Addr.mk.injEq, and_true] at hab
  obtain ⟨rfl, rfl⟩ := hab
  obtain ⟨a1, ⟨ad, cap', rfl, hi'⟩, h3⟩ := hr.at 1 RowC.len k hk
  refine ⟨ad, cap', hc' _ _ ?_, hi'⟩
  have := h3 0 (by omega)
  simpa using this

set_option maxRecDepth 100000 in
set_option maxHeartbeats 2000000 in
theorem r17same_any (h : Hp) (w : World) (hi : Imm h w) (v u : Value) (a b : AlignP) (ha : AlignV h v a) (hb : AlignV h u b) :
    Calls Try.prog 28 #[v, u] w fun e w' => e = .returned (.bool (alSame a b)) ∧ Below w.heap.size w w' := by
  obtain ⟨cs, rfl, ap, cp, ar, cr, rfl, i1, hp, hr⟩ := ha
  obtain ⟨ds, rfl, bp, dp, br, dr, rfl, i2, hp', hr'⟩ := hb
  have HI := Lib.hid hi
  have HP := Lib.hid hp
  have HP' := Lib.hid hp'
  obtain ⟨ar', cr', e1, hrn, HR⟩ := hr.openI
  simp only [Value.slice.injEq, true_and] at e1
  obtain ⟨rfl, rfl⟩ := e1
  obtain ⟨br', dr', e1, hrn', HR'⟩ := hr'.openI
  simp only [Value.slice.injEq, true_and] at e1
  obtain ⟨rfl, rfl⟩ := e1
  have HR := Lib.hid HR
  have HR' := Lib.hid HR'
  clear hi hp hp' hr hr'
  go_enter Try.func28, Try.ntmps28
  go_wp2_with fail
  refine (samepairs_any h _ ((HI.out.alloc _).alloc _) _ _ _ _ HP.out HP'.out).mono ?_
  rintro e w1 ⟨rfl, hB1⟩
  have hz1 : w.heap.size + 2 ≤ w1.heap.size := by have := hB1.size; simp at this; omega
  have HB0 : Hid (Below w.heap.size w w1) := (((Below.refl _ _).alloc (Nat.le_refl _) _).alloc (by simp) _).trans (hB1.mono (by simp; omega))
  have hbx : ∀ W, Below (w.heap.size + 2) w1 W → (W.cell? ⟨w.heap.size, 1, none⟩ = some (.int .i64 a.cost) ∧ W.cell? ⟨w.heap.size, 2, none⟩ = some (.slice ar a.pot.length cr)) ∧ W.cell? ⟨w.heap.size + 1, 1, none⟩ = some (.int .i64 b.cost) ∧ W.cell? ⟨w.heap.size + 1, 2, none⟩ = some (.slice br b.pot.length dr) := fun W hW => by
    refine ⟨⟨?_, ?_⟩, ?_, ?_⟩
    · rw [hW.cell (by show w.heap.size < _; omega), hB1.cell (by simp; omega), World.cell?_alloc_past _ _ _ (by simp), World.cell?_alloc_at _ _ _ _ rfl]; rfl
    · rw [hW.cell (by show w.heap.size < _; omega), hB1.cell (by simp; omega), World.cell?_alloc_past _ _ _ (by simp), World.cell?_alloc_at _ _ _ _ rfl]; rfl
    · rw [hW.cell (by show w.heap.size + 1 < _; omega), hB1.cell (by simp), World.cell?_alloc_at _ _ _ _ (by simp)]; rfl
    · rw [hW.cell (by show w.heap.size + 1 < _; omega), hB1.cell (by simp), World.cell?_alloc_at _ _ _ _ (by simp)]; rfl
  obtain ⟨⟨k1, k2⟩, k3, k4⟩ := hbx w1 (Below.refl _ _)
  have HBX := Lib.hid hbx
  have I1 := Lib.hid (HI.out.below HB0.out)
  clear hbx hB1
  by_cases q1 : a.pairs = b.pairs
  case neg =>
    have g1 : prsB a.pairs b.pairs = false := by simp [prsB, q1]
    rw [g1]
    clear g1
    have HQ : Hid (a.pairs ≠ b.pairs) := q1
    clear q1
    go_wp2_with fail
    go_ret
    exact ⟨by simp [alSame, HQ.out], HB0.out⟩
  have g1 : prsB a.pairs b.pairs = true := by simp [prsB, q1]
  rw [g1]
  clear g1
  have HQ := Lib.hid q1
  clear q1
  by_cases q2 : a.cost = b.cost
  case neg =>
    have g2 := ibneT q2
    have HQ2 : Hid (a.cost ≠ b.cost) := q2
    clear q2
    go_wp2_with fail
    go_ret
    exact ⟨by simp [alSame, HQ2.out], HB0.out⟩
  have g2 := ibneF q2
  have HQ2 := Lib.hid q2
  clear q2
  by_cases q3 : a.pot.length = b.pot.length
  case neg =>
    have g3 := bneT q3
    have HQ3 : Hid (a.pot.length ≠ b.pot.length) := q3
    clear q3
    go_wp2_with fail
    go_ret
    exact ⟨by simp [alSame]; intro _ _ e; rw [e] at HQ3; exact HQ3.out rfl, HB0.out⟩
  have g3 := bneF q3
  have HQ3 := Lib.hid q3
  clear q3
  go_wp2_with fail
  go_loopw [4, 5, 6, 29, 30, 31, 32, 33, 34, 35, 36, 37, 38, 39, 40, 41, 42, 43, 44, 45, 46, 47, 48, 49, 50, 51, 52, 53, 54, 55, 56, 57, 58, 59, 60, 61, 62, 63, 64, 65, 66, 67, 68, 69, 70, 71, 72, 73, 74, 75] (fun _ i _ _ _ _ _ _ _ _ _ _ _ _ _ _ _ _ _ _ _ _ _ _ _ _ _ _ _ _ _ _ _ _ _ _ _ _ _ _ _ _ _ _ _ _ _ _ _ _ wr => ∃ k : Nat, k ≤ a.pot.length ∧ i = .int .i64 k ∧ Below w1.heap.size w1 wr ∧ Hid (a.pot.take k = b.pot.take k)) (fun _ i _ _ _ _ _ _ _ _ _ _ _ _ _ _ _ _ _ _ _ _ _ _ _ _ _ _ _ _ _ _ _ _ _ _ _ _ _ _ _ _ _ _ _ _ _ _ _ _ _ => a.pot.length - (intOf i).toNat)
  case atStart => exact ⟨0, Nat.zero_le _, rfl, Below.refl _ _, rfl⟩
  case round =>
    obtain ⟨wo, rfl⟩ : ∃ wo : World, wo = wr := ⟨_, rfl⟩
    obtain ⟨k, hk, rfl, hB, hT⟩ := hrel
    obtain ⟨⟨m1, m2⟩, m3, m4⟩ := HBX.out wo (hB.mono hz1)
    have IO := Lib.hid (I1.out.below hB)
    by_cases hlt : k < a.pot.length
    · have hlt' : k < b.pot.length := by have := HQ3.out; omega
      obtain ⟨ba, oa, rfl, hra⟩ := HR.out (by omega)
      obtain ⟨bb, ob, rfl, hrb⟩ := HR'.out (by omega)
      obtain ⟨aa, ca, ea, hia⟩ := (hra wo IO.out).2 k hlt
      obtain ⟨ab, cb, eb, hib⟩ := (hrb wo IO.out).2 k hlt'
      have HE := Lib.hid (fun e => take_succ_eq hlt hlt' hT.out e)
      have HN := Lib.hid (fun (e : a.pot = b.pot) => (by simp only [e] : a.pot[k] = b.pot[k]))
      have la := hia.1.len.1
      have lb := hib.1.len.1
      have HIA := Lib.hid hia
      have HIB := Lib.hid hib
      generalize a.pot[k] = ra at *
      generalize b.pot[k] = rb at *
      clear hra hrb hT hia hib
      have u1 : (0 : Int) ≤ (k : Int) := by omega
      have u2 : (k : Int) < (a.pot.length : Int) := by omega
      have u3 : (k : Int) < (b.pot.length : Int) := by omega
      by_cases ql : ra.length = rb.length
      case neg =>
        have g4 := bneT ql
        have HQL : Hid (ra.length ≠ rb.length) := ql
        clear ql
        go_wp2_with fail
        go_quiet (fail)
        go_wp2_with fail
        go_ret
        exact ⟨by simp [alSame]; intro _ _ e; have := HN.out e; rw [this] at HQL; exact HQL.out rfl, (HB0.out.trans (hB.mono (by omega))).drewN _⟩
      have g4 := bneF ql
      have HQL := Lib.hid ql
      clear ql
      go_wp2_with fail
      go_quiet (fail)
      go_wp2_with fail
      go_loopw [4, 6, 49, 50, 51, 52, 53, 54, 55, 56, 57, 58, 59, 60, 61, 62, 63, 64, 65, 66, 67, 68, 69, 70, 71, 72, 73, 74, 75] (fun _ i _ _ _ _ _ _ _ _ _ _ _ _ _ _ _ _ _ _ _ _ _ _ _ _ _ _ _ wr => ∃ q : Nat, q ≤ ra.length ∧ i = .int .i64 q ∧ Below wo.heap.size wo wr ∧ Hid (ra.take q = rb.take q)) (fun _ i _ _ _ _ _ _ _ _ _ _ _ _ _ _ _ _ _ _ _ _ _ _ _ _ _ _ _ _ => ra.length - (intOf i).toNat)
      case atStart => exact ⟨0, Nat.zero_le _, rfl, (Below.refl _ _).drewN _, rfl⟩
      case round =>
        obtain ⟨q, hq, rfl, hB2, hT2⟩ := hrel
        have hwo : w.heap.size + 2 ≤ wo.heap.size := by have := hB.size; omega
        have hB3 : Hid (Below w1.heap.size w1 wr) := hB.trans (hB2.mono hB.size)
        obtain ⟨⟨n1, n2⟩, n3, n4⟩ := HBX.out wr (hB3.out.mono hz1)
        have IW := Lib.hid (I1.out.below hB3.out)
        obtain ⟨ba', oa', e1, hra⟩ := HR.out (by omega)
        simp only [Option.some.injEq, Addr.mk.injEq, and_true] at e1
        obtain ⟨rfl, rfl⟩ := e1
        obtain ⟨bb', ob', e1, hrb⟩ := HR'.out (by omega)
        simp only [Option.some.injEq, Addr.mk.injEq, and_true] at e1
        obtain ⟨rfl, rfl⟩ := e1
        have ea2 : wr.cell? ⟨ba, oa + k, none⟩ = some (.slice aa ra.length ca) := by rw [hB2.cell (hra wo IO.out).1]; exact ea
        have eb2 : wr.cell? ⟨bb, ob + k, none⟩ = some (.slice ab rb.length cb) := by rw [hB2.cell (hrb wo IO.out).1]; exact eb
        by_cases hltq : q < ra.length
        · have hltq' : q < rb.length := by have := HQL.out; omega
          obtain ⟨aa', ca', e1, -, hca⟩ := HIA.out.open
          simp only [Value.slice.injEq, true_and] at e1
          obtain ⟨rfl, rfl⟩ := e1
          obtain ⟨b1, o1, rfl, -, hca⟩ := hca wr IW.out (by omega)
          have f1 := hca q hltq
          obtain ⟨ab', cb', e1, -, hcb⟩ := HIB.out.open
          simp only [Value.slice.injEq, true_and] at e1
          obtain ⟨rfl, rfl⟩ := e1
          obtain ⟨b2, o2, rfl, -, hcb⟩ := hcb wr IW.out (by omega)
          have f2 := hcb q hltq'
          have HE2 := Lib.hid (fun e => take_succ_eq hltq hltq' hT2.out e)
          have HN2 := Lib.hid (fun (e : ra = rb) => (by simp only [e] : ra[q] = rb[q]))
          generalize ra[q] = za at *
          generalize rb[q] = zb at *
          clear hra hrb hca hcb hT2
          have v1 : (0 : Int) ≤ (q : Int) := by omega
          have v2 : (q : Int) < (ra.length : Int) := by omega
          have v3 : (q : Int) < (rb.length : Int) := by omega
          by_cases qz : za = zb
          · have g5 := ibneF qz
            have HZ := Lib.hid qz
            clear qz
            go_wp2_with fail
            go_quiet (fail)
            go_wp2_with fail
            go_roundw
            case rel => exact ⟨q + 1, by omega, by go_num, hB2.drewN _, HE2.out HZ.out⟩
            case measure => simp [intOf]; omega
          · have g5 := ibneT qz
            have HZ : Hid (za ≠ zb) := qz
            clear qz
            go_wp2_with fail
            go_quiet (fail)
            go_wp2_with fail
            go_ret
            exact ⟨by simp [alSame]; intro _ _ e; exact HZ.out (HN2.out (HN.out e)), (HB0.out.trans (hB3.out.mono (by omega))).drewN _⟩
        · clear hra hrb
          go_wp2_with fail
          go_roundw
          case rel =>
            refine ⟨k + 1, by omega, by go_num, hB3.out, HE.out ?_⟩
            have := hT2.out
            rwa [List.take_of_length_le (by omega), List.take_of_length_le (by have := HQL.out; omega)] at this
          case measure => simp [intOf]; omega
    · go_wp2_with fail
      go_ret
      have e : a.pot = b.pot := by
        have := hT.out
        rwa [List.take_of_length_le (by omega), List.take_of_length_le (by have := HQ3.out; omega)] at this
      exact ⟨by simp [alSame, HQ.out, HQ2.out, e], HB0.out.trans (hB.mono (by omega))⟩
end Go.Proofs.Ytfifbadepebpeaa
