/- matching.proved. -/
import Derived.Test.YtfifbadepebpeaaWt
import Derived.Test.YtfifbadepebpeaaWm
namespace Go.Proofs.Ytfifbadepebpeaa
open Go.RowKit

def keyE (e : CompP) : Int × Int := (e.a, e.b)

theorem dget_snoc (l : List CompP) (e : CompP) (hn : keyE e ∉ l.map keyE) (q : Int × Int) : dget (l ++ [e]) q = if q = keyE e then e.cost else dget l q := by
  unfold dget
  rw [List.find?_append]
  by_cases h : q = keyE e
  · subst h
    have : l.find? (fun e' => decide ((e'.a, e'.b) = keyE e)) = none := by
      rw [List.find?_eq_none]
      intro e' he' hc
      exact hn (List.mem_map.2 ⟨e', he', by simpa [keyE] using hc⟩)
    rw [this, if_pos rfl]
    simp [keyE]
  · rw [if_neg h]
    have h' : ¬ (e.a, e.b) = q := fun hh => h hh.symm
    cases l.find? (fun e' => decide ((e'.a, e'.b) = q)) with
    | none => simp [h']
    | some _ => rfl

structure PvI (w2 : World) (h2 : Hp) (r : Nat) (pf : List CompP) (k : Nat) (wr : World) : Prop where
  st : St w2.heap.size h2 w2 h2 wr
  map : ∃ ld, MapL wr r ld ∧ ∀ q, (findL ld q).getD (.int .i64 0) = .int .i64 (dget (pf.take k) q)

theorem PvI.next {w2 : World} {h2 : Hp} {pf : List CompP} {k : Nat} {wr wx W : World} {ld : List ((Int × Int) × Value)} (_P : PvI w2 h2 w2.heap.size pf k wr) (hi : Imm h2 w2) (hk : k < pf.length) (hn : keyE pf[k] ∉ (pf.take k).map keyE)
    (hf : ∀ q, (findL ld q).getD (.int .i64 0) = .int .i64 (dget (pf.take k) q)) (hx : St w2.heap.size h2 w2 h2 wx) (hm : MapL W w2.heap.size (setL ld (keyE pf[k]) (.int .i64 pf[k].cost))) (hg : wx.grownBy W (some w2.heap.size)) : PvI w2 h2 w2.heap.size pf (k + 1) W := by
  refine ⟨hx.grown hg (fun q hq => by simp only [Option.some.injEq] at hq; subst hq; exact ⟨Nat.le_refl _, new_own hi _ (Nat.le_refl _)⟩), _, hm, fun q => ?_⟩
  rw [List.take_add_one, List.getElem?_eq_getElem hk]
  simp only [Option.toList_some]
  rw [dget_snoc _ _ hn, findL_set]
  by_cases hq : q = keyE pf[k]
  · rw [if_pos hq, if_pos hq]; rfl
  · rw [if_neg hq, if_neg hq]; exact hf q

set_option maxRecDepth 100000 in
set_option maxHeartbeats 8000000 in
theorem proved_any (h : Hp) (w : World) (hi : Imm h w) (vx vy vm : Value) (x y : List NodeP) (m : MatchP) (hx : Nds h vx x) (hy : Nds h vy y) (wx : WF x) (wy : WF y) (hk : (nd x 0).kind = (nd y 0).kind)
    (sx : x.length ≤ 262144) (sy : y.length ≤ 262144) (hm : MatchV h vm m) :
    Calls Try.prog 43 #[vx, vy, vm] w (VerRes w (decide (provedP x y m))) := by
  obtain ⟨ap, cp, ar, cr, rfl, i1, i2, hp, hr⟩ := hm
  have HI := Lib.hid hi
  have NX := Lib.hid hx
  have NY := Lib.hid hy
  have WX := Lib.hid wx
  have WY := Lib.hid wy
  have HK := Lib.hid hk
  have HR := Lib.hid hr
  have hpn : m.proof.length ≤ 140737488355328 := by obtain ⟨_, s, _⟩ := hr; exact s.len.1
  have px := wx.pos
  have py := wy.pos
  clear hi hx hy wx wy hk hp hr
  generalize hcb : cmpB x y (m.proof.length : Int) = cb
  have HCB := Lib.hid hcb
  clear hcb
  go_enter Try.func43, Try.ntmps43
  go_wp2_with fail
  refine (compared_any h _ (HI.out.alloc _) _ _ x y (m.proof.length : Int) (by unfold I64; omega) NX.out NY.out WX.out WY.out HK.out sx sy).mono ?_
  rintro e w1 ⟨h1, S1, hres⟩
  rw [HCB.out] at hres
  have z1 : w.heap.size < w1.heap.size := by have := S1.below.size; simp at this; omega
  have hbx : Hid (∀ W, Below w1.heap.size w1 W → W.cell? ⟨w.heap.size, 1, none⟩ = some (.int .i64 m.cost) ∧ W.cell? ⟨w.heap.size, 4, none⟩ = some (.slice ar m.proof.length cr)) := fun W hW => by
    rw [hW.cell z1, hW.cell z1, S1.below.cell (by simp), S1.below.cell (by simp), World.cell?_alloc_at _ _ _ _ rfl, World.cell?_alloc_at _ _ _ _ rfl]
    exact ⟨rfl, rfl⟩
  have T1 : Hid (St w.heap.size h w h1 w1) := ((St.refl HI.out).alloc _).call S1
  obtain ⟨k1, k4⟩ := hbx.out w1 (Below.refl _ _)
  clear S1
  cases cb with
  | none =>
    simp only at hres
    subst hres
    go_wp2_with fail
    go_ret
    exact ⟨by rw [decide_eq_false (p := provedP x y m) (fun hs => by have := hs.1; rw [HCB.out] at this; cases this)]; rfl, T1.out.below⟩
  | some l =>
  simp only at hres
  obtain ⟨vl, rfl, PL⟩ := hres
  obtain ⟨al, cl, rfl, hln, hlc⟩ := PL.open
  have HLC := Lib.hid (fun w' hi => hlc w' hi)
  have HCM : Hid (provedP x y m ↔ sortP l = m.proof.map keyE ∧ (∀ e ∈ m.proof, EntV x y (dget m.proof) e) ∧ (m.proof.getD 0 default).cost = m.cost) := by
    unfold Hid provedP
    rw [HCB.out]
    simp only [Option.map_some, Option.some.injEq]
    exact Iff.rfl
  have GD := Lib.hid (cmpB_good WX.out WY.out HCB.out).1
  have HND : Hid ((sortP l).Nodup) := sortP_nodup GD.out.nodup
  have HIN : Hid (∀ p ∈ sortP l, InR x y p) := fun p hp => GD.out.inr p (sortP_mem.1 hp)
  have hl0 : 0 < (sortP l).length := List.length_pos_of_mem (sortP_mem.2 (good_closed GD.out).1)
  generalize sortP l = L at *
  clear PL hlc
  by_cases hll : L.length = m.proof.length
  case neg =>
    have g1 := bneT hll
    have HN : Hid (L.length ≠ m.proof.length) := hll
    clear hll
    go_wp2_with fail
    go_ret
    exact ⟨by rw [decide_eq_false (p := provedP x y m) (fun hs => HN.out (by rw [(HCM.out.1 hs).1, List.length_map]))]; rfl, T1.out.below⟩
  have g1 := bneF hll
  have HLL := Lib.hid hll
  have hp0 : 0 < m.proof.length := by omega
  clear hll
  obtain ⟨bp, op, cp', hpe, -, hpc⟩ := HR.out.openI hp0
  simp only [Value.slice.injEq, true_and] at hpe
  obtain ⟨rfl, rfl⟩ := hpe
  have HPC := Lib.hid (fun w' hi => hpc w' hi)
  obtain ⟨bl, ol, rfl, -, -⟩ := HLC.out w1 T1.out.imm hl0
  clear hpc
  have hmm : ∀ W : World, (Instr.makeMap 97 none).run Try.prog W = .ok (.map (some W.heap.size)) (W.alloc (.map #[] 0)) := fun W => rfl
  go_wp2_with fail
  clear g1
  have P0 : Hid (PvI w1 h1 w1.heap.size m.proof 0 (w1.alloc (.map #[] 0))) := ⟨(St.refl T1.out.imm).alloc _, [], mapL_new w1, fun q => rfl⟩
  have HBAD : Hid (∀ k (h1 : k < L.length) (h2 : k < m.proof.length), L[k] ≠ keyE m.proof[k] → decide (provedP x y m) = false) := fun k h1 h2 hn => by
    rw [decide_eq_false]
    intro hs
    apply hn
    have := (HCM.out.1 hs).1
    simp only [this, List.getElem_map]
  go_loopw [6, 10, 11, 40, 41, 42, 43, 44, 45, 46, 47, 48, 49, 50, 51, 52, 53, 54, 55, 56, 57, 58, 59, 60, 61, 62] (fun _ _ _ i _ _ _ _ _ _ _ _ _ _ _ _ _ _ _ _ _ _ _ _ _ _ wr => ∃ k : Nat, k ≤ m.proof.length ∧ i = .int .i64 k ∧ PvI w1 h1 w1.heap.size m.proof k wr ∧ Hid (L.take k = (m.proof.take k).map keyE)) (fun _ _ _ i _ _ _ _ _ _ _ _ _ _ _ _ _ _ _ _ _ _ _ _ _ _ _ => m.proof.length - (intOf i).toNat)
  case atStart => exact ⟨0, Nat.zero_le _, rfl, P0.out, rfl⟩
  case round =>
    obtain ⟨k, hk, rfl, P, HT⟩ := hrel
    by_cases hlt : k < m.proof.length
    · have hlt' : k < L.length := by have := HLL.out; omega
      obtain ⟨hbp, hpc⟩ := HPC.out wr (fun b c hc => P.st.imm b c (T1.out.le b c hc))
      obtain ⟨ap1, cp1, ar1, cr1, c0, c1, c2, c3, c4, c5, -⟩ := hpc k hlt
      obtain ⟨bl', ol', he, hbl, hlc⟩ := HLC.out wr P.st.imm hl0
      simp only [Option.some.injEq, Addr.mk.injEq, and_true] at he
      obtain ⟨rfl, rfl⟩ := he
      obtain ⟨d0, d1⟩ := hlc k hlt'
      have BK := Lib.hid (HBAD.out k hlt' hlt)
      have HNK : Hid (L[k] = keyE m.proof[k] → keyE m.proof[k] ∉ (m.proof.take k).map keyE) := fun e => by
        rw [← HT.out, ← e]
        intro hmem
        obtain ⟨j, hj, hjj⟩ := List.mem_iff_getElem.1 hmem
        rw [List.getElem_take] at hjj
        rw [List.length_take] at hj
        have := (List.getElem_inj HND.out).1 hjj
        omega
      have HTN : Hid (L[k] = keyE m.proof[k] → L.take (k + 1) = (m.proof.take (k + 1)).map keyE) := fun e => by
        rw [List.take_add_one, List.getElem?_eq_getElem hlt', List.take_add_one, List.getElem?_eq_getElem hlt, List.map_append, HT.out, e]; rfl
      have PNX := Lib.hid (fun wx W ld hn hf hx hm hg => P.next (wx := wx) (W := W) (ld := ld) T1.out.imm hlt hn hf hx hm hg)
      obtain ⟨ld, MD, FD⟩ := P.map
      have S' := Lib.hid P.st
      have MD' := Lib.hid MD
      have FD' := Lib.hid FD
      have hmr := MD.lt
      have u0 : (0 : Int) ≤ (k : Int) := by omega
      have u1 : (k : Int) < (L.length : Int) := by omega
      have u2 : (k : Int) < (m.proof.length : Int) := by omega
      clear hpc hlc P MD FD
      generalize L[k] = p at *
      generalize m.proof[k] = t at *
      by_cases hkey : p.1 = t.a ∧ p.2 = t.b
      case neg =>
        have g1 : (p.1 == t.a && p.2 == t.b) = false := by
          rw [Bool.eq_false_iff]
          intro e
          simp only [Bool.and_eq_true, beq_iff_eq] at e
          exact hkey e
        have HN : Hid (p ≠ keyE t) := fun e => hkey ⟨by rw [e]; rfl, by rw [e]; rfl⟩
        clear hkey
        go_wp2_with fail
        go_quiet (fail)
        go_wp2_with fail
        go_ret
        exact ⟨by rw [BK.out HN.out]; rfl, T1.out.below.trans (((S'.out.below.alloc S'.out.size _).drewN _).mono (Nat.le_of_lt z1))⟩
      obtain ⟨rfl, hk2⟩ : p = keyE t ∧ True := ⟨Prod.ext hkey.1 hkey.2, trivial⟩
      clear hkey hk2
      have g1 : ((keyE t).1 == t.a) = true := by simp [keyE]
      have g2 : ((keyE t).2 == t.b) = true := by simp [keyE]
      go_wp2_with fail
      go_quiet (fail)
      have SX : Hid (St w1.heap.size h1 w1 h1 ((wr.alloc (Obj.cells #[.int .i64 t.a, .int .i64 t.b, .int .i64 t.cost, .slice ap1 t.kids.pairs.length cp1, .int .i64 t.kids.cost, .slice ar1 t.kids.pot.length cr1] 45)).drewN (nq + 1))) := (S'.out.alloc _).drewN (nq + 1)
      obtain ⟨W, hrun, hm2, hg2⟩ := (MapL.keep (w' := ((wr.alloc (Obj.cells #[.int .i64 t.a, .int .i64 t.b, .int .i64 t.cost, .slice ap1 t.kids.pairs.length cp1, .int .i64 t.kids.cost, .slice ar1 t.kids.pot.length cr1] 45)).drewN (nq + 1))) MD'.out (Below.heap_alloc _ _ _ hmr)).put' (keyE t) (.int .i64 t.cost) 97 3 Try.underlying97
      have HM2 := Lib.hid hm2
      have HG2 := Lib.hid hg2
      clear hm2 hg2
      have e0 : ((wr.alloc (Obj.cells #[.int .i64 t.a, .int .i64 t.b, .int .i64 t.cost, .slice ap1 t.kids.pairs.length cp1, .int .i64 t.kids.cost, .slice ar1 t.kids.pot.length cr1] 45)).drewN nq).cell? ⟨wr.heap.size, 2, none⟩ = some (.int .i64 t.cost) := by
        show (wr.alloc (Obj.cells #[.int .i64 t.a, .int .i64 t.b, .int .i64 t.cost, .slice ap1 t.kids.pairs.length cp1, .int .i64 t.kids.cost, .slice ar1 t.kids.pot.length cr1] 45)).cell? _ = _
        rw [World.cell?_alloc_at _ _ _ _ rfl]; rfl
      go_wp2_with fail
      refine wp_region_still_tail 7 (by kernel_rfl) (by kernel_rfl) ?_
      simp only [List.take_succ_cons, List.take_zero, List.drop_succ_cons, List.drop_zero]
      change wpStill _ _ (World.drew _) (fun a' => wpList _ _ _ _ a' (World.drew _)) _ _
      repeat still_step
      refine wpStill_nil ?_
      go_wp2_with fail
      go_roundw
      case rel => exact ⟨k + 1, by omega, by go_num, PNX.out _ W ld (HNK.out (by first | rfl | trivial)) FD'.out SX.out HM2.out HG2.out, HTN.out (by first | rfl | trivial)⟩
      case measure => simp [intOf]; omega
    · obtain rfl : k = m.proof.length := by omega
      obtain ⟨w2, rfl⟩ : ∃ w2 : World, w2 = wr := ⟨_, rfl⟩
      have HLK : Hid (L = m.proof.map keyE) := by
        have := HT.out
        unfold Hid
        rwa [List.take_of_length_le (by have := HLL.out; omega), List.take_length] at this
      obtain ⟨ld, MD, FD⟩ := P.map
      rw [List.take_length] at FD
      have S' := Lib.hid P.st
      have MD' := Lib.hid MD
      have FD' := Lib.hid FD
      have hz2 : w1.heap.size ≤ w2.heap.size := P.st.below.size
      have HIC : Hid (∀ q, I64 (dget m.proof q)) := fun q => by
        have hc := (HPC.out w HI.out).2
        unfold dget
        split
        · rename_i e he
          obtain ⟨j, hj, rfl⟩ := List.mem_iff_getElem.1 (List.mem_of_find?_eq_some he)
          obtain ⟨_, _, _, _, _, _, _, _, _, _, _, _, _, hh, _⟩ := hc j hj
          exact hh
        · unfold I64; omega
      have HB2 : Hid (Below w.heap.size w w2) := T1.out.below.trans (P.st.below.mono (Nat.le_of_lt z1))
      have HI2 : Hid (Imm h1 w2) := P.st.imm
      have z2 : w.heap.size < w2.heap.size := by omega
      have hbx2 : Hid (∀ W, Below w2.heap.size w2 W → W.cell? ⟨w.heap.size, 1, none⟩ = some (.int .i64 m.cost) ∧ W.cell? ⟨w.heap.size, 4, none⟩ = some (.slice (some ⟨bp, op, none⟩) m.proof.length cr)) := fun W hW => hbx.out W (S'.out.below.trans (hW.mono hz2))
      obtain ⟨n1, n4⟩ := hbx2.out w2 (Below.refl _ _)
      have BADE : Hid (∀ e ∈ m.proof, ¬ EntV x y (dget m.proof) e → decide (provedP x y m) = false) := fun e he hn => by
        rw [decide_eq_false]; intro hs; exact hn ((HCM.out.1 hs).2.1 e he)
      clear P MD FD HT
      go_wp2_with fail
      go_loopw [6, 12, 13, 14, 15, 16, 66, 67, 68, 69, 70, 71, 72, 73, 74, 75, 76, 77, 78, 79, 80, 81, 82, 83, 84, 85, 86, 87, 88, 89, 90, 91, 92, 93, 94, 95, 96, 97, 98, 99, 100, 101, 102, 103, 104, 105, 106, 107, 108] (fun _ _ _ _ _ _ i _ _ _ _ _ _ _ _ _ _ _ _ _ _ _ _ _ _ _ _ _ _ _ _ _ _ _ _ _ _ _ _ _ _ _ _ _ _ _ _ _ _ wr => ∃ k : Nat, k ≤ m.proof.length ∧ i = .int .i64 k ∧ Below w2.heap.size w2 wr ∧ Hid (∀ j (hj : j < m.proof.length), j < k → EntV x y (dget m.proof) m.proof[j])) (fun _ _ _ _ _ _ i _ _ _ _ _ _ _ _ _ _ _ _ _ _ _ _ _ _ _ _ _ _ _ _ _ _ _ _ _ _ _ _ _ _ _ _ _ _ _ _ _ _ _ => m.proof.length - (intOf i).toNat)
      case atStart => exact ⟨0, Nat.zero_le _, rfl, Below.refl _ _, fun j hj hlt => by omega⟩
      case round =>
        obtain ⟨k, hk, rfl, hB, HV⟩ := hrel
        have I1 := Lib.hid (HI2.out.below hB)
        obtain ⟨o1, o4⟩ := hbx2.out wr hB
        have zr : w.heap.size < wr.heap.size := by have := hB.size; omega
        by_cases hlt : k < m.proof.length
        · have hlt' : k < L.length := by have := HLL.out; omega
          obtain ⟨hbp, hpc⟩ := HPC.out wr (fun b c hc => I1.out b c (T1.out.le b c hc))
          obtain ⟨ap1, cp1, ar1, cr1, c0, c1, c2, c3, c4, c5, eav, -⟩ := hpc k hlt
          obtain ⟨bl', ol', he, hbl, hlc⟩ := HLC.out wr I1.out hl0
          simp only [Option.some.injEq, Addr.mk.injEq, and_true] at he
          obtain ⟨rfl, rfl⟩ := he
          obtain ⟨d0, d1⟩ := hlc k hlt'
          have hLk : L[k] = keyE m.proof[k] := by simp only [HLK.out, List.getElem_map]
          have HR1 := Lib.hid (HIN.out L[k] (by simp))
          rw [hLk] at d0 d1 HR1
          have HMEM : Hid (m.proof[k] ∈ m.proof) := by unfold Hid; simp
          have HVN : Hid (EntV x y (dget m.proof) m.proof[k] → ∀ j (hj : j < m.proof.length), j < k + 1 → EntV x y (dget m.proof) m.proof[j]) := fun hh j hj hjk => by
            by_cases hjj : j = k
            · subst hjj; exact hh
            · exact HV.out j hj (by omega)
          have u0 : (0 : Int) ≤ (k : Int) := by omega
          have u1 : (k : Int) < (L.length : Int) := by omega
          have u2 : (k : Int) < (m.proof.length : Int) := by omega
          have EAV := Lib.hid eav
          clear hpc hlc hLk eav
          generalize m.proof[k] = t at *
          obtain ⟨p1, p2, p3, p4⟩ := HR1.out
          simp only [keyE] at p1 p2 p3 p4
          have hlr : w1.heap.size < wr.heap.size := by have := MD'.out.lt; have := hB.size; omega
          have MR : Hid (MapL (wr.alloc (Obj.cells #[.int .i64 t.a, .int .i64 t.b, .int .i64 t.cost, .slice ap1 t.kids.pairs.length cp1, .int .i64 t.kids.cost, .slice ar1 t.kids.pot.length cr1] 45)) w1.heap.size ld) := (MD'.out.keep (hB.block _ MD'.out.lt)).keep (Below.heap_alloc _ _ _ hlr)
          go_wp2_with fail
          refine (mtable_any h1 _ (I1.out.alloc _) _ _ x y (keyE t) _ ld (dget m.proof) (NX.out.mono T1.out.le) (NY.out.mono T1.out.le) WX.out WY.out sx sy HR1.out MR.out (fun q => ⟨FD'.out q, HIC.out q⟩)).mono ?_
          rintro e w3 ⟨v1, v2, v3, rfl, h3, S3, J1, J2, J3⟩
          have J1 := Lib.hid J1
          have J2 := Lib.hid J2
          have J3 := Lib.hid J3
          have S3' := Lib.hid S3
          have z3 : wr.heap.size < w3.heap.size := by have := S3.below.size; simp at this; omega
          have bx3 : Hid (∀ i, w3.cell? ⟨wr.heap.size, i, none⟩ = (#[.int .i64 t.a, .int .i64 t.b, .int .i64 t.cost, .slice ap1 t.kids.pairs.length cp1, .int .i64 t.kids.cost, .slice ar1 t.kids.pot.length cr1] : Array Value)[i]?) := fun i => by
            rw [S3.below.cell (by simp), World.cell?_alloc_at _ _ _ _ rfl]
          have b3 : w3.cell? ⟨wr.heap.size, 3, none⟩ = some (.slice ap1 t.kids.pairs.length cp1) := bx3.out 3
          have b4 : w3.cell? ⟨wr.heap.size, 4, none⟩ = some (.int .i64 t.kids.cost) := bx3.out 4
          have b5 : w3.cell? ⟨wr.heap.size, 5, none⟩ = some (.slice ar1 t.kids.pot.length cr1) := bx3.out 5
          clear S3 c0 c1 c2 c3 c4 c5 d0 d1
          generalize hsv : decide (SVer (dropP x (keyE t).1) (dropP y (keyE t).2) (costP x y (keyE t) (dget m.proof)) t.kids) = sv
          have HSV := Lib.hid hsv
          clear hsv
          go_wp2_with fail
          refine (sverify_any h3 _ S3'.out.imm _ _ _ _ _ _ _ t.kids J1.out J2.out J3.out ((EAV.out.mono T1.out.le).mono S3'.out.le)).mono ?_
          rintro e w4 ⟨rfl, hb4⟩
          rw [HSV.out]
          have HB4 : Hid (Below w2.heap.size w2 w4) := (hB.alloc hB.size _).trans ((S3'.out.below.mono (by simp; have := hB.size; omega)).trans (hb4.mono (by have := hB.size; omega)))
          have z4 : w3.heap.size ≤ w4.heap.size := hb4.size
          cases sv
          · go_wp2_with fail
            go_ret
            exact ⟨by rw [BADE.out t HMEM.out (fun hh => by have := decide_eq_true hh.1; rw [show decide (SVer (dropP x t.a) (dropP y t.b) (costP x y (t.a, t.b) (dget m.proof)) t.kids) = false from HSV.out] at this; cases this)]; rfl, HB2.out.trans (HB4.out.mono (Nat.le_of_lt z2))⟩
          have SV0 : SVer (dropP x t.a) (dropP y t.b) (costP x y (t.a, t.b) (dget m.proof)) t.kids := of_decide_eq_true HSV.out
          have SV := Lib.hid SV0
          clear SV0
          have hkc : 0 ≤ t.kids.cost ∧ t.kids.cost ≤ 1099511627776 := by
            have hh := SV.out
            have := cg_within hh.2.2.1 (dropP x t.a).length (dropP y t.b).length
            rw [hh.2.2.2.2.1] at this
            exact this
          have a0 : w4.cell? ⟨wr.heap.size, 0, none⟩ = some (.int .i64 t.a) := (hb4.cell (p := ⟨wr.heap.size, 0, none⟩) z3).trans (bx3.out 0)
          have a1 : w4.cell? ⟨wr.heap.size, 1, none⟩ = some (.int .i64 t.b) := (hb4.cell (p := ⟨wr.heap.size, 1, none⟩) z3).trans (bx3.out 1)
          have a2 : w4.cell? ⟨wr.heap.size, 2, none⟩ = some (.int .i64 t.cost) := (hb4.cell (p := ⟨wr.heap.size, 2, none⟩) z3).trans (bx3.out 2)
          have a4 : w4.cell? ⟨wr.heap.size, 4, none⟩ = some (.int .i64 t.kids.cost) := (hb4.cell (p := ⟨wr.heap.size, 4, none⟩) z3).trans (bx3.out 4)
          have z5 : wr.heap.size < w4.heap.size := by omega
          obtain ⟨bx, ox, cx, hxe, hxn, hxc⟩ := NX.out.openI px
          subst hxe
          obtain ⟨by', oy, cy, hye, hyn, hyc⟩ := NY.out.openI py
          subst hye
          have I4 : Hid (Imm h w4) := fun b c hc => (HI2.out.below HB4.out) b c (T1.out.le b c hc)
          obtain ⟨hbx4, hxa⟩ := hxc w4 I4.out
          obtain ⟨hby4, hya⟩ := hyc w4 I4.out
          obtain ⟨akx, ckx, x0, x1, x2, x3, x4, -, -, -, -⟩ := hxa t.a p1 p2
          obtain ⟨aky, cky, y0, y1, y2, y3, y4, -, -, -, -⟩ := hya t.b p3 p4
          have hdb := differP_bd (nd x t.a).text (nd y t.b).text
          have wrp : IntKind.i64.wrap (differP (nd x t.a).text (nd y t.b).text + t.kids.cost) = differP (nd x t.a).text (nd y t.b).text + t.kids.cost := w64 (by omega)
          clear hxa hya hxc hyc b3 b4 b5 hb4
          have hx0 : bx < w4.heap.size := hbx4
          go_wp2_with fail
          go_region_held3 (fun w' => w'.cell? ⟨wr.heap.size, 0, none⟩ = some (.int .i64 t.a) ∧ w'.cell? ⟨wr.heap.size, 1, none⟩ = some (.int .i64 t.b) ∧ w'.cell? ⟨wr.heap.size, 2, none⟩ = some (.int .i64 t.cost) ∧ w'.cell? ⟨wr.heap.size, 4, none⟩ = some (.int .i64 t.kids.cost) ∧
              w'.cell? ⟨bx, ox + t.a.toNat * 5, none⟩ = some (.int .i64 (nd x t.a).kind) ∧ w'.cell? ⟨bx, ox + t.a.toNat * 5 + 1, none⟩ = some (.string (nd x t.a).text) ∧ w'.cell? ⟨bx, ox + t.a.toNat * 5 + 2, none⟩ = some (.int .i64 (nd x t.a).parent) ∧ w'.cell? ⟨bx, ox + t.a.toNat * 5 + 3, none⟩ = some (.slice akx (nd x t.a).kids.length ckx) ∧ w'.cell? ⟨bx, ox + t.a.toNat * 5 + 4, none⟩ = some (.int .i64 (nd x t.a).size) ∧
              w'.cell? ⟨by', oy + t.b.toNat * 5, none⟩ = some (.int .i64 (nd y t.b).kind) ∧ w'.cell? ⟨by', oy + t.b.toNat * 5 + 1, none⟩ = some (.string (nd y t.b).text) ∧ w'.cell? ⟨by', oy + t.b.toNat * 5 + 2, none⟩ = some (.int .i64 (nd y t.b).parent) ∧ w'.cell? ⟨by', oy + t.b.toNat * 5 + 3, none⟩ = some (.slice aky (nd y t.b).kids.length cky) ∧ w'.cell? ⟨by', oy + t.b.toNat * 5 + 4, none⟩ = some (.int .i64 (nd y t.b).size))
            (first | go_keep | exact ⟨(hb5.cell (p := ⟨wr.heap.size, 0, none⟩) z5).trans a0, (hb5.cell (p := ⟨wr.heap.size, 1, none⟩) z5).trans a1, (hb5.cell (p := ⟨wr.heap.size, 2, none⟩) z5).trans a2, (hb5.cell (p := ⟨wr.heap.size, 4, none⟩) z5).trans a4,
              (hb5.cell (p := ⟨bx, ox + t.a.toNat * 5, none⟩) hbx4).trans x0, (hb5.cell (p := ⟨bx, ox + t.a.toNat * 5 + 1, none⟩) hbx4).trans x1, (hb5.cell (p := ⟨bx, ox + t.a.toNat * 5 + 2, none⟩) hbx4).trans x2, (hb5.cell (p := ⟨bx, ox + t.a.toNat * 5 + 3, none⟩) hbx4).trans x3, (hb5.cell (p := ⟨bx, ox + t.a.toNat * 5 + 4, none⟩) hbx4).trans x4,
              (hb5.cell (p := ⟨by', oy + t.b.toNat * 5, none⟩) hby4).trans y0, (hb5.cell (p := ⟨by', oy + t.b.toNat * 5 + 1, none⟩) hby4).trans y1, (hb5.cell (p := ⟨by', oy + t.b.toNat * 5 + 2, none⟩) hby4).trans y2, (hb5.cell (p := ⟨by', oy + t.b.toNat * 5 + 3, none⟩) hby4).trans y3, (hb5.cell (p := ⟨by', oy + t.b.toNat * 5 + 4, none⟩) hby4).trans y4⟩)
            (first | (go_at_call 55; refine (differ_any _ _ _ _ _ _ _ _ _ _ _ _ _ _ _).mono ?_; rintro e w5 ⟨rfl, hb5⟩; have hz5 : w4.heap.size ≤ w5.heap.size := hb5.size))
          clear wrp
          have HB5 : Hid (Below w2.heap.size w2 w5) := HB4.out.drew.trans (hb5.mono (by have := HB4.out.size; exact this))
          clear hb5
          by_cases hcost : t.cost = differP (nd x t.a).text (nd y t.b).text + t.kids.cost
          case neg =>
            have g3 := ibneT hcost
            have HN : Hid (t.cost ≠ differP (nd x t.a).text (nd y t.b).text + t.kids.cost) := hcost
            clear hcost
            go_wp2_with fail
            go_ret
            exact ⟨by rw [BADE.out t HMEM.out (fun hh => HN.out hh.2)]; rfl, HB2.out.trans (HB5.out.mono (Nat.le_of_lt z2))⟩
          have g3 := ibneF hcost
          have HC := Lib.hid hcost
          clear hcost
          go_wp2_with fail
          go_roundw
          case rel => exact ⟨k + 1, by omega, by go_num, HB5.out, HVN.out ⟨SV.out, HC.out⟩⟩
          case measure => simp [intOf]; omega
        · obtain rfl : k = m.proof.length := by omega
          obtain ⟨hbp, hpc⟩ := HPC.out wr (fun b c hc => I1.out b c (T1.out.le b c hc))
          obtain ⟨-, -, -, -, -, -, c2, -⟩ := hpc 0 hp0
          rw [← getD_of_lt m.proof 0 default hp0] at c2
          simp only [Nat.zero_mul, Nat.add_zero] at c2
          have hpI : (0 : Int) < (m.proof.length : Int) := by omega
          have HALL : Hid (∀ e ∈ m.proof, EntV x y (dget m.proof) e) := fun e he => by
            obtain ⟨j, hj, rfl⟩ := List.mem_iff_getElem.1 he
            exact HV.out j hj hj
          clear hpc
          obtain ⟨c0, hc0⟩ : ∃ c, c = (m.proof.getD 0 default).cost := ⟨_, rfl⟩
          rw [← hc0] at c2
          have HC0 := Lib.hid hc0
          clear hc0
          by_cases hf : c0 = m.cost
          · have g4 := ibeqT hf
            have HF : Hid ((m.proof.getD 0 default).cost = m.cost) := by unfold Hid; rw [← HC0.out]; exact hf
            clear hf
            go_wp2_with fail
            go_quiet (fail)
            go_wp2_with fail
            go_ret
            exact ⟨by rw [decide_eq_true (p := provedP x y m) (HCM.out.2 ⟨HLK.out, HALL.out, HF.out⟩)]; rfl, (HB2.out.trans (hB.mono (Nat.le_of_lt z2))).drewN _⟩
          · have g4 := ibeqF hf
            have HF : Hid ((m.proof.getD 0 default).cost ≠ m.cost) := by unfold Hid; rw [← HC0.out]; exact hf
            clear hf
            go_wp2_with fail
            go_quiet (fail)
            go_wp2_with fail
            go_ret
            exact ⟨by rw [decide_eq_false (p := provedP x y m) (fun hs => HF.out (HCM.out.1 hs).2.2)]; rfl, (HB2.out.trans (hB.mono (Nat.le_of_lt z2))).drewN _⟩
end Go.Proofs.Ytfifbadepebpeaa
