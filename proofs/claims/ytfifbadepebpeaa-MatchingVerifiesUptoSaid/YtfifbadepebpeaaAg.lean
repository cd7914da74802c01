/- The reference's Align. -/
import Derived.Test.YtfifbadepebpeaaWh
import Derived.Test.YtfifbadepebpeaaRm
import Derived.Test.YtfifbadepebpeaaBg
namespace Go.Proofs.Ytfifbadepebpeaa
open Go.RowKit

theorem Has.put1 {w : World} {b : Nat} {c : Array Value} (x : Has w b c) (i : Nat) (hi : i < c.size) (v : Value) : Has (w.setCell ⟨b, i, none⟩ v) b (c.setIfInBounds i v) := by
  refine ⟨by simpa [World.setCell] using x.lt, fun o => ?_, fun o => by have := x.fz o; simp [this]⟩
  by_cases e : o = i
  · subst e
    rw [World.cell?_setCell_same _ _ _ ((x.cl o).trans (Array.getElem?_eq_getElem hi))]
    simp [hi]
  · rw [World.cell?_setCell_other _ _ _ _ (by simp), x.cl o]
    rw [Array.getElem?_setIfInBounds_ne (fun h => e h.symm)]

structure RvI (h5 : Hp) (w5 : World) (l : List (Int × Int)) (c1 c2 : Value) (k : Nat) (wr : World) (vp : Value) : Prop where
  st : St w5.heap.size h5 w5 h5 wr
  free : h5 w5.heap.size = none
  has : Has wr w5.heap.size #[vp, c1, c2]
  own : PrOw wr h5 (w5.heap.size + 1) vp (l.reverse.take k)
theorem RvI.next {h5 : Hp} {w5 : World} {l : List (Int × Int)} {c1 c2 : Value} {k : Nat} {wr w6 : World} {vp v' : Value} {p : Int × Int} (r : RvI h5 w5 l c1 c2 k wr vp) (_hk : k < l.length) (hp : l.reverse[k]? = some p) {o : Obj}
    (st1 : St (w5.heap.size + 1) h5 wr h5 w6) (own2 : Ow w6 h5 (w5.heap.size + 1) 52 2 v' ((l.reverse.take k).length + 1) ((l.reverse.take k).flatMap encP ++ encP p)) (gr2 : ((wr.alloc o).drewN 1).grownBy w6 vp.ownBlock) :
    (w6.cell? ⟨w5.heap.size, 0, none⟩ = some vp ∧ w6.frozen? ⟨w5.heap.size, 0, none⟩ = false ∧ w5.heap.size < w6.heap.size) ∧ RvI h5 w5 l c1 c2 (k + 1) (w6.setCell ⟨w5.heap.size, 0, none⟩ v') v' := by
  have ha : Has ((wr.alloc o).drewN 1) w5.heap.size #[vp, c1, c2] := ⟨(r.has.alloc o).lt, (r.has.alloc o).cl, (r.has.alloc o).fz⟩
  have hne : vp.ownBlock ≠ some w5.heap.size := fun e => by have := (Ow.lt r.own _ e).1; omega
  have hne' : v'.ownBlock ≠ some w5.heap.size := fun e => by have := (own2.lt _ e).1; omega
  have hg := ha.grown gr2 hne
  have st2 : St w5.heap.size h5 w5 h5 w6 := ⟨r.st.below.trans (st1.below.mono (by omega)), st1.imm, Hp.le_refl _, fun _ _ => rfl, Nat.le_refl _⟩
  refine ⟨⟨hg.cl 0, hg.fz 0, hg.lt⟩, st2.setCell (p := ⟨w5.heap.size, 0, none⟩) (Nat.le_refl _) r.free _, r.free, hg.put1 0 (by simp) v', ?_⟩
  · unfold PrOw
    rw [List.take_add_one, hp, Option.toList_some, flatMap_snoc, List.length_append]
    exact Ow.setCell own2 hne' v'

set_option maxRecDepth 100000 in
set_option maxHeartbeats 4000000 in
theorem ralign_any (h : Hp) (w : World) (hi : Imm h w) (vd va vc : Value) (drop add : List Int) (cost : List (List Int)) (hd : Ints h vd drop) (ha : Ints h va add) (hc : Rws h vc cost) (hp : Prop17 drop add cost) :
    Calls Try.prog 39 #[vd, va, vc] w fun e w' => ∃ cs, e = .returned (.tuple #[.agg cs.toArray, .int .i64 0]) ∧ ∃ h', St w.heap.size h w h' w' ∧ EncAlign h' (alignP drop add cost) cs := by
  have HI := Lib.hid hi
  have HP := Lib.hid hp
  have Hd := Lib.hid hd
  have Ha := Lib.hid ha
  have Hc := Lib.hid hc
  have hdl := hp.dl
  have hal := hp.al
  have HCL := Lib.hid hp.cl
  have hpB : Hid (properB drop add cost = true) := properB_iff.2 hp
  obtain ⟨ad, cd, rfl, hdn, hdc⟩ := hd.open
  obtain ⟨aa, ca, rfl, han, hac⟩ := ha.open
  obtain ⟨ac, cc, rfl, hcn, hcc⟩ := hc.open
  have HD := Lib.hid (fun w' hi => hdc w' hi)
  have HA := Lib.hid (fun w' hi => hac w' hi)
  have HC := Lib.hid (fun w' hi => hcc w' hi)
  clear hd ha hc hdc hac hcc hi hp
  go_enter Try.func39, Try.ntmps39
  go_wp2_with fail
  refine (rproper_any h _ (HI.out.alloc _) _ _ _ drop add cost Hd.out Ha.out Hc.out).mono ?_
  rintro e w' ⟨rfl, rfl⟩
  rw [hpB.out]
  have I0 := Lib.hid (HI.out.alloc (Obj.cells #[.slice none 0 0, .int .i64 0, .slice none 0 0] 43))
  have S0 := Lib.hid ((St.refl HI.out).alloc (Obj.cells #[.slice none 0 0, .int .i64 0, .slice none 0 0] 43))
  have Z0 : (w.alloc (Obj.cells #[.slice none 0 0, .int .i64 0, .slice none 0 0] 43)).heap.size = w.heap.size + 1 := by simp
  have B0 : Hid (∀ W, Below (w.heap.size + 1) (w.alloc (Obj.cells #[.slice none 0 0, .int .i64 0, .slice none 0 0] 43)) W → ∀ i, W.cell? ⟨w.heap.size, i, none⟩ = (#[.slice none 0 0, .int .i64 0, .slice none 0 0] : Array Value)[i]? ∧ W.frozen? ⟨w.heap.size, i, none⟩ = false) := fun W hW i => by
    rw [hW.cell (by simp), hW.frozen (by simp), World.cell?_alloc_at _ _ _ _ rfl, World.frozen?_alloc_at _ _ _ _ rfl]
    exact ⟨rfl, rfl⟩
  generalize hw0 : w.alloc (Obj.cells #[.slice none 0 0, .int .i64 0, .slice none 0 0] 43) = w0 at *
  have HZ0 := Lib.hid Z0
  clear hw0 Z0
  go_wp2_with (at_make; refine wpList_mk el_rows rfl _ _ rfl (St.refl I0.out) .i64 .i64 _ _ (drop.length + 1) rfl rfl (by go_num) (by go_num) (by omega) ?_; intro w1 st1 own1 gr1; rw [madeCells1] at own1)
  have P0 : Hid (PotI h w0 drop.length add.length (pt drop add cost) w0.heap.size 0 h w1 []) := ⟨st1, by simpa using own1, rfl, rfl⟩
  clear st1 own1 gr1
  have hF : Hid (∀ i j, 0 ≤ pt drop add cost i j ∧ pt drop add cost i j ≤ ((i + j : Nat) : Int) * 1048576) := pt_bd HP.out
  generalize hFF : pt drop add cost = F at *
  have HFF := Lib.hid hFF
  clear hFF
  go_loopw [11, 12, 13, 32, 33, 34, 35, 36, 37, 38, 39, 40, 41, 42, 43, 44, 45, 46, 47, 48, 49, 50, 51, 52, 53, 54, 55, 56, 57, 58, 59, 60, 61, 62, 63, 64, 65, 66, 67, 68, 69, 70, 71, 72, 73, 74, 75, 76, 77, 78, 79, 80, 81, 82, 83, 84, 85, 86, 87, 88, 89, 90, 91, 92, 93, 94, 95, 96, 97, 98, 99, 100, 101, 102, 103, 104, 105, 106, 107, 108, 109, 110, 111, 112, 113, 114, 115, 116, 117, 118, 119, 120, 121, 122, 123, 124, 125, 126, 127, 128, 129, 130, 131, 132, 133, 134, 135, 136, 137, 138, 139, 140, 141, 142, 143, 144, 145, 146, 147, 148] (fun i _ _ _ _ _ _ _ _ _ _ _ _ _ _ _ _ _ _ _ _ _ _ _ _ _ _ _ _ _ _ _ _ _ _ _ _ _ _ _ _ _ _ _ _ _ _ _ _ _ _ _ _ _ _ _ _ _ _ _ _ _ _ _ _ _ _ _ _ _ _ _ _ _ _ _ _ _ _ _ _ _ _ _ _ _ _ _ _ _ _ _ _ _ _ _ _ _ _ _ _ _ _ _ _ _ _ _ _ _ _ _ _ _ _ _ _ _ _ _ wr => ∃ (i' : Nat) (hi : Hp) (hs : List Value), i' ≤ drop.length + 1 ∧ i = .int .i64 i' ∧ PotI h w0 drop.length add.length F w0.heap.size i' hi wr hs) (fun i _ _ _ _ _ _ _ _ _ _ _ _ _ _ _ _ _ _ _ _ _ _ _ _ _ _ _ _ _ _ _ _ _ _ _ _ _ _ _ _ _ _ _ _ _ _ _ _ _ _ _ _ _ _ _ _ _ _ _ _ _ _ _ _ _ _ _ _ _ _ _ _ _ _ _ _ _ _ _ _ _ _ _ _ _ _ _ _ _ _ _ _ _ _ _ _ _ _ _ _ _ _ _ _ _ _ _ _ _ _ _ _ _ _ _ _ _ _ _ _ => drop.length + 1 - (intOf i).toNat)
  case atStart => exact ⟨0, h, [], Nat.zero_le _, rfl, P0.out⟩
  case round =>
    obtain ⟨i, hi, hs, hil, rfl, P⟩ := hrel
    obtain ⟨wo, rfl⟩ : ∃ wo : World, wo = wr := ⟨_, rfl⟩
    have P' := Lib.hid P
    by_cases hlt : i < drop.length + 1
    · have hGl := (P.own.lt w0.heap.size rfl).2
      clear P
      rcases Nat.eq_zero_or_pos i with rfl | hi0
      · as_aux_lemma =>
          rw [show ((0 : Nat) : Int) = 0 from rfl]
          go_wp2_with (at_make; refine wpList_mk el_ints rfl _ _ rfl P'.out.st .i64 .i64 _ _ (add.length + 1) rfl rfl (by go_num) (by go_num) (by omega) ?_; intro w2 st2 own2 gr2; rw [madeCells1] at own2; obtain ⟨e1, e2⟩ := P'.out.cells hlt gr2; have R0 := Lib.hid (P'.out.start hlt gr2 st2 own2); have hgl2 := (own2.lt wo.heap.size rfl).2; clear st2 own2 gr2)
          go_loopw [12, 13, 43, 44, 45, 46, 47, 48, 49, 50, 51, 52, 53, 54, 55, 56, 57, 58, 59, 60, 61, 62, 63, 64, 65, 66, 67, 68, 69, 70, 71, 72, 73, 74, 75, 76, 77, 78, 79, 80, 81, 82, 83, 84, 85, 86, 87, 88, 89, 90, 91, 92, 93, 94, 95, 96, 97, 98, 99, 100, 101, 102, 103, 104, 105, 106, 107, 108, 109, 110, 111, 112, 113, 114, 115, 116, 117, 118, 119, 120, 121, 122, 123, 124, 125, 126, 127, 128, 129, 130, 131, 132, 133, 134, 135, 136, 137, 138, 139, 140, 141, 142, 143, 144, 145, 146, 147, 148] (fun s _ _ _ _ _ _ _ _ _ _ _ _ _ _ _ _ _ _ _ _ _ _ _ _ _ _ _ _ _ _ _ _ _ _ _ _ _ _ _ _ _ _ _ _ _ _ _ _ _ _ _ _ _ _ _ _ _ _ _ _ _ _ _ _ _ _ _ _ _ _ _ _ _ _ _ _ _ _ _ _ _ _ _ _ _ _ _ _ _ _ _ _ _ _ _ _ _ _ _ _ _ _ _ _ _ _ _ wr => ∃ (j : Nat), j ≤ add.length + 1 ∧ s = .int .i64 j ∧ RowI h w0 drop.length add.length F w0.heap.size (0) hi hs wo.heap.size j wr) (fun i _ _ _ _ _ _ _ _ _ _ _ _ _ _ _ _ _ _ _ _ _ _ _ _ _ _ _ _ _ _ _ _ _ _ _ _ _ _ _ _ _ _ _ _ _ _ _ _ _ _ _ _ _ _ _ _ _ _ _ _ _ _ _ _ _ _ _ _ _ _ _ _ _ _ _ _ _ _ _ _ _ _ _ _ _ _ _ _ _ _ _ _ _ _ _ _ _ _ _ _ _ _ _ _ _ _ _ _ => add.length + 1 - (intOf i).toNat)
          case atStart => exact ⟨0, Nat.zero_le _, rfl, R0.out⟩
          case round =>
            obtain ⟨j, hjl, rfl, R⟩ := hrel
            have R' := Lib.hid R
            by_cases hltj : j < add.length + 1
            · obtain ⟨c0, c1, c2, c3, c4, c5, -⟩ := R.cells hlt hltj
              have C3 := Lib.hid c3
              clear R c3
              rcases Nat.eq_zero_or_pos j with rfl | hj0
              · rw [show ((0 : Nat) : Int) = 0 from rfl]
                go_wp2_with fail
                go_quiet (fail)
                go_wp2_with fail
                go_roundw
                case rel => exact ⟨1, by omega, by go_num, (R'.out.drewN _).put (by omega) _ (by rw [← HFF.out]; rfl)⟩
                case measure => simp [intOf]
              · obtain ⟨j, rfl⟩ : ∃ k, j = k + 1 := ⟨j - 1, by omega⟩
                have d0 := C3.out j (by omega)
                obtain ⟨ba, oa, rfl, hba, hac⟩ := HA.out wr R'.out.st.imm0 (by omega)
                have d1 := hac j (by omega)
                have b1 := hF.out 0 j
                have b2 := HP.out.a add[j] (by simp)
                have HE : Hid (F 0 (j + 1) = F 0 j + add[j]) := by unfold Hid; rw [← HFF.out]; show ptRow0 add (j + 1) = _; rw [ptRow0, getD_of_lt _ _ _ (by omega)]; rfl
                clear hac
                have q1 : IntKind.i64.wrap (j : Int) = j := w64 (by omega)
                have q2 : (0 : Int) ≤ (j : Int) := by omega
                have q3 : (j : Int) < (add.length : Int) + 1 := by omega
                have q4 : (j : Int) < (add.length : Int) := by omega
                have q6 : (0 : Int) ≤ (j : Int) + 1 := by omega
                have q5 : IntKind.i64.wrap (F 0 j + add[j]) = F 0 j + add[j] := w64 (by omega)
                go_wp2_with fail
                go_quiet (fail)
                go_wp2_with fail
                go_quiet (fail)
                go_wp2_with fail
                go_roundw
                case rel => exact ⟨j + 1 + 1, by omega, by go_num, (R'.out.drewN _).put (by omega) _ (by have := HE.out; first | exact this.symm | omega | (split <;> omega))⟩
                case measure => simp [intOf]; omega
            · obtain rfl : j = add.length + 1 := by omega
              obtain ⟨hi', P2⟩ := R.done hal (fun j hj => by have := hF.out 0 j; unfold I64; omega) hlt
              go_wp2_with fail
              go_roundw
              case rel => exact ⟨1, hi', _, by omega, by go_num, P2⟩
              case measure => simp [intOf]
      · as_aux_lemma =>
          obtain ⟨i, rfl⟩ : ∃ k, i = k + 1 := ⟨i - 1, by omega⟩
          rw [show ((i + 1 : Nat) : Int) = (i : Int) + 1 from by omega]
          go_wp2_with (at_make; refine wpList_mk el_ints rfl _ _ rfl P'.out.st .i64 .i64 _ _ (add.length + 1) rfl rfl (by go_num) (by go_num) (by omega) ?_; intro w2 st2 own2 gr2; rw [madeCells1] at own2; obtain ⟨e1, e2⟩ := P'.out.cells hlt gr2; have R0 := Lib.hid (P'.out.start hlt gr2 st2 own2); have hgl2 := (own2.lt wo.heap.size rfl).2; clear st2 own2 gr2)
          go_loopw [12, 13, 43, 44, 45, 46, 47, 48, 49, 50, 51, 52, 53, 54, 55, 56, 57, 58, 59, 60, 61, 62, 63, 64, 65, 66, 67, 68, 69, 70, 71, 72, 73, 74, 75, 76, 77, 78, 79, 80, 81, 82, 83, 84, 85, 86, 87, 88, 89, 90, 91, 92, 93, 94, 95, 96, 97, 98, 99, 100, 101, 102, 103, 104, 105, 106, 107, 108, 109, 110, 111, 112, 113, 114, 115, 116, 117, 118, 119, 120, 121, 122, 123, 124, 125, 126, 127, 128, 129, 130, 131, 132, 133, 134, 135, 136, 137, 138, 139, 140, 141, 142, 143, 144, 145, 146, 147, 148] (fun s _ _ _ _ _ _ _ _ _ _ _ _ _ _ _ _ _ _ _ _ _ _ _ _ _ _ _ _ _ _ _ _ _ _ _ _ _ _ _ _ _ _ _ _ _ _ _ _ _ _ _ _ _ _ _ _ _ _ _ _ _ _ _ _ _ _ _ _ _ _ _ _ _ _ _ _ _ _ _ _ _ _ _ _ _ _ _ _ _ _ _ _ _ _ _ _ _ _ _ _ _ _ _ _ _ _ _ wr => ∃ (j : Nat), j ≤ add.length + 1 ∧ s = .int .i64 j ∧ RowI h w0 drop.length add.length F w0.heap.size (i + 1) hi hs wo.heap.size j wr) (fun i _ _ _ _ _ _ _ _ _ _ _ _ _ _ _ _ _ _ _ _ _ _ _ _ _ _ _ _ _ _ _ _ _ _ _ _ _ _ _ _ _ _ _ _ _ _ _ _ _ _ _ _ _ _ _ _ _ _ _ _ _ _ _ _ _ _ _ _ _ _ _ _ _ _ _ _ _ _ _ _ _ _ _ _ _ _ _ _ _ _ _ _ _ _ _ _ _ _ _ _ _ _ _ _ _ _ _ _ => add.length + 1 - (intOf i).toNat)
          case atStart => exact ⟨0, Nat.zero_le _, rfl, R0.out⟩
          case round =>
            obtain ⟨j, hjl, rfl, R⟩ := hrel
            have R' := Lib.hid R
            by_cases hltj : j < add.length + 1
            · obtain ⟨c0, c1, c2, c3, c4, c5, c6⟩ := R.cells hlt hltj
              have C3 := Lib.hid c3
              obtain ⟨bp, op, cp, e0, e1⟩ := c6 i (by omega)
              have E1 := Lib.hid e1
              obtain ⟨bd, od, rfl, hbd, hdc⟩ := HD.out wr R'.out.st.imm0 (by omega)
              have d1 := hdc i (by omega)
              have b2 := HP.out.d drop[i] (by simp)
              clear hdc e1 R c3 c6
              have q1 : IntKind.i64.wrap (i : Int) = i := w64 (by omega)
              have q2 : (0 : Int) ≤ (i : Int) := by omega
              have q3 : (i : Int) < (drop.length : Int) + 1 := by omega
              have q4 : (i : Int) < (drop.length : Int) := by omega
              have q6 : (0 : Int) ≤ (i : Int) + 1 := by omega
              rcases Nat.eq_zero_or_pos j with rfl | hj0
              · rw [show ((0 : Nat) : Int) = 0 from rfl]
                have d0 := E1.out 0 (by omega)
                have b1 := hF.out i 0
                have HE : Hid (F (i + 1) 0 = F i 0 + drop[i]) := by unfold Hid; rw [← HFF.out]; show ptStep (pt drop add cost i) (drop.getD i 0) add (cost.getD i []) 0 = _; rw [ptStep, getD_of_lt _ _ _ (by omega)]
                have q5 : IntKind.i64.wrap (F i 0 + drop[i]) = F i 0 + drop[i] := w64 (by omega)
                simp only [Nat.add_zero] at d0
                go_wp2_with fail
                go_quiet (fail)
                go_wp2_with fail
                go_quiet (fail)
                go_wp2_with fail
                go_roundw
                case rel => exact ⟨1, by omega, by go_num, (R'.out.drewN _).put (by omega) _ (by have := HE.out; first | exact this.symm | omega | (split <;> omega))⟩
                case measure => simp [intOf]
              · obtain ⟨j, rfl⟩ : ∃ k, j = k + 1 := ⟨j - 1, by omega⟩
                have d0 := E1.out (j + 1) (by omega)
                have d00 := E1.out j (by omega)
                have c3 := C3.out j (by omega)
                have b1 := hF.out i (j + 1)
                have b11 := hF.out i j
                have b12 := hF.out (i + 1) j
                obtain ⟨ba, oa, rfl, hba, hac⟩ := HA.out wr R'.out.st.imm0 (by omega)
                have d3 := hac j (by omega)
                have b3 := HP.out.a add[j] (by simp)
                have hcl := HP.out.cl
                obtain ⟨bc, oc, rfl, hbc, hcc⟩ := HC.out wr R'.out.st.imm0 (by omega)
                obtain ⟨ar, cr, d4, hrow⟩ := hcc i (by omega)
                have hrl := HP.out.rl i (by omega)
                obtain ⟨ar', cr', hre, -, hrc0⟩ := hrow.open
                simp only [Value.slice.injEq, true_and] at hre
                obtain ⟨rfl, rfl⟩ := hre
                obtain ⟨br, or, rfl, hbr, hrc⟩ := hrc0 wr R'.out.st.imm0 (by omega)
                have d5 := hrc j (by omega)
                have b5 := HP.out.c i (by omega) (cost[i][j]) (by simp)
                have HE : Hid (F (i + 1) (j + 1) = if 0 ≤ cost[i][j] then min (min (F i (j + 1) + drop[i]) (F (i + 1) j + add[j])) (F i j + cost[i][j]) else min (F i (j + 1) + drop[i]) (F (i + 1) j + add[j])) := by
                  unfold Hid
                  rw [← HFF.out]
                  rw [pt_succ, getD_of_lt drop i _ (by omega), getD_of_lt add j _ (by omega), getD_of_lt cost i _ (by omega), getD_of_lt cost[i] j _ (by omega)]
                rw [hrl] at d4
                have hcl2 : i < cost.length := by omega
                generalize cost[i][j] = x at *
                generalize drop[i] = xd at *
                generalize add[j] = xa at *
                clear hrc hrc0 hcc hac hrow
                clear hrl
                clear hcl
                have r1 : IntKind.i64.wrap (j : Int) = j := w64 (by omega)
                have r2 : (0 : Int) ≤ (j : Int) := by omega
                have r3 : (j : Int) < (add.length : Int) + 1 := by omega
                have r4 : (j : Int) < (add.length : Int) := by omega
                have r6 : (0 : Int) ≤ (j : Int) + 1 := by omega
                have r5 : IntKind.i64.wrap (F i (j + 1) + xd) = F i (j + 1) + xd := w64 (by omega)
                have r7 : IntKind.i64.wrap (F (i + 1) j + xa) = F (i + 1) j + xa := w64 (by omega)
                have r8 : IntKind.i64.wrap (F i j + x) = F i j + x := w64 (by omega)
                have g0 : decide (F i (j + 1) + xd < 0) = false := by simp only [decide_eq_false_iff_not]; omega
                by_cases hm : F (i + 1) j + xa < F i (j + 1) + xd
                · have g1 : decide (F (i + 1) j + xa < F i (j + 1) + xd) = true := by simpa using hm
                  rw [Int.min_eq_right (by omega : F (i + 1) j + xa ≤ F i (j + 1) + xd)] at HE
                  by_cases hx : 0 ≤ x
                  · rw [if_pos hx] at HE
                    go_wp2_with fail
                    go_quiet (fail)
                    go_wp2_with fail
                    go_quiet (fail)
                    go_wp2_with fail
                    go_quiet (fail)
                    go_wp2_with fail
                    go_quiet (fail)
                    go_wp2_with fail
                    go_roundw
                    case rel => exact ⟨j + 1 + 1, by omega, by go_num, (R'.out.drewN _).put (by omega) _ (by have := HE.out; (repeat' split) <;> omega)⟩
                    case measure => simp [intOf]; omega
                  · have g2 : decide (0 ≤ x) = false := by simpa using hx
                    rw [if_neg hx] at HE
                    go_wp2_with fail
                    go_quiet (fail)
                    go_wp2_with fail
                    go_quiet (fail)
                    go_wp2_with fail
                    go_quiet (fail)
                    go_wp2_with fail
                    go_roundw
                    case rel => exact ⟨j + 1 + 1, by omega, by go_num, (R'.out.drewN _).put (by omega) _ (by have := HE.out; (repeat' split) <;> omega)⟩
                    case measure => simp [intOf]; omega
                · have g1 : decide (F (i + 1) j + xa < F i (j + 1) + xd) = false := by simpa using hm
                  rw [Int.min_eq_left (by omega : F i (j + 1) + xd ≤ F (i + 1) j + xa)] at HE
                  by_cases hx : 0 ≤ x
                  · rw [if_pos hx] at HE
                    go_wp2_with fail
                    go_quiet (fail)
                    go_wp2_with fail
                    go_quiet (fail)
                    go_wp2_with fail
                    go_quiet (fail)
                    go_wp2_with fail
                    go_roundw
                    case rel => exact ⟨j + 1 + 1, by omega, by go_num, (R'.out.drewN _).put (by omega) _ (by have := HE.out; (repeat' split) <;> omega)⟩
                    case measure => simp [intOf]; omega
                  · have g2 : decide (0 ≤ x) = false := by simpa using hx
                    rw [if_neg hx] at HE
                    go_wp2_with fail
                    go_quiet (fail)
                    go_wp2_with fail
                    go_quiet (fail)
                    go_wp2_with fail
                    go_roundw
                    case rel => exact ⟨j + 1 + 1, by omega, by go_num, (R'.out.drewN _).put (by omega) _ (by have := HE.out; (repeat' split) <;> omega)⟩
                    case measure => simp [intOf]; omega
            · obtain rfl : j = add.length + 1 := by omega
              obtain ⟨hi', P2⟩ := R.done hal (fun j hj => by have := hF.out (i + 1) j; unfold I64; omega) hlt
              go_wp2_with fail
              go_roundw
              case rel => exact ⟨i + 1 + 1, hi', _, by omega, by go_num, P2⟩
              case measure => simp [intOf]; omega
    · as_aux_lemma =>
        obtain rfl : i = drop.length + 1 := by omega
        rw [show ((drop.length + 1 : Nat) : Int) = (drop.length : Int) + 1 from by omega]
        obtain rfl := HFF.out
        obtain ⟨w1, rfl⟩ : ∃ w1 : World, w1 = wo := ⟨_, rfl⟩
        have S1' := Lib.hid P'.out.st.fr
        have RP : Rws (hi.fr w0.heap.size w1) (.slice (some ⟨w0.heap.size, 0, none⟩) (drop.length + 1) (drop.length + 1)) (potT drop add cost) := by
          refine ⟨hs, ?_, ?_⟩
          · have := P'.out.own.sl (by omega)
            simpa [potT] using this
          · exact P'.out.enc.mono fun _ _ r => r.mono (Hp.le_fr (B := w0.heap.size) P'.out.st.imm)
        clear P P' P0 HFF
        generalize hi.fr w0.heap.size w1 = h1 at *
        obtain ⟨bp, op, cp, ee, hpc⟩ := pot_cells RP
        simp only [Value.slice.injEq, Option.some.injEq, Addr.mk.injEq, and_true, true_and] at ee
        obtain ⟨⟨rfl, rfl⟩, rfl⟩ := ee
        simp only [Nat.zero_add] at hpc
        have RP' := Lib.hid RP
        have PC := Lib.hid (fun w' hi => hpc w' hi)
        clear RP hpc
        have HF := hF
        have hfu := fun f i j h1 h2 => backP_fuel drop add cost f (i + j) i j h1 h2
        have HFU := Lib.hid hfu
        clear hfu
        go_wp2_with fail
        go_loopw [14, 15, 16, 151, 152, 153, 154, 155, 156, 157, 158, 159, 160, 161, 162, 163, 164, 165, 166, 167, 168, 169, 170, 171, 172, 173, 174, 175, 176, 177, 178, 179, 180, 181, 182, 183, 184, 185, 186, 187, 188, 189, 190, 191, 192, 193, 194, 195, 196, 197, 198, 199, 200, 201, 202, 203, 204, 205, 206, 207, 208, 209, 210, 211, 212, 213, 214, 215, 216, 217, 218, 219, 220, 221, 222, 223, 224, 225, 226, 227, 228, 229, 230, 231, 232, 233, 234, 235, 236, 237, 238, 239, 240, 241, 242, 243, 244, 245] (fun v i j _ _ _ _ _ _ _ _ _ _ _ _ _ _ _ _ _ _ _ _ _ _ _ _ _ _ _ _ _ _ _ _ _ _ _ _ _ _ _ _ _ _ _ _ _ _ _ _ _ _ _ _ _ _ _ _ _ _ _ _ _ _ _ _ _ _ _ _ _ _ _ _ _ _ _ _ _ _ _ _ _ _ _ _ _ _ _ _ _ _ _ _ _ _ _ wr => ∃ (i' j' : Nat) (l : List (Int × Int)), i' ≤ drop.length ∧ j' ≤ add.length ∧ i = .int .i64 i' ∧ j = .int .i64 j' ∧ St w1.heap.size h1 w1 h1 wr ∧ PrOw wr h1 w1.heap.size v l ∧ Hid (l ++ backP drop add cost (i' + j') i' j' = backP drop add cost (drop.length + add.length) drop.length add.length)) (fun _ i j _ _ _ _ _ _ _ _ _ _ _ _ _ _ _ _ _ _ _ _ _ _ _ _ _ _ _ _ _ _ _ _ _ _ _ _ _ _ _ _ _ _ _ _ _ _ _ _ _ _ _ _ _ _ _ _ _ _ _ _ _ _ _ _ _ _ _ _ _ _ _ _ _ _ _ _ _ _ _ _ _ _ _ _ _ _ _ _ _ _ _ _ _ _ _ _ => (intOf i).toNat + (intOf j).toNat)
        case atStart => exact ⟨drop.length, add.length, [], Nat.le_refl _, Nat.le_refl _, rfl, rfl, St.refl S1'.out.imm, Ow.nil _ _ _ _ _, rfl⟩
        case round =>
          obtain ⟨i, j, l, hil, hjl, rfl, rfl, S, O, R⟩ := hrel
          obtain ⟨al, cl, rfl⟩ := Ow.shape O
          have S' := Lib.hid S
          have O' := Lib.hid O
          obtain ⟨hbp, hpc⟩ := PC.out wr S.imm
          have PCW := Lib.hid hpc
          have IH0 : Hid (Imm h wr) := fun b c hc => S'.out.imm b c (S1'.out.le b c hc)
          clear hpc S O
          rcases Nat.eq_zero_or_pos i with rfl | hi0
          · rcases Nat.eq_zero_or_pos j with rfl | hj0
            · have hl : l = backP drop add cost (drop.length + add.length) drop.length add.length := by
                have := R.out
                rw [show backP drop add cost (0 + 0) 0 0 = [] from rfl, List.append_nil] at this
                exact this
              have hl2 : l.length ≤ 800 := by rw [hl]; have := backP_len drop add cost (drop.length + add.length) drop.length add.length; omega
              have HL := Lib.hid hl
              obtain ⟨bb, ob, cb', f0, f1⟩ := PCW.out drop.length (by omega)
              have F1 := f1 add.length (by omega)
              have b1 := HF.out drop.length add.length
              clear hl f1
              rw [show ((0 : Nat) : Int) = 0 from rfl]
              have S5 := S'.out.fr
              have PL : Prs (h1.fr w1.heap.size wr) (.slice al l.length cl) l := ⟨O'.out.sl (by omega), fun q hq => by
                rw [HL.out] at hq
                have := backP_mem _ _ _ _ _ _ q hq
                unfold I64; omega⟩
              have hnew : h1.fr w1.heap.size wr wr.heap.size = none := new_own S5.imm _ (Nat.le_refl _)
              obtain ⟨w5, rfl⟩ : ∃ w5 : World, w5 = wr := ⟨_, rfl⟩
              generalize h1.fr w1.heap.size w5 = h5 at *
              have hll := HL.out
              obtain ⟨a5, c5, e5, -, hpl⟩ := PL.open
              simp only [Value.slice.injEq, true_and] at e5
              obtain ⟨rfl, rfl⟩ := e5
              have PLW := Lib.hid hpl
              have PL' := Lib.hid PL
              have S5' := Lib.hid S5
              clear hpl PL S5 hll O' S'
              go_wp2_with fail
              have R0 : Hid (RvI h5 w5 l (.int .i64 (pt drop add cost drop.length add.length)) (.slice (some ⟨w0.heap.size, 0, none⟩) (drop.length + 1) (drop.length + 1)) 0 (w5.alloc (Obj.cells #[.slice none 0 0, .int .i64 (pt drop add cost drop.length add.length), .slice (some ⟨w0.heap.size, 0, none⟩) (drop.length + 1) (drop.length + 1)] 43)) (.slice none 0 0)) :=
                ⟨(St.refl S5'.out.imm).alloc _, hnew, Has.new _ _ _, by simpa [PrOw] using Ow.nil _ _ _ _ _⟩
              go_loopw [18, 258, 259, 260, 261, 262, 263, 264, 265, 266, 267, 268, 269, 270] (fun i _ _ _ _ _ _ _ _ _ _ _ _ _ wr => ∃ (k : Nat) (vp : Value), k ≤ l.length ∧ i = .int .i64 ((l.length : Int) - 1 - k) ∧ RvI h5 w5 l (.int .i64 (pt drop add cost drop.length add.length)) (.slice (some ⟨w0.heap.size, 0, none⟩) (drop.length + 1) (drop.length + 1)) k wr vp) (fun i _ _ _ _ _ _ _ _ _ _ _ _ _ _ => (intOf i + 1).toNat)
              case atStart => exact ⟨0, _, Nat.zero_le _, by go_num, R0.out⟩
              case round =>
                obtain ⟨k, vp, hkl, rfl, R⟩ := hrel
                clear R0
                have R' := Lib.hid R
                have x0 : wr.cell? ⟨w5.heap.size, 0, none⟩ = some vp := R.has.cl 0
                have x1 : wr.cell? ⟨w5.heap.size, 1, none⟩ = some (.int .i64 (pt drop add cost drop.length add.length)) := R.has.cl 1
                have x2 : wr.cell? ⟨w5.heap.size, 2, none⟩ = some (.slice (some ⟨w0.heap.size, 0, none⟩) (drop.length + 1) (drop.length + 1)) := R.has.cl 2
                have xl := R.has.lt
                by_cases hlt : k < l.length
                · obtain ⟨m, hm⟩ : ∃ m : Nat, (l.length : Int) - 1 - k = m := ⟨l.length - 1 - k, by omega⟩
                  have hml : m < l.length := by omega
                  have hrv : Hid (l.reverse[k]? = some l[m]) := by unfold Hid; rw [List.getElem?_reverse hlt, show l.length - 1 - k = m by omega, List.getElem?_eq_getElem hml]
                  obtain ⟨bl, ol, rfl, hbl, hc⟩ := PLW.out wr R.st.imm (by omega)
                  obtain ⟨y0, y1⟩ := hc m hml
                  have OP : Hid (Ow wr h5 (w5.heap.size + 1) 52 2 vp (l.reverse.take k).length ((l.reverse.take k).flatMap encP)) := R.own
                  have SR : Hid (St (w5.heap.size + 1) h5 wr h5 wr) := St.refl' R.st.imm R.has.lt
                  have SW : Hid (St w5.heap.size h5 w5 h5 wr) := R.st
                  have hn : ((l.reverse.take k).length + 1) * 16 ≤ 140737488355328 := by rw [List.length_take, List.length_reverse]; omega
                  rw [hm]
                  generalize l[m] = pp at *
                  obtain ⟨p1, p2⟩ := pp
                  have NX : Hid (∀ {w6 : World} {v' : Value}, St (w5.heap.size + 1) h5 wr h5 w6 → Ow w6 h5 (w5.heap.size + 1) 52 2 v' ((l.reverse.take k).length + 1) ((l.reverse.take k).flatMap encP ++ encP (p1, p2)) → ((wr.alloc (Obj.cells #[.int .i64 p1, .int .i64 p2] 52)).drewN 1).grownBy w6 vp.ownBlock → (w6.cell? ⟨w5.heap.size, 0, none⟩ = some vp ∧ w6.frozen? ⟨w5.heap.size, 0, none⟩ = false ∧ w5.heap.size < w6.heap.size) ∧ RvI h5 w5 l (.int .i64 (pt drop add cost drop.length add.length)) (.slice (some ⟨w0.heap.size, 0, none⟩) (drop.length + 1) (drop.length + 1)) (k + 1) (w6.setCell ⟨w5.heap.size, 0, none⟩ v') v') := fun st1 own2 gr2 => R'.out.next hlt hrv.out st1 own2 gr2
                  clear R hc R'
                  generalize l.reverse.take k = lr at *
                  have u0 : (0 : Int) ≤ (m : Int) := by omega
                  have u1 : (m : Int) < (l.length : Int) := by omega
                  go_wp2_with fail
                  go_region_law (first | (refine step_app el_pairs (by rfl) _ _ (by rfl) ((SR.out.alloc _).drewN _) vp lr.length (lr.flatMap encP) (by rfl) ((OP.out.alloc _).drewN _) ⟨wr.heap.size, 0, none⟩ 1 1 (encP (p1, p2)) (by rfl) (by rfl) (new_cells _ _ _ _ (by simp)) (one_cells _ rfl) (by omega) hn ?_; intro gg cg w6 st2 own2 gr2 bk2; obtain ⟨⟨t1, t2, t3⟩, RN0⟩ := (NX.out st2 own2 gr2); have RN := Lib.hid RN0; clear RN0 st2 own2 gr2 bk2))
                  all_goals
                    go_wp2_with fail
                    go_roundw
                    case rel => exact ⟨k + 1, _, by omega, by go_num, RN.out⟩
                    case measure => simp [intOf]
                · obtain rfl : k = l.length := by omega
                  have hrv : l.reverse.take l.length = l.reverse := List.take_of_length_le (by simp)
                  have hw1 : w.heap.size < wr.heap.size := by have := S5'.out.below.size; have := S1'.out.below.size; have := HZ0.out; omega
                  have SB : Hid (St w.heap.size h w h5 wr) := ((S0.out.call S1'.out).call S5'.out).call R.st
                  have HB := B0.out wr (by
                    have e1 := S1'.out.below
                    have e2 := S5'.out.below.mono S1'.out.below.size
                    have e3 := R.st.below.mono (Nat.le_trans S1'.out.below.size S5'.out.below.size)
                    rw [← HZ0.out]
                    exact (e1.trans e2).trans e3)
                  have k0 : wr.cell? ⟨w.heap.size, 0, none⟩ = some (.slice none 0 0) := (HB 0).1
                  have k1 : wr.cell? ⟨w.heap.size, 1, none⟩ = some (.int .i64 0) := (HB 1).1
                  have k2 : wr.cell? ⟨w.heap.size, 2, none⟩ = some (.slice none 0 0) := (HB 2).1
                  have z0 := (HB 0).2
                  have z1 := (HB 1).2
                  have z2 := (HB 2).2
                  have RO : Hid (PrOw wr h5 (w5.heap.size + 1) vp l.reverse) := by unfold Hid; rw [← hrv]; exact R.own
                  obtain ⟨av, cv, rfl⟩ := Ow.shape RO.out
                  have hsl : l.reverse.length = l.length := List.length_reverse
                  rw [hsl] at RO x0
                  have hno : Hid (h5 w.heap.size = none) := by
                    unfold Hid
                    rw [S5'.out.old _ (by have := S1'.out.below.size; have := HZ0.out; omega), S1'.out.old _ (by have := HZ0.out; omega)]
                    exact new_own HI.out _ (Nat.le_refl _)
                  have hbz : w.heap.size + 1 ≤ w5.heap.size := by have := S5'.out.below.size; have := S1'.out.below.size; have := HZ0.out; omega
                  clear R HB hrv
                  go_wp2_with fail
                  have hne : ∀ i, (Value.slice av l.length cv).ownBlock ≠ some (⟨w.heap.size, i, none⟩ : Addr).block := fun i e => by have h9 := (Ow.lt RO.out _ e).1; simp only at h9; omega
                  refine bodyPost_ret (v := .tuple #[.agg #[.slice av l.length cv, .int .i64 (pt drop add cost drop.length add.length), .slice (some ⟨w0.heap.size, 0, none⟩) (drop.length + 1) (drop.length + 1)], .int .i64 0]) (by simp [results, Try.results39, go_sem, k0, k1, k2]) rfl ?_
                  have Sc := ((SB.out.setCell (p := ⟨w.heap.size, 0, none⟩) (Nat.le_refl _) hno.out (.slice av l.length cv)).setCell (p := ⟨w.heap.size, 1, none⟩) (Nat.le_refl _) hno.out (.int .i64 (pt drop add cost drop.length add.length))).setCell (p := ⟨w.heap.size, 2, none⟩) (Nat.le_refl _) hno.out (.slice (some ⟨w0.heap.size, 0, none⟩) (drop.length + 1) (drop.length + 1))
                  have own6 := (Ow.base ((Ow.setCell (Ow.setCell (Ow.setCell RO.out (hne 0) (.slice av l.length cv)) (hne 1) (.int .i64 (pt drop add cost drop.length add.length))) (hne 2) (.slice (some ⟨w0.heap.size, 0, none⟩) (drop.length + 1) (drop.length + 1)))) (B' := w.heap.size) (by omega)).sl (by omega)
                  have hpl : (potT drop add cost).length = drop.length + 1 := by simp [potT]
                  refine ⟨[.slice av l.length cv, .int .i64 (pt drop add cost drop.length add.length), .slice (some ⟨w0.heap.size, 0, none⟩) (drop.length + 1) (drop.length + 1)], rfl, _, Sc.fr, av, cv, some ⟨w0.heap.size, 0, none⟩, drop.length + 1, ?_, ?_, ?_, ?_⟩
                  · simp [alignP, hpl, HL.out]
                  · simp only [alignP]; unfold I64; omega
                  · refine ⟨?_, fun q hq => ?_⟩
                    · have e : (alignP drop add cost).pairs = l.reverse := by rw [HL.out]; rfl
                      rw [e, hsl]
                      rw [hsl] at own6
                      exact own6
                    · simp only [alignP, List.mem_reverse] at hq
                      have := backP_mem _ _ _ _ _ _ q hq
                      unfold I64; omega
                  · have := (RP'.out.mono S5'.out.le).mono (Hp.le_fr (B := w.heap.size) Sc.imm)
                    simpa [alignP, hpl] using this
            · obtain ⟨j, rfl⟩ : ∃ k, j = k + 1 := ⟨j - 1, by omega⟩
              have RN : Hid (l ++ backP drop add cost (0 + j) 0 j = backP drop add cost (drop.length + add.length) drop.length add.length) := by
                unfold Hid
                rw [← R.out, show 0 + (j + 1) = (0 + j) + 1 by omega, backP, if_pos (by omega), if_neg (by omega), if_neg (by omega)]
                rfl
              go_wp2_with fail
              go_quiet (fail)
              go_wp2_with fail
              go_quiet (fail)
              go_wp2_with fail
              go_roundw
              case rel => exact ⟨0, j, l, by omega, by omega, rfl, by go_num, (S'.out.drewN _), (O'.out.drewN _), RN⟩
              case measure => simp [intOf]
          · obtain ⟨i, rfl⟩ : ∃ k, i = k + 1 := ⟨i - 1, by omega⟩
            obtain ⟨ba, oa, ca', e0, e1⟩ := PCW.out i (by omega)
            obtain ⟨bb, ob, cb', f0, f1⟩ := PCW.out (i + 1) (by omega)
            obtain ⟨bd, od, rfl, hbd, hdc⟩ := HD.out wr IH0.out (by omega)
            have dd := hdc i (by omega)
            have b2 := HP.out.d drop[i] (by simp)
            have hgd : Hid (drop.getD i 0 = drop[i]) := getD_of_lt _ _ _ _
            generalize drop[i] = xd at *
            have E1 := Lib.hid e1
            have F1 := Lib.hid f1
            clear hdc e1 f1
            have q1 : IntKind.i64.wrap (i : Int) = i := w64 (by omega)
            have q2 : (0 : Int) ≤ (i : Int) := by omega
            have q3 : (i : Int) < (drop.length : Int) + 1 := by omega
            have q4 : (i : Int) < (drop.length : Int) := by omega
            have q6 : (0 : Int) ≤ (i : Int) + 1 := by omega
            rcases Nat.eq_zero_or_pos j with rfl | hj0
            · have RN : Hid (l ++ backP drop add cost (i + 0) i 0 = backP drop add cost (drop.length + add.length) drop.length add.length) := by
                unfold Hid
                rw [← R.out, show (i + 1) + 0 = (i + 0) + 1 by omega, backP, if_pos (by omega), if_neg (by omega), if_pos ⟨by omega, pt_col drop add cost i⟩]
                rfl
              have g0 := E1.out 0 (by omega)
              have g1 := F1.out 0 (by omega)
              simp only [Nat.add_zero] at g0 g1
              have b1 := HF.out i 0
              have b3 : Hid (pt drop add cost (i + 1) 0 = pt drop add cost i 0 + xd) := by unfold Hid; rw [pt_col, hgd.out]
              have q5 : IntKind.i64.wrap (pt drop add cost i 0 + xd) = pt drop add cost i 0 + xd := w64 (by omega)
              have q7 : (pt drop add cost (i + 1) 0 == pt drop add cost i 0 + xd) = true := ibeqT b3.out
              generalize pt drop add cost (i + 1) 0 = y1 at *
              generalize pt drop add cost i 0 = y0 at *
              go_wp2_with fail
              go_quiet (fail)
              go_wp2_with fail
              go_quiet (fail)
              clear q5
              go_wp2_with fail
              go_roundw
              case rel => exact ⟨i, 0, l, by omega, by omega, by go_num, rfl, (S'.out.drewN _), (O'.out.drewN _), RN⟩
              case measure => simp [intOf]
            · obtain ⟨j, rfl⟩ : ∃ k, j = k + 1 := ⟨j - 1, by omega⟩
              have g0 := E1.out j (by omega)
              have g1 := E1.out (j + 1) (by omega)
              have g2 := F1.out (j + 1) (by omega)
              obtain ⟨bc, oc, rfl, hbc, hcc⟩ := HC.out wr IH0.out (by rw [HCL.out]; omega)
              obtain ⟨ar, cr, d4, hrow⟩ := hcc i (by rw [HCL.out]; omega)
              have hrl := HP.out.rl i (by rw [HCL.out]; omega)
              obtain ⟨ar', cr', hre, -, hrc0⟩ := hrow.open
              simp only [Value.slice.injEq, true_and] at hre
              obtain ⟨rfl, rfl⟩ := hre
              obtain ⟨br, or, rfl, hbr, hrc⟩ := hrc0 wr IH0.out (by omega)
              have d5 := hrc j (by omega)
              have b5 := HP.out.c i (by rw [HCL.out]; omega) ((cost[i]'(by rw [HCL.out]; omega))[j]'(by omega)) (by simp)
              have hgc : Hid ((cost.getD i []).getD j 0 = (cost[i]'(by rw [HCL.out]; omega))[j]'(by omega)) := by
                unfold Hid; rw [getD_of_lt cost i _ (by rw [HCL.out]; omega), getD_of_lt _ j _ (by omega)]
              rw [hrl] at d4
              generalize (cost[i]'(by rw [HCL.out]; omega))[j]'(by omega) = x at *
              clear hrc hrc0 hcc hrow
              clear hrl
              have hcl2 : i < cost.length := by rw [HCL.out]; omega
              have b1 := HF.out i j
              have b11 := HF.out i (j + 1)
              have b12 := HF.out (i + 1) (j + 1)
              have RB : Hid (backP drop add cost ((i + 1) + (j + 1)) (i + 1) (j + 1) = if 0 ≤ x ∧ pt drop add cost (i + 1) (j + 1) = pt drop add cost i j + x then ((i : Int), (j : Int)) :: backP drop add cost (i + j) i j else if pt drop add cost (i + 1) (j + 1) = pt drop add cost i (j + 1) + xd then backP drop add cost (i + (j + 1)) i (j + 1) else backP drop add cost ((i + 1) + j) (i + 1) j) := by
                unfold Hid
                rw [show (i + 1) + (j + 1) = (i + j + 1) + 1 by omega, backP, if_pos (by omega)]
                simp only [Nat.add_sub_cancel, hgc.out, hgd.out]
                rw [HFU.out (i + j + 1) i j (by omega) (by omega), HFU.out (i + j + 1) i (j + 1) (by omega) (by omega), HFU.out (i + j + 1) (i + 1) j (by omega) (by omega)]
                simp
              have r1 : IntKind.i64.wrap (j : Int) = j := w64 (by omega)
              have r2 : (0 : Int) ≤ (j : Int) := by omega
              have r3 : (j : Int) < (add.length : Int) + 1 := by omega
              have r4 : (j : Int) < (add.length : Int) := by omega
              have r6 : (0 : Int) ≤ (j : Int) + 1 := by omega
              have r7 : (i : Int) < (cost.length : Int) := by omega
              generalize pt drop add cost (i + 1) (j + 1) = y11 at *
              generalize pt drop add cost i (j + 1) = y01 at *
              generalize pt drop add cost i j = y00 at *
              have r5 : IntKind.i64.wrap (y00 + x) = y00 + x := w64 (by omega)
              have r8 : IntKind.i64.wrap (y01 + xd) = y01 + xd := w64 (by omega)
              by_cases hx : 0 ≤ x
              · by_cases hy : y11 = y00 + x
                · have hy' := ibeqT hy
                  have RN : Hid ((l ++ [((i : Int), (j : Int))]) ++ backP drop add cost (i + j) i j = backP drop add cost (drop.length + add.length) drop.length add.length) := by
                    unfold Hid; rw [← R.out, RB.out, if_pos ⟨hx, hy⟩]; simp
                  have hlb : l.length + 1 ≤ 800 := by
                    have e1 := congrArg List.length RN.out
                    have e2 := backP_len drop add cost (drop.length + add.length) drop.length add.length
                    simp only [List.length_append, List.length_cons, List.length_nil] at e1
                    omega
                  clear hy
                  go_wp2_with fail
                  go_quiet (fail)
                  clear r5 r8 q1 r1
                  go_wp2_with (at_builtin; refine wpList_app el_pairs rfl _ _ rfl ((S'.out.drewN _).alloc _) _ l.length _ rfl ((O'.out.drewN _).alloc _) ⟨_, 0, none⟩ 1 1 (encP ((i : Int), (j : Int))) rfl rfl (new_cells _ _ _ _ (by simp)) (one_cells _ rfl) (by omega) ?_; intro v2 w3 st2 own2 gr2 bk2)
                  go_roundw
                  case rel => exact ⟨i, j, l ++ [((i : Int), (j : Int))], by omega, by omega, by go_num, by go_num, st2, by unfold PrOw; rw [flatMap_snoc]; simpa using own2, RN⟩
                  case measure => simp [intOf]; omega
                · have hy' := ibeqF hy
                  have HY : Hid (y11 ≠ y00 + x) := hy
                  clear hy
                  by_cases hz : y11 = y01 + xd
                  · have hz' := ibeqT hz
                    have RN : Hid (l ++ backP drop add cost (i + (j + 1)) i (j + 1) = backP drop add cost (drop.length + add.length) drop.length add.length) := by
                      unfold Hid; rw [← R.out, RB.out, if_neg (fun e => HY.out e.2), if_pos hz]
                    clear hz
                    go_wp2_with fail
                    go_quiet (fail)
                    go_wp2_with fail
                    go_quiet (fail)
                    clear r5 r8 q1 r1
                    go_wp2_with fail
                    go_roundw
                    case rel => exact ⟨i, j + 1, l, by omega, by omega, by go_num, by go_num, (S'.out.drewN _), (O'.out.drewN _), RN⟩
                    case measure => simp [intOf]
                  · have hz' := ibeqF hz
                    have RN : Hid (l ++ backP drop add cost ((i + 1) + j) (i + 1) j = backP drop add cost (drop.length + add.length) drop.length add.length) := by
                      unfold Hid; rw [← R.out, RB.out, if_neg (fun e => HY.out e.2), if_neg hz]
                    clear hz
                    go_wp2_with fail
                    go_quiet (fail)
                    go_wp2_with fail
                    go_quiet (fail)
                    clear r5 r8 q1 r1
                    go_wp2_with fail
                    go_roundw
                    case rel => exact ⟨i + 1, j, l, by omega, by omega, by go_num, by go_num, (S'.out.drewN _), (O'.out.drewN _), RN⟩
                    case measure => simp [intOf]
              · have hx' : decide (0 ≤ x) = false := by simpa using hx
                have HX : Hid (¬ 0 ≤ x) := hx
                clear hx
                by_cases hz : y11 = y01 + xd
                · have hz' := ibeqT hz
                  have RN : Hid (l ++ backP drop add cost (i + (j + 1)) i (j + 1) = backP drop add cost (drop.length + add.length) drop.length add.length) := by
                    unfold Hid; rw [← R.out, RB.out, if_neg (fun e => HX.out e.1), if_pos hz]
                  clear hz
                  go_wp2_with fail
                  go_quiet (fail)
                  go_wp2_with fail
                  go_quiet (fail)
                  clear r5 r8 q1 r1
                  go_wp2_with fail
                  go_roundw
                  case rel => exact ⟨i, j + 1, l, by omega, by omega, by go_num, by go_num, (S'.out.drewN _), (O'.out.drewN _), RN⟩
                  case measure => simp [intOf]
                · have hz' := ibeqF hz
                  have RN : Hid (l ++ backP drop add cost ((i + 1) + j) (i + 1) j = backP drop add cost (drop.length + add.length) drop.length add.length) := by
                    unfold Hid; rw [← R.out, RB.out, if_neg (fun e => HX.out e.1), if_neg hz]
                  clear hz
                  go_wp2_with fail
                  go_quiet (fail)
                  go_wp2_with fail
                  go_quiet (fail)
                  clear r5 r8 q1 r1
                  go_wp2_with fail
                  go_roundw
                  case rel => exact ⟨i + 1, j, l, by omega, by omega, by go_num, by go_num, (S'.out.drewN _), (O'.out.drewN _), RN⟩
                  case measure => simp [intOf]
end Go.Proofs.Ytfifbadepebpeaa
