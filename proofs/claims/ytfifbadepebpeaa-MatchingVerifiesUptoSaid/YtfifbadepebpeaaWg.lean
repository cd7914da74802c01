/- potentials. -/
import Derived.Test.YtfifbadepebpeaaAli
import Derived.Test.YtfifbadepebpeaaBa
namespace Go.Proofs.Ytfifbadepebpeaa
open Go.RowKit

structure PotI (h : Hp) (w : World) (m n : Nat) (F : Nat → Nat → Int) (G i : Nat) (hi : Hp) (wr : World) (hs : List Value) : Prop where
  st : St w.heap.size h w hi wr
  own : Ow wr hi w.heap.size 35 1 (.slice (some ⟨G, 0, none⟩) (m + 1) (m + 1)) (m + 1) (hs ++ List.replicate (m + 1 - i) (.slice none 0 0))
  enc : EncL (RowC hi) ((List.range i).map fun i => (List.range (n + 1)).map (F i)) hs
  len : hs.length = i

structure RowI (h : Hp) (w : World) (m n : Nat) (F : Nat → Nat → Int) (G i : Nat) (hi : Hp) (hs : List Value) (g j : Nat) (wr : World) : Prop where
  st : St w.heap.size h w hi wr
  own : Ow wr hi w.heap.size 35 1 (.slice (some ⟨G, 0, none⟩) (m + 1) (m + 1)) (m + 1) (hs ++ (.slice (some ⟨g, 0, none⟩) (n + 1) (n + 1) :: List.replicate (m - i) (.slice none 0 0)))
  row : Ow wr hi w.heap.size 3 1 (.slice (some ⟨g, 0, none⟩) (n + 1) (n + 1)) (n + 1) ((rowTo (F i) (n + 1) j).map (Value.int .i64))
  ne : g ≠ G
  enc : EncL (RowC hi) ((List.range i).map fun i => (List.range (n + 1)).map (F i)) hs
  len : hs.length = i

theorem PotI.cells {h : Hp} {w : World} {m n : Nat} {F : Nat → Nat → Int} {G i : Nat} {hi : Hp} {wr w2 : World} {hs : List Value} (p : PotI h w m n F G i hi wr hs) (hlt : i < m + 1) (gr : wr.grownBy w2 none) :
    w2.cell? ⟨G, i, none⟩ = some (.slice none 0 0) ∧ w2.frozen? ⟨G, i, none⟩ = false := by
  obtain ⟨g', hg', _, _, _, hcl, hfz⟩ := (p.own.grown gr (fun _ _ e => by cases e)).cell (by omega)
  obtain rfl : G = g' := by simpa using hg'
  refine ⟨hcl _ _ ?_, hfz _⟩
  have h' : 0 < m + 1 - i := by omega
  rw [List.getElem?_append_right (by rw [p.len]; exact Nat.le_refl _), p.len, Nat.sub_self]
  simp [h']

theorem PotI.start {h : Hp} {w : World} {m n : Nat} {F : Nat → Nat → Int} {G i : Nat} {hi : Hp} {wr w2 : World} {hs : List Value} (p : PotI h w m n F G i hi wr hs) (hlt : i < m + 1) (gr : wr.grownBy w2 none)
    (st : St w.heap.size h w hi w2) (own : Ow w2 hi w.heap.size 3 1 (.slice (some ⟨wr.heap.size, 0, none⟩) (n + 1) (n + 1)) (n + 1) (List.replicate (n + 1) (.int .i64 0))) :
    RowI h w m n F G i hi hs wr.heap.size 0 (w2.setCell ⟨G, i, none⟩ (.slice (some ⟨wr.heap.size, 0, none⟩) (n + 1) (n + 1))) := by
  have hG := p.own.lt G rfl
  have hne : wr.heap.size ≠ G := by omega
  have o2 := p.own.grown gr (fun _ _ e => by cases e)
  refine ⟨st.setCell hG.1 (p.own.free G rfl) _, ?_, ?_, hne, p.enc, p.len⟩
  · have := o2.set i (.slice (some ⟨wr.heap.size, 0, none⟩) (n + 1) (n + 1)) (by omega)
    rw [List.set_append_right _ _ (by rw [p.len]; exact Nat.le_refl _), p.len, Nat.sub_self, show m + 1 - i = (m - i) + 1 by omega, List.replicate_succ, List.set_cons_zero] at this
    exact this
  · have : (rowTo (F i) (n + 1) 0).map (Value.int .i64) = List.replicate (n + 1) (.int .i64 0) := by simp [rowTo]
    rw [this]
    exact own.setCell (by simp only [Value.ownBlock, ne_eq, Option.some.injEq]; exact hne) _

theorem RowI.cells {h : Hp} {w : World} {m n : Nat} {F : Nat → Nat → Int} {G i : Nat} {hi : Hp} {hs : List Value} {g j : Nat} {wr : World} (r : RowI h w m n F G i hi hs g j wr) (_hi1 : i < m + 1) (hj : j < n + 1) :
    wr.cell? ⟨G, i, none⟩ = some (.slice (some ⟨g, 0, none⟩) (n + 1) (n + 1)) ∧ wr.cell? ⟨g, j, none⟩ = some (.int .i64 0) ∧ wr.frozen? ⟨g, j, none⟩ = false ∧ (∀ k, k < j → wr.cell? ⟨g, k, none⟩ = some (.int .i64 (F i k))) ∧
    G < wr.heap.size ∧ g < wr.heap.size ∧
    (∀ k, k < i → ∃ b off cap, wr.cell? ⟨G, k, none⟩ = some (.slice (some ⟨b, off, none⟩) (n + 1) cap) ∧ ∀ q, q < n + 1 → wr.cell? ⟨b, off + q, none⟩ = some (.int .i64 (F k q))) := by
  obtain ⟨g', hg', _, hGl, _, hcl, _⟩ := r.own.cell (by omega)
  obtain rfl : G = g' := by simpa using hg'
  obtain ⟨g', hg', _, hgl, _, rcl, rfz⟩ := r.row.cell (by omega)
  obtain rfl : g = g' := by simpa using hg'
  refine ⟨hcl _ _ ?_, rcl _ _ (rowTo_at _ _ _ hj), rfz _, fun k hk => rcl _ _ (rowTo_get _ _ _ _ hk), hGl, hgl, fun k hk => ?_⟩
  · rw [List.getElem?_append_right (by rw [r.len]; exact Nat.le_refl _), r.len, Nat.sub_self]; rfl
  · obtain ⟨a, ⟨ad, cap, rfl, hI⟩, ha⟩ := r.enc.at 1 RowC.len k (by simpa using hk)
    have e0 := ha 0 (by omega)
    simp only [Nat.mul_one, Nat.add_zero, List.getElem?_cons_zero] at e0
    obtain ⟨a1, c1, e1, _, hc⟩ := hI.open
    simp only [Value.slice.injEq, true_and] at e1
    obtain ⟨rfl, rfl⟩ := e1
    obtain ⟨b, off, rfl, _, hc⟩ := hc wr r.st.imm (by simp)
    simp only [List.getElem_map, List.getElem_range, List.length_map, List.length_range] at e0 hc
    refine ⟨b, off, cap, hcl _ _ (by rw [List.getElem?_append_left (by rw [r.len]; exact hk)]; exact e0), fun q hq => ?_⟩
    have := hc q (by simpa using hq)
    simpa using this

theorem RowI.put {h : Hp} {w : World} {m n : Nat} {F : Nat → Nat → Int} {G i : Nat} {hi : Hp} {hs : List Value} {g j : Nat} {wr : World} (r : RowI h w m n F G i hi hs g j wr) (hj : j < n + 1) (u : Int) (hu : u = F i j) :
    RowI h w m n F G i hi hs g (j + 1) (wr.setCell ⟨g, j, none⟩ (.int .i64 u)) := by
  subst hu
  have hg := r.row.lt g rfl
  refine ⟨r.st.setCell hg.1 (r.row.free g rfl) _, r.own.setCell (by simp only [Value.ownBlock, ne_eq, Option.some.injEq]; exact fun e => r.ne e.symm) _, ?_, r.ne, r.enc, r.len⟩
  have := r.row.set j (.int .i64 (F i j)) (by omega)
  rw [rowTo_set_map _ _ _ hj] at this
  exact this
theorem RowI.skip {h : Hp} {w : World} {m n : Nat} {F : Nat → Nat → Int} {G i : Nat} {hi : Hp} {hs : List Value} {g j : Nat} {wr : World} (r : RowI h w m n F G i hi hs g j wr) (hj : j < n + 1) (hu : F i j = 0) :
    RowI h w m n F G i hi hs g (j + 1) wr := ⟨r.st, r.own, by rw [rowTo_skip _ _ _ hj hu]; exact r.row, r.ne, r.enc, r.len⟩
theorem RowI.drew {h : Hp} {w : World} {m n : Nat} {F : Nat → Nat → Int} {G i : Nat} {hi : Hp} {hs : List Value} {g j : Nat} {wr : World} (r : RowI h w m n F G i hi hs g j wr) : RowI h w m n F G i hi hs g j wr.drew :=
  ⟨r.st.drew, r.own.drew, r.row.drew, r.ne, r.enc, r.len⟩
theorem RowI.drewN {h : Hp} {w : World} {m n : Nat} {F : Nat → Nat → Int} {G i : Nat} {hi : Hp} {hs : List Value} {g j : Nat} {wr : World} (r : RowI h w m n F G i hi hs g j wr) (q : Nat) : RowI h w m n F G i hi hs g j (wr.drewN q) :=
  ⟨r.st.drewN q, r.own.drewN q, r.row.drewN q, r.ne, r.enc, r.len⟩

theorem RowI.done {h : Hp} {w : World} {m n : Nat} {F : Nat → Nat → Int} {G i : Nat} {hi : Hp} {hs : List Value} {g : Nat} {wr : World} (r : RowI h w m n F G i hi hs g (n + 1) wr) (hn : n ≤ 400) (hF : ∀ j, j < n + 1 → I64 (F i j)) (him : i < m + 1) :
    ∃ hi', PotI h w m n F G (i + 1) hi' wr (hs ++ [.slice (some ⟨g, 0, none⟩) (n + 1) (n + 1)]) := by
  obtain ⟨h', i1, i2, i3, i4⟩ := r.row.giveUp r.st.imm (by omega)
  have hg := r.row.lt g rfl
  refine ⟨h', ⟨r.st.below, i1, Hp.le_trans r.st.le i2, fun b hb => ?_, r.st.base⟩, ?_, ?_, by simp [r.len]⟩
  · rw [i3 b (fun g' hg' e => by simp only [Value.ownBlock, Option.some.injEq] at hg'; omega)]; exact r.st.old b hb
  · have := r.own.keep (w' := wr) (h' := h') (fun _ _ => rfl) (fun g' hg' => i3 g' (fun k hk e => by
      simp only [Value.ownBlock, Option.some.injEq] at hg' hk
      exact r.ne (by omega)))
    rw [show m + 1 - (i + 1) = m - i by omega, List.append_assoc]
    exact this
  · rw [show List.range (i + 1) = List.range i ++ [i] from List.range_succ, List.map_append]
    refine (r.enc.mono fun _ _ q => q.mono i2).append (EncL.one ⟨some ⟨g, 0, none⟩, n + 1, by simp, ?_⟩)
    rw [rowTo_full] at i4
    refine ⟨by simpa using i4, fun q hq => ?_⟩
    obtain ⟨j, hj, rfl⟩ := List.mem_map.1 hq
    exact hF j (List.mem_range.1 hj)

set_option maxRecDepth 100000 in
set_option maxHeartbeats 4000000 in
theorem potentials_any (h : Hp) (w : World) (hi : Imm h w) (vd va vc : Value) (drop add : List Int) (cost : List (List Int)) (hd : Ints h vd drop) (ha : Ints h va add) (hc : Rws h vc cost) (hp : Prop17 drop add cost) :
    Calls Try.prog 69 #[vd, va, vc] w fun e w' => ∃ v, e = .returned v ∧ ∃ h', St w.heap.size h w h' w' ∧ Rws h' v (potT drop add cost) := by
  have HI := Lib.hid hi
  have HP := Lib.hid hp
  have hdl := hp.dl
  have hal := hp.al
  obtain ⟨ad, cd, rfl, hdn, hdc⟩ := hd.open
  obtain ⟨aa, ca, rfl, han, hac⟩ := ha.open
  obtain ⟨ac, cc, rfl, hcn, hcc⟩ := hc.open
  have HD := Lib.hid (fun w' hi => hdc w' hi)
  have HA := Lib.hid (fun w' hi => hac w' hi)
  have HC := Lib.hid (fun w' hi => hcc w' hi)
  clear hd ha hc hdc hac hcc hi hp
  go_enter Try.func69, Try.ntmps69
  go_wp2_with (at_make; refine wpList_mk el_rows rfl _ _ rfl (St.refl HI.out) .i64 .i64 _ _ (drop.length + 1) rfl rfl (by go_num) (by go_num) (by omega) ?_; intro w1 st1 own1 gr1; rw [madeCells1] at own1)
  have P0 : Hid (PotI h w drop.length add.length (pt drop add cost) w.heap.size 0 h w1 []) := ⟨st1, by simpa using own1, rfl, rfl⟩
  clear st1 own1 gr1
  have hF : Hid (∀ i j, 0 ≤ pt drop add cost i j ∧ pt drop add cost i j ≤ ((i + j : Nat) : Int) * 1048576) := pt_bd HP.out
  have HPT : Hid (∀ i j, pt drop add cost (i + 1) (j + 1) = _) := fun i j => rfl
  generalize hFF : pt drop add cost = F at *
  have HFF := Lib.hid hFF
  clear hFF
  go_loopw [8, 9, 10, 11, 18, 19, 20, 21, 22, 23, 24, 25, 26, 27, 28, 29, 30, 31, 32, 33, 34, 35, 36, 37, 38, 39, 40, 41, 42, 43, 44, 45, 46, 47, 48, 49, 50, 51, 52, 53, 54, 55, 56, 57, 58, 59, 60, 61, 62, 63, 64, 65, 66, 67, 68, 69, 70, 71, 72, 73, 74, 75, 76, 77, 78, 79, 80, 81, 82, 83, 84, 85, 86, 87, 88, 89, 90, 91, 92, 93, 94, 95, 96, 97, 98, 99, 100, 101, 102, 103, 104, 105, 106, 107, 108, 109, 110, 111, 112, 113, 114, 115, 116, 117, 118, 119, 120, 121, 122, 123, 124, 125, 126, 127, 128, 129, 130, 131, 132, 133, 134, 135, 136, 137, 138, 139, 140, 141, 142, 143, 144, 145, 146, 147, 148, 149, 150] (fun _ _ _ _ i _ _ _ _ _ _ _ _ _ _ _ _ _ _ _ _ _ _ _ _ _ _ _ _ _ _ _ _ _ _ _ _ _ _ _ _ _ _ _ _ _ _ _ _ _ _ _ _ _ _ _ _ _ _ _ _ _ _ _ _ _ _ _ _ _ _ _ _ _ _ _ _ _ _ _ _ _ _ _ _ _ _ _ _ _ _ _ _ _ _ _ _ _ _ _ _ _ _ _ _ _ _ _ _ _ _ _ _ _ _ _ _ _ _ _ _ _ _ _ _ _ _ _ _ _ _ _ _ _ _ _ _ wr => ∃ (i' : Nat) (hi : Hp) (hs : List Value), i' ≤ drop.length + 1 ∧ i = .int .i64 i' ∧ PotI h w drop.length add.length F w.heap.size i' hi wr hs) (fun _ _ _ _ i _ _ _ _ _ _ _ _ _ _ _ _ _ _ _ _ _ _ _ _ _ _ _ _ _ _ _ _ _ _ _ _ _ _ _ _ _ _ _ _ _ _ _ _ _ _ _ _ _ _ _ _ _ _ _ _ _ _ _ _ _ _ _ _ _ _ _ _ _ _ _ _ _ _ _ _ _ _ _ _ _ _ _ _ _ _ _ _ _ _ _ _ _ _ _ _ _ _ _ _ _ _ _ _ _ _ _ _ _ _ _ _ _ _ _ _ _ _ _ _ _ _ _ _ _ _ _ _ _ _ _ _ _ => drop.length + 1 - (intOf i).toNat)
  case atStart => exact ⟨0, h, [], Nat.zero_le _, rfl, P0.out⟩
  case round =>
    obtain ⟨i, hi, hs, hil, rfl, P⟩ := hrel
    obtain ⟨wo, rfl⟩ : ∃ wo : World, wo = wr := ⟨_, rfl⟩
    have P' := Lib.hid P
    by_cases hlt : i < drop.length + 1
    · have hGl := (P.own.lt w.heap.size rfl).2
      clear P
      rcases Nat.eq_zero_or_pos i with rfl | hi0
      · rw [show ((0 : Nat) : Int) = 0 from rfl]
        go_wp2_with (at_make; refine wpList_mk el_ints rfl _ _ rfl P'.out.st .i64 .i64 _ _ (add.length + 1) rfl rfl (by go_num) (by go_num) (by omega) ?_; intro w2 st2 own2 gr2; rw [madeCells1] at own2; obtain ⟨e1, e2⟩ := P'.out.cells hlt gr2; have R0 := Lib.hid (P'.out.start hlt gr2 st2 own2); have hgl2 := (own2.lt wo.heap.size rfl).2; clear st2 own2 gr2)
        go_loopw [9, 10, 11, 33, 34, 35, 36, 37, 38, 39, 40, 41, 42, 43, 44, 45, 46, 47, 48, 49, 50, 51, 52, 53, 54, 55, 56, 57, 58, 59, 60, 61, 62, 63, 64, 65, 66, 67, 68, 69, 70, 71, 72, 73, 74, 75, 76, 77, 78, 79, 80, 81, 82, 83, 84, 85, 86, 87, 88, 89, 90, 91, 92, 93, 94, 95, 96, 97, 98, 99, 100, 101, 102, 103, 104, 105, 106, 107, 108, 109, 110, 111, 112, 113, 114, 115, 116, 117, 118, 119, 120, 121, 122, 123, 124, 125, 126, 127, 128, 129, 130, 131, 132, 133, 134, 135, 136, 137, 138, 139, 140, 141, 142, 143, 144, 145, 146, 147, 148, 149] (fun _ _ _ s _ _ _ _ _ _ _ _ _ _ _ _ _ _ _ _ _ _ _ _ _ _ _ _ _ _ _ _ _ _ _ _ _ _ _ _ _ _ _ _ _ _ _ _ _ _ _ _ _ _ _ _ _ _ _ _ _ _ _ _ _ _ _ _ _ _ _ _ _ _ _ _ _ _ _ _ _ _ _ _ _ _ _ _ _ _ _ _ _ _ _ _ _ _ _ _ _ _ _ _ _ _ _ _ _ _ _ _ _ _ _ _ _ _ _ _ wr => ∃ (j : Nat), j ≤ add.length + 1 ∧ s = .int .i64 j ∧ RowI h w drop.length add.length F w.heap.size (0) hi hs wo.heap.size j wr) (fun _ _ _ i _ _ _ _ _ _ _ _ _ _ _ _ _ _ _ _ _ _ _ _ _ _ _ _ _ _ _ _ _ _ _ _ _ _ _ _ _ _ _ _ _ _ _ _ _ _ _ _ _ _ _ _ _ _ _ _ _ _ _ _ _ _ _ _ _ _ _ _ _ _ _ _ _ _ _ _ _ _ _ _ _ _ _ _ _ _ _ _ _ _ _ _ _ _ _ _ _ _ _ _ _ _ _ _ _ _ _ _ _ _ _ _ _ _ _ _ _ => add.length + 1 - (intOf i).toNat)
        case atStart => exact ⟨0, Nat.zero_le _, rfl, R0.out⟩
        case round =>
          obtain ⟨j, hjl, rfl, R⟩ := hrel
          have R' := Lib.hid R
          by_cases hltj : j < add.length + 1
          · obtain ⟨c0, c1, c2, c3, c4, c5, -⟩ := R.cells hlt hltj
            have C3 := Lib.hid c3
            clear R c3
            rcases Nat.eq_zero_or_pos j with rfl | hj0
            · go_wp2_with fail
              go_roundw
              case rel => exact ⟨1, by omega, by go_num, R'.out.skip (by omega) (by rw [← HFF.out]; rfl)⟩
              case measure => simp [intOf]
            · obtain ⟨j, rfl⟩ : ∃ k, j = k + 1 := ⟨j - 1, by omega⟩
              have d0 := C3.out j (by omega)
              obtain ⟨ba, oa, rfl, hba, hac⟩ := HA.out wr R'.out.st.imm0 (by omega)
              have d1 := hac j (by omega)
              have b1 := hF.out 0 j
              have b2 := HP.out.a add[j] (by simp)
              clear hac
              have q1 : IntKind.i64.wrap (j : Int) = j := w64 (by omega)
              have q2 : (0 : Int) ≤ (j : Int) := by omega
              have q3 : (j : Int) < (add.length : Int) + 1 := by omega
              have q4 : (j : Int) < (add.length : Int) := by omega
              have q6 : (0 : Int) ≤ (j : Int) + 1 := by omega
              have q5 : IntKind.i64.wrap (F 0 j + add[j]) = F 0 j + add[j] := w64 (by omega)
              go_wp2_with fail
              refine wp_region_still_tail 20 (by kernel_rfl) (by kernel_rfl) ?_
              simp only [List.take_succ_cons, List.take_zero, List.drop_succ_cons, List.drop_zero]
              change wpStill _ _ (World.drew _) (fun a' => wpList _ _ _ _ a' (World.drew _)) _ _
              repeat still_step
              refine wpStill_nil ?_
              go_wp2_with fail
              go_roundw
              case rel => exact ⟨j + 1 + 1, by omega, by go_num, R'.out.drew.put (by omega) _ (by rw [← HFF.out]; show _ = ptRow0 add (j + 1); rw [ptRow0, getD_of_lt _ _ _ (by omega)]; rfl)⟩
              case measure => simp [intOf]; omega
          · obtain rfl : j = add.length + 1 := by omega
            obtain ⟨hi', P2⟩ := R.done hal (fun j hj => by have := hF.out 0 j; unfold I64; omega) hlt
            go_wp2_with fail
            go_roundw
            case rel => exact ⟨1, hi', _, by omega, by go_num, P2⟩
            case measure => simp [intOf]
      · obtain ⟨i, rfl⟩ : ∃ k, i = k + 1 := ⟨i - 1, by omega⟩
        rw [show ((i + 1 : Nat) : Int) = (i : Int) + 1 from by omega]
        go_wp2_with (at_make; refine wpList_mk el_ints rfl _ _ rfl P'.out.st .i64 .i64 _ _ (add.length + 1) rfl rfl (by go_num) (by go_num) (by omega) ?_; intro w2 st2 own2 gr2; rw [madeCells1] at own2; obtain ⟨e1, e2⟩ := P'.out.cells hlt gr2; have R0 := Lib.hid (P'.out.start hlt gr2 st2 own2); have hgl2 := (own2.lt wo.heap.size rfl).2; clear st2 own2 gr2)
        go_loopw [9, 10, 11, 33, 34, 35, 36, 37, 38, 39, 40, 41, 42, 43, 44, 45, 46, 47, 48, 49, 50, 51, 52, 53, 54, 55, 56, 57, 58, 59, 60, 61, 62, 63, 64, 65, 66, 67, 68, 69, 70, 71, 72, 73, 74, 75, 76, 77, 78, 79, 80, 81, 82, 83, 84, 85, 86, 87, 88, 89, 90, 91, 92, 93, 94, 95, 96, 97, 98, 99, 100, 101, 102, 103, 104, 105, 106, 107, 108, 109, 110, 111, 112, 113, 114, 115, 116, 117, 118, 119, 120, 121, 122, 123, 124, 125, 126, 127, 128, 129, 130, 131, 132, 133, 134, 135, 136, 137, 138, 139, 140, 141, 142, 143, 144, 145, 146, 147, 148, 149] (fun _ _ _ s _ _ _ _ _ _ _ _ _ _ _ _ _ _ _ _ _ _ _ _ _ _ _ _ _ _ _ _ _ _ _ _ _ _ _ _ _ _ _ _ _ _ _ _ _ _ _ _ _ _ _ _ _ _ _ _ _ _ _ _ _ _ _ _ _ _ _ _ _ _ _ _ _ _ _ _ _ _ _ _ _ _ _ _ _ _ _ _ _ _ _ _ _ _ _ _ _ _ _ _ _ _ _ _ _ _ _ _ _ _ _ _ _ _ _ _ wr => ∃ (j : Nat), j ≤ add.length + 1 ∧ s = .int .i64 j ∧ RowI h w drop.length add.length F w.heap.size (i + 1) hi hs wo.heap.size j wr) (fun _ _ _ i _ _ _ _ _ _ _ _ _ _ _ _ _ _ _ _ _ _ _ _ _ _ _ _ _ _ _ _ _ _ _ _ _ _ _ _ _ _ _ _ _ _ _ _ _ _ _ _ _ _ _ _ _ _ _ _ _ _ _ _ _ _ _ _ _ _ _ _ _ _ _ _ _ _ _ _ _ _ _ _ _ _ _ _ _ _ _ _ _ _ _ _ _ _ _ _ _ _ _ _ _ _ _ _ _ _ _ _ _ _ _ _ _ _ _ _ _ => add.length + 1 - (intOf i).toNat)
        case atStart => exact ⟨0, Nat.zero_le _, rfl, R0.out⟩
        case round =>
          obtain ⟨j, hjl, rfl, R⟩ := hrel
          have R' := Lib.hid R
          by_cases hltj : j < add.length + 1
          · obtain ⟨c0, c1, c2, c3, c4, c5, c6⟩ := R.cells hlt hltj
            have C3 := Lib.hid c3
            obtain ⟨bp, op, cp, e0, e1⟩ := c6 i (by omega)
            have E1 := Lib.hid e1
            obtain ⟨bd, od, rfl, hbd, hdc⟩ := HD.out wr R'.out.st.imm0 (by omega)
            have d1 := hdc i (by omega)
            have b2 := HP.out.d drop[i] (by simp)
            clear hdc e1 R c3 c6
            have q1 : IntKind.i64.wrap (i : Int) = i := w64 (by omega)
            have q2 : (0 : Int) ≤ (i : Int) := by omega
            have q3 : (i : Int) < (drop.length : Int) + 1 := by omega
            have q4 : (i : Int) < (drop.length : Int) := by omega
            have q6 : (0 : Int) ≤ (i : Int) + 1 := by omega
            rcases Nat.eq_zero_or_pos j with rfl | hj0
            · have d0 := E1.out 0 (by omega)
              have b1 := hF.out i 0
              have q5 : IntKind.i64.wrap (F i 0 + drop[i]) = F i 0 + drop[i] := w64 (by omega)
              simp only [Nat.add_zero] at d0
              go_wp2_with fail
              refine wp_region_still_tail 20 (by kernel_rfl) (by kernel_rfl) ?_
              simp only [List.take_succ_cons, List.take_zero, List.drop_succ_cons, List.drop_zero]
              change wpStill _ _ (World.drew _) (fun a' => wpList _ _ _ _ a' (World.drew _)) _ _
              repeat still_step
              refine wpStill_nil ?_
              go_wp2_with fail
              go_roundw
              case rel => exact ⟨1, by omega, by go_num, R'.out.drew.put (by omega) _ (by rw [← HFF.out]; show _ = ptStep (pt drop add cost i) (drop.getD i 0) add (cost.getD i []) 0; rw [ptStep, getD_of_lt _ _ _ (by omega)])⟩
              case measure => simp [intOf]
            · obtain ⟨j, rfl⟩ : ∃ k, j = k + 1 := ⟨j - 1, by omega⟩
              have d0 := E1.out (j + 1) (by omega)
              have d00 := E1.out j (by omega)
              have c3 := C3.out j (by omega)
              have b1 := hF.out i (j + 1)
              have b11 := hF.out i j
              have b12 := hF.out (i + 1) j
              obtain ⟨ba, oa, rfl, hba, hac⟩ := HA.out wr R'.out.st.imm0 (by omega)
              have d3 := hac j (by omega)
              have b3 := HP.out.a add[j] (by simp)
              have hcl := HP.out.cl
              obtain ⟨bc, oc, rfl, hbc, hcc⟩ := HC.out wr R'.out.st.imm0 (by omega)
              obtain ⟨ar, cr, d4, hrow⟩ := hcc i (by omega)
              have hrl := HP.out.rl i (by omega)
              obtain ⟨ar', cr', hre, -, hrc0⟩ := hrow.open
              simp only [Value.slice.injEq, true_and] at hre
              obtain ⟨rfl, rfl⟩ := hre
              obtain ⟨br, or, rfl, hbr, hrc⟩ := hrc0 wr R'.out.st.imm0 (by omega)
              have d5 := hrc j (by omega)
              have b5 := HP.out.c i (by omega) (cost[i][j]) (by simp)
              have HE : Hid (F (i + 1) (j + 1) = if 0 ≤ cost[i][j] then min (min (F i (j + 1) + drop[i]) (F (i + 1) j + add[j])) (F i j + cost[i][j]) else min (F i (j + 1) + drop[i]) (F (i + 1) j + add[j])) := by
                unfold Hid
                rw [← HFF.out]
                rw [pt_succ, getD_of_lt drop i _ (by omega), getD_of_lt add j _ (by omega), getD_of_lt cost i _ (by omega), getD_of_lt cost[i] j _ (by omega)]
              rw [hrl] at d4
              have hcl2 : i < cost.length := by omega
              generalize cost[i][j] = x at *
              generalize drop[i] = xd at *
              generalize add[j] = xa at *
              clear hrc hrc0 hcc hac hrow
              clear hrl
              clear hcl
              have r1 : IntKind.i64.wrap (j : Int) = j := w64 (by omega)
              have r2 : (0 : Int) ≤ (j : Int) := by omega
              have r3 : (j : Int) < (add.length : Int) + 1 := by omega
              have r4 : (j : Int) < (add.length : Int) := by omega
              have r6 : (0 : Int) ≤ (j : Int) + 1 := by omega
              have r5 : IntKind.i64.wrap (F i (j + 1) + xd) = F i (j + 1) + xd := w64 (by omega)
              have r7 : IntKind.i64.wrap (F (i + 1) j + xa) = F (i + 1) j + xa := w64 (by omega)
              go_wp2_with fail
              go_quiet (fail)
              have hmin : (if F (i + 1) j + xa < F i (j + 1) + xd then F (i + 1) j + xa else F i (j + 1) + xd) = min (F i (j + 1) + xd) (F (i + 1) j + xa) := by split <;> omega
              rw [hmin]
              have HE2 := HE.out
              have hM : 0 ≤ min (F i (j + 1) + xd) (F (i + 1) j + xa) ∧ min (F i (j + 1) + xd) (F (i + 1) j + xa) ≤ 2000000000 := by omega
              clear hmin HE
              generalize min (F i (j + 1) + xd) (F (i + 1) j + xa) = M at *
              have HE := Lib.hid HE2
              clear HE2 r5 r7 q1 r1
              by_cases hx : 0 ≤ x
              · go_wp2_with fail
                go_roundw
                case rel => exact ⟨j + 1 + 1, by omega, by go_num, (R'.out.drewN _).put (by omega) _ (by rw [HE.out, if_pos hx]; split <;> omega)⟩
                case measure => simp [intOf]; omega
              · go_wp2_with fail
                go_roundw
                case rel => exact ⟨j + 1 + 1, by omega, by go_num, (R'.out.drewN _).put (by omega) _ (by rw [HE.out, if_neg (by omega)])⟩
                case measure => simp [intOf]; omega
          · obtain rfl : j = add.length + 1 := by omega
            obtain ⟨hi', P2⟩ := R.done hal (fun j hj => by have := hF.out (i + 1) j; unfold I64; omega) hlt
            go_wp2_with fail
            go_roundw
            case rel => exact ⟨i + 1 + 1, hi', _, by omega, by go_num, P2⟩
            case measure => simp [intOf]; omega
    · obtain rfl : i = drop.length + 1 := by omega
      have P2 := P'.out
      clear P
      go_wp2_with fail
      go_ret
      refine ⟨_, rfl, _, P2.st.fr, hs, ?_, ?_⟩
      · have := P2.own.sl (by omega)
        simpa [potT] using this
      · have := P2.enc.mono fun _ _ r => r.mono (Hp.le_fr (B := w.heap.size) P2.st.imm)
        rw [← HFF.out] at this
        exact this
end Go.Proofs.Ytfifbadepebpeaa
