/- sequence.Align. -/
import Derived.Test.YtfifbadepebpeaaWg
import Derived.Test.YtfifbadepebpeaaWe
namespace Go.Proofs.Ytfifbadepebpeaa
open Go.RowKit

theorem pot_cells {h : Hp} {v : Value} {drop add : List Int} {cost : List (List Int)} (hv : Rws h v (potT drop add cost)) : ∃ b off cap, v = .slice (some ⟨b, off, none⟩) (drop.length + 1) cap ∧
    ∀ w, Imm h w → b < w.heap.size ∧ ∀ k, k ≤ drop.length → ∃ b' o' c', w.cell? ⟨b, off + k, none⟩ = some (.slice (some ⟨b', o', none⟩) (add.length + 1) c') ∧ ∀ q, q ≤ add.length → w.cell? ⟨b', o' + q, none⟩ = some (.int .i64 (pt drop add cost k q)) := by
  have hl : (potT drop add cost).length = drop.length + 1 := by simp [potT]
  obtain ⟨cs, s, e⟩ := hv
  obtain ⟨a, cap, rfl, hn⟩ := s.shape
  have hs := s
  obtain ⟨a', cap', he, h1, h2, h3⟩ := hs
  simp only [Value.slice.injEq, true_and] at he
  obtain ⟨rfl, rfl⟩ := he
  rcases h3 with h3 | ⟨b, off, c, rfl, hb, hc⟩
  · omega
  refine ⟨b, off, cap, by rw [hl], fun w hi => ⟨blk_lt (hi b c hb), fun k hk => ?_⟩⟩
  obtain ⟨b1, off1, hab, hb', hc'⟩ := s.cells hi (by omega)
  simp only [Option.some.injEq, Addr.mk.injEq, and_true] at hab
  obtain ⟨rfl, rfl⟩ := hab
  obtain ⟨a1, ⟨ad, cp, rfl, hI⟩, h4⟩ := e.at 1 RowC.len k (by omega)
  have e0 := h4 0 (by omega)
  simp only [Nat.mul_one, Nat.add_zero, List.getElem?_cons_zero] at e0
  obtain ⟨a2, c2, e2, _, hcc⟩ := hI.open
  simp only [Value.slice.injEq, true_and] at e2
  obtain ⟨rfl, rfl⟩ := e2
  have hrow : (potT drop add cost)[k] = (List.range (add.length + 1)).map (pt drop add cost k) := by simp [potT]
  obtain ⟨b', o', rfl, _, hcc⟩ := hcc w hi (by rw [hrow]; simp)
  refine ⟨b', o', cp, ?_, fun q hq => ?_⟩
  · have := hc' _ _ e0
    rw [hrow] at this
    simpa using this
  · have := hcc q (by rw [hrow]; simpa using Nat.lt_succ_of_le hq)
    simpa [hrow] using this

set_option maxRecDepth 100000 in
set_option maxHeartbeats 4000000 in
theorem salign_any (h : Hp) (w : World) (hi : Imm h w) (vd va vc : Value) (drop add : List Int) (cost : List (List Int)) (hd : Ints h vd drop) (ha : Ints h va add) (hc : Rws h vc cost) (hp : Prop17 drop add cost) :
    Calls Try.prog 54 #[vd, va, vc] w fun e w' => ∃ cs, e = .returned (.tuple #[.agg cs.toArray, .int .i64 0]) ∧ ∃ h', St w.heap.size h w h' w' ∧ EncAlign h' (alignP drop add cost) cs := by
  have HI := Lib.hid hi
  have HP := Lib.hid hp
  have Hd := Lib.hid hd
  have Ha := Lib.hid ha
  have Hc := Lib.hid hc
  have hdl := hp.dl
  have hal := hp.al
  have hcl := hp.cl
  have hpB : Hid (properB drop add cost = true) := properB_iff.2 hp
  obtain ⟨ad, cd, rfl, hdn, hdc⟩ := hd.open
  obtain ⟨aa, ca, rfl, han, hac⟩ := ha.open
  obtain ⟨ac, cc, rfl, hcn, hcc⟩ := hc.open
  have HD := Lib.hid (fun w' hi => hdc w' hi)
  have HA := Lib.hid (fun w' hi => hac w' hi)
  have HC := Lib.hid (fun w' hi => hcc w' hi)
  have HCL := Lib.hid hcl
  clear hd ha hc hdc hac hcc hi hp hcl
  go_enter Try.func54, Try.ntmps54
  go_wp2_with fail
  refine (proper_any h _ (HI.out.alloc _) _ _ _ drop add cost Hd.out Ha.out Hc.out).mono ?_
  rintro e w' ⟨rfl, rfl⟩
  rw [hpB.out]
  go_wp2_with fail
  refine (potentials_any h _ (HI.out.alloc _) _ _ _ drop add cost Hd.out Ha.out Hc.out HP.out).mono ?_
  rintro e w1 ⟨vp, rfl, h1, S1, RP⟩
  obtain ⟨bp, op, cp, rfl, hpc⟩ := pot_cells RP
  have S1' := Lib.hid S1
  have RP' := Lib.hid RP
  have PC := Lib.hid (fun w' hi => hpc w' hi)
  clear RP hpc S1
  go_wp2_with fail
  have B1 : Hid (∀ i, w1.cell? ⟨w.heap.size, i, none⟩ = (#[.slice none 0 0, .int .i64 0, .slice none 0 0] : Array Value)[i]?) := fun i => by rw [S1'.out.below.cell (by simp), World.cell?_alloc_at _ _ _ _ rfl]
  have B2 : Hid (∀ i, w1.frozen? ⟨w.heap.size, i, none⟩ = false) := fun i => by rw [S1'.out.below.frozen (by simp), World.frozen?_alloc_at _ _ _ _ rfl]
  have hw1 : w.heap.size < w1.heap.size := by have := S1'.out.below.size; simp at this; omega
  have HF : Hid (∀ i j, 0 ≤ pt drop add cost i j ∧ pt drop add cost i j ≤ ((i + j : Nat) : Int) * 1048576) := pt_bd HP.out
  have hfu := fun f i j h1 h2 => backP_fuel drop add cost f (i + j) i j h1 h2
  have HFU := Lib.hid hfu
  clear hfu
  go_loopw [11, 12, 13, 30, 31, 32, 33, 34, 35, 36, 37, 38, 39, 40, 41, 42, 43, 44, 45, 46, 47, 48, 49, 50, 51, 52, 53, 54, 55, 56, 57, 58, 59, 60, 61, 62, 63, 64, 65, 66, 67, 68, 69, 70, 71, 72, 73, 74, 75, 76, 77, 78, 79, 80, 81, 82, 83, 84, 85, 86, 87, 88, 89, 90, 91, 92, 93, 94, 95, 96, 97, 98, 99, 100, 101, 102, 103, 104, 105, 106, 107, 108, 109, 110, 111, 112, 113, 114, 115, 116, 117, 118, 119, 120, 121, 122, 123, 124] (fun v i j _ _ _ _ _ _ _ _ _ _ _ _ _ _ _ _ _ _ _ _ _ _ _ _ _ _ _ _ _ _ _ _ _ _ _ _ _ _ _ _ _ _ _ _ _ _ _ _ _ _ _ _ _ _ _ _ _ _ _ _ _ _ _ _ _ _ _ _ _ _ _ _ _ _ _ _ _ _ _ _ _ _ _ _ _ _ _ _ _ _ _ _ _ _ _ wr => ∃ (i' j' : Nat) (l : List (Int × Int)), i' ≤ drop.length ∧ j' ≤ add.length ∧ i = .int .i64 i' ∧ j = .int .i64 j' ∧ St w1.heap.size h1 w1 h1 wr ∧ PrOw wr h1 w1.heap.size v l ∧ Hid (l ++ backP drop add cost (i' + j') i' j' = backP drop add cost (drop.length + add.length) drop.length add.length)) (fun _ i j _ _ _ _ _ _ _ _ _ _ _ _ _ _ _ _ _ _ _ _ _ _ _ _ _ _ _ _ _ _ _ _ _ _ _ _ _ _ _ _ _ _ _ _ _ _ _ _ _ _ _ _ _ _ _ _ _ _ _ _ _ _ _ _ _ _ _ _ _ _ _ _ _ _ _ _ _ _ _ _ _ _ _ _ _ _ _ _ _ _ _ _ _ _ _ _ => (intOf i).toNat + (intOf j).toNat)
  case atStart => exact ⟨drop.length, add.length, [], Nat.le_refl _, Nat.le_refl _, rfl, rfl, St.refl S1'.out.imm, Ow.nil _ _ _ _ _, rfl⟩
  case round =>
    obtain ⟨i, j, l, hil, hjl, rfl, rfl, S, O, R⟩ := hrel
    obtain ⟨al, cl, rfl⟩ := Ow.shape O
    have S' := Lib.hid S
    have O' := Lib.hid O
    obtain ⟨hbp, hpc⟩ := PC.out wr S.imm
    have PCW := Lib.hid hpc
    have IH0 : Hid (Imm h wr) := fun b c hc => S'.out.imm b c (S1'.out.le b c hc)
    clear hpc S O
    rcases Nat.eq_zero_or_pos i with rfl | hi0
    · rcases Nat.eq_zero_or_pos j with rfl | hj0
      · have hl : l = backP drop add cost (drop.length + add.length) drop.length add.length := by
          have := R.out
          rw [show backP drop add cost (0 + 0) 0 0 = [] from rfl, List.append_nil] at this
          exact this
        have hl2 : l.length ≤ 800 := by rw [hl]; have := backP_len drop add cost (drop.length + add.length) drop.length add.length; omega
        have HL := Lib.hid hl
        obtain ⟨bb, ob, cb', f0, f1⟩ := PCW.out drop.length (by omega)
        have F1 := f1 add.length (by omega)
        have b1 := HF.out drop.length add.length
        clear hl f1
        go_wp2_with fail
        refine (rev_any h1 _ S'.out.imm w1.heap.size _ l (by omega) O'.out).mono ?_
        rintro e w5 ⟨rfl, gr, own⟩
        have S5 : St w1.heap.size h1 w1 h1 w5 := S'.out.grown gr (fun k hk => ⟨(O'.out.lt k hk).1, O'.out.free k hk⟩)
        have k0 : w5.cell? ⟨w.heap.size, 0, none⟩ = some (.slice none 0 0) := by rw [S5.below.cell hw1, B1.out]; rfl
        have k1 : w5.cell? ⟨w.heap.size, 1, none⟩ = some (.int .i64 0) := by rw [S5.below.cell hw1, B1.out]; rfl
        have k2 : w5.cell? ⟨w.heap.size, 2, none⟩ = some (.slice none 0 0) := by rw [S5.below.cell hw1, B1.out]; rfl
        have z0 : w5.frozen? ⟨w.heap.size, 0, none⟩ = false := by rw [S5.below.frozen hw1]; exact B2.out 0
        have z1 : w5.frozen? ⟨w.heap.size, 1, none⟩ = false := by rw [S5.below.frozen hw1]; exact B2.out 1
        have z2 : w5.frozen? ⟨w.heap.size, 2, none⟩ = false := by rw [S5.below.frozen hw1]; exact B2.out 2
        obtain ⟨hbp5, hpc5⟩ := PC.out w5 S5.imm
        obtain ⟨bb, ob, cb', f0, f1⟩ := hpc5 drop.length (by omega)
        have F1 := f1 add.length (by omega)
        have S5' := Lib.hid S5
        have own5 := Lib.hid own
        clear gr own S5 hpc5 f1
        go_wp2_with fail
        have hno : h1 w.heap.size = none := by rw [S1'.out.old _ (by simp)]; exact new_own HI.out _ (Nat.le_refl _)
        have Sb := (((St.refl HI.out).alloc _).call S1'.out).call S5'.out
        have hne : ∀ i, (Value.slice al l.length cl).ownBlock ≠ some (⟨w.heap.size, i, none⟩ : Addr).block := fun i e => by have h9 : w1.heap.size ≤ w.heap.size := (own5.out.lt _ e).1; omega
        refine bodyPost_ret (v := .tuple #[.agg #[.slice al l.length cl, .int .i64 (pt drop add cost drop.length add.length), .slice (some ⟨bp, op, none⟩) (drop.length + 1) cp], .int .i64 0]) (by simp [results, Try.results54, go_sem, k0, k1, k2]) rfl ?_
        have Sc := ((Sb.setCell (p := ⟨w.heap.size, 0, none⟩) (Nat.le_refl _) hno (.slice al l.length cl)).setCell (p := ⟨w.heap.size, 1, none⟩) (Nat.le_refl _) hno (.int .i64 (pt drop add cost drop.length add.length))).setCell (p := ⟨w.heap.size, 2, none⟩) (Nat.le_refl _) hno (.slice (some ⟨bp, op, none⟩) (drop.length + 1) cp)
        have own6 := ((((own5.out.setCell (hne 0) (.slice al l.length cl)).setCell (hne 1) (.int .i64 (pt drop add cost drop.length add.length))).setCell (hne 2) (.slice (some ⟨bp, op, none⟩) (drop.length + 1) cp)).base (B' := w.heap.size) (by omega)).sl (by omega)
        have hpl : (potT drop add cost).length = drop.length + 1 := by simp [potT]
        refine ⟨[.slice al l.length cl, .int .i64 (pt drop add cost drop.length add.length), .slice (some ⟨bp, op, none⟩) (drop.length + 1) cp], rfl, _, Sc.fr, al, cl, some ⟨bp, op, none⟩, cp, ?_, ?_, ?_, ?_⟩
        · simp [alignP, hpl, HL.out]
        · simp only [alignP]; unfold I64; omega
        · refine ⟨?_, fun q hq => ?_⟩
          · simpa [alignP, HL.out] using own6
          · simp only [alignP, List.mem_reverse] at hq
            have := backP_mem _ _ _ _ _ _ q hq
            unfold I64; omega
        · have := RP'.out.mono (Hp.le_fr (B := w.heap.size) Sc.imm)
          simpa [alignP, hpl] using this
      · obtain ⟨j, rfl⟩ : ∃ k, j = k + 1 := ⟨j - 1, by omega⟩
        have RN : Hid (l ++ backP drop add cost (0 + j) 0 j = backP drop add cost (drop.length + add.length) drop.length add.length) := by
          unfold Hid
          rw [← R.out, show 0 + (j + 1) = (0 + j) + 1 by omega, backP, if_pos (by omega), if_neg (by omega), if_neg (by omega)]
          rfl
        go_wp2_with fail
        go_quiet (fail)
        go_wp2_with fail
        go_quiet (fail)
        go_wp2_with fail
        go_roundw
        case rel => exact ⟨0, j, l, by omega, by omega, rfl, by go_num, (S'.out.drewN _), (O'.out.drewN _), RN⟩
        case measure => simp [intOf]
    · obtain ⟨i, rfl⟩ : ∃ k, i = k + 1 := ⟨i - 1, by omega⟩
      obtain ⟨ba, oa, ca', e0, e1⟩ := PCW.out i (by omega)
      obtain ⟨bb, ob, cb', f0, f1⟩ := PCW.out (i + 1) (by omega)
      obtain ⟨bd, od, rfl, hbd, hdc⟩ := HD.out wr IH0.out (by omega)
      have dd := hdc i (by omega)
      have b2 := HP.out.d drop[i] (by simp)
      have hgd : Hid (drop.getD i 0 = drop[i]) := getD_of_lt _ _ _ _
      generalize drop[i] = xd at *
      have E1 := Lib.hid e1
      have F1 := Lib.hid f1
      clear hdc e1 f1
      have q1 : IntKind.i64.wrap (i : Int) = i := w64 (by omega)
      have q2 : (0 : Int) ≤ (i : Int) := by omega
      have q3 : (i : Int) < (drop.length : Int) + 1 := by omega
      have q4 : (i : Int) < (drop.length : Int) := by omega
      have q6 : (0 : Int) ≤ (i : Int) + 1 := by omega
      rcases Nat.eq_zero_or_pos j with rfl | hj0
      · have RN : Hid (l ++ backP drop add cost (i + 0) i 0 = backP drop add cost (drop.length + add.length) drop.length add.length) := by
          unfold Hid
          rw [← R.out, show (i + 1) + 0 = (i + 0) + 1 by omega, backP, if_pos (by omega), if_neg (by omega), if_pos ⟨by omega, pt_col drop add cost i⟩]
          rfl
        have g0 := E1.out 0 (by omega)
        have g1 := F1.out 0 (by omega)
        simp only [Nat.add_zero] at g0 g1
        have b1 := HF.out i 0
        have b3 : Hid (pt drop add cost (i + 1) 0 = pt drop add cost i 0 + xd) := by unfold Hid; rw [pt_col, hgd.out]
        have q5 : IntKind.i64.wrap (pt drop add cost i 0 + xd) = pt drop add cost i 0 + xd := w64 (by omega)
        have q7 : (pt drop add cost (i + 1) 0 == pt drop add cost i 0 + xd) = true := ibeqT b3.out
        generalize pt drop add cost (i + 1) 0 = y1 at *
        generalize pt drop add cost i 0 = y0 at *
        go_wp2_with fail
        go_quiet (fail)
        go_wp2_with fail
        go_quiet (fail)
        clear q5
        go_wp2_with fail
        go_roundw
        case rel => exact ⟨i, 0, l, by omega, by omega, by go_num, rfl, (S'.out.drewN _), (O'.out.drewN _), RN⟩
        case measure => simp [intOf]
      · obtain ⟨j, rfl⟩ : ∃ k, j = k + 1 := ⟨j - 1, by omega⟩
        have g0 := E1.out j (by omega)
        have g1 := E1.out (j + 1) (by omega)
        have g2 := F1.out (j + 1) (by omega)
        obtain ⟨bc, oc, rfl, hbc, hcc⟩ := HC.out wr IH0.out (by rw [HCL.out]; omega)
        obtain ⟨ar, cr, d4, hrow⟩ := hcc i (by rw [HCL.out]; omega)
        have hrl := HP.out.rl i (by rw [HCL.out]; omega)
        obtain ⟨ar', cr', hre, -, hrc0⟩ := hrow.open
        simp only [Value.slice.injEq, true_and] at hre
        obtain ⟨rfl, rfl⟩ := hre
        obtain ⟨br, or, rfl, hbr, hrc⟩ := hrc0 wr IH0.out (by omega)
        have d5 := hrc j (by omega)
        have b5 := HP.out.c i (by rw [HCL.out]; omega) ((cost[i]'(by rw [HCL.out]; omega))[j]'(by omega)) (by simp)
        have hgc : Hid ((cost.getD i []).getD j 0 = (cost[i]'(by rw [HCL.out]; omega))[j]'(by omega)) := by
          unfold Hid; rw [getD_of_lt cost i _ (by rw [HCL.out]; omega), getD_of_lt _ j _ (by omega)]
        rw [hrl] at d4
        generalize (cost[i]'(by rw [HCL.out]; omega))[j]'(by omega) = x at *
        clear hrc hrc0 hcc hrow
        clear hrl
        have hcl2 : i < cost.length := by rw [HCL.out]; omega
        have b1 := HF.out i j
        have b11 := HF.out i (j + 1)
        have b12 := HF.out (i + 1) (j + 1)
        have RB : Hid (backP drop add cost ((i + 1) + (j + 1)) (i + 1) (j + 1) = if 0 ≤ x ∧ pt drop add cost (i + 1) (j + 1) = pt drop add cost i j + x then ((i : Int), (j : Int)) :: backP drop add cost (i + j) i j else if pt drop add cost (i + 1) (j + 1) = pt drop add cost i (j + 1) + xd then backP drop add cost (i + (j + 1)) i (j + 1) else backP drop add cost ((i + 1) + j) (i + 1) j) := by
          unfold Hid
          rw [show (i + 1) + (j + 1) = (i + j + 1) + 1 by omega, backP, if_pos (by omega)]
          simp only [Nat.add_sub_cancel, hgc.out, hgd.out]
          rw [HFU.out (i + j + 1) i j (by omega) (by omega), HFU.out (i + j + 1) i (j + 1) (by omega) (by omega), HFU.out (i + j + 1) (i + 1) j (by omega) (by omega)]
          simp
        have r1 : IntKind.i64.wrap (j : Int) = j := w64 (by omega)
        have r2 : (0 : Int) ≤ (j : Int) := by omega
        have r3 : (j : Int) < (add.length : Int) + 1 := by omega
        have r4 : (j : Int) < (add.length : Int) := by omega
        have r6 : (0 : Int) ≤ (j : Int) + 1 := by omega
        have r7 : (i : Int) < (cost.length : Int) := by omega
        generalize pt drop add cost (i + 1) (j + 1) = y11 at *
        generalize pt drop add cost i (j + 1) = y01 at *
        generalize pt drop add cost i j = y00 at *
        have r5 : IntKind.i64.wrap (y00 + x) = y00 + x := w64 (by omega)
        have r8 : IntKind.i64.wrap (y01 + xd) = y01 + xd := w64 (by omega)
        by_cases hx : 0 ≤ x
        · by_cases hy : y11 = y00 + x
          · have hy' := ibeqT hy
            have RN : Hid ((l ++ [((i : Int), (j : Int))]) ++ backP drop add cost (i + j) i j = backP drop add cost (drop.length + add.length) drop.length add.length) := by
              unfold Hid; rw [← R.out, RB.out, if_pos ⟨hx, hy⟩]; simp
            have hlb : l.length + 1 ≤ 800 := by
              have e1 := congrArg List.length RN.out
              have e2 := backP_len drop add cost (drop.length + add.length) drop.length add.length
              simp only [List.length_append, List.length_cons, List.length_nil] at e1
              omega
            clear hy
            go_wp2_with fail
            go_quiet (fail)
            clear r5 r8 q1 r1
            go_wp2_with (at_builtin; refine wpList_app el_pairs rfl _ _ rfl ((S'.out.drewN _).alloc _) _ l.length _ rfl ((O'.out.drewN _).alloc _) ⟨_, 0, none⟩ 1 1 (encP ((i : Int), (j : Int))) rfl rfl (new_cells _ _ _ _ (by simp)) (one_cells _ rfl) (by omega) ?_; intro v2 w3 st2 own2 gr2 bk2)
            go_roundw
            case rel => exact ⟨i, j, l ++ [((i : Int), (j : Int))], by omega, by omega, by go_num, by go_num, st2, by unfold PrOw; rw [flatMap_snoc]; simpa using own2, RN⟩
            case measure => simp [intOf]; omega
          · have hy' := ibeqF hy
            have HY : Hid (y11 ≠ y00 + x) := hy
            clear hy
            by_cases hz : y11 = y01 + xd
            · have hz' := ibeqT hz
              have RN : Hid (l ++ backP drop add cost (i + (j + 1)) i (j + 1) = backP drop add cost (drop.length + add.length) drop.length add.length) := by
                unfold Hid; rw [← R.out, RB.out, if_neg (fun e => HY.out e.2), if_pos hz]
              clear hz
              go_wp2_with fail
              go_quiet (fail)
              go_wp2_with fail
              go_quiet (fail)
              clear r5 r8 q1 r1
              go_wp2_with fail
              go_roundw
              case rel => exact ⟨i, j + 1, l, by omega, by omega, by go_num, by go_num, (S'.out.drewN _), (O'.out.drewN _), RN⟩
              case measure => simp [intOf]
            · have hz' := ibeqF hz
              have RN : Hid (l ++ backP drop add cost ((i + 1) + j) (i + 1) j = backP drop add cost (drop.length + add.length) drop.length add.length) := by
                unfold Hid; rw [← R.out, RB.out, if_neg (fun e => HY.out e.2), if_neg hz]
              clear hz
              go_wp2_with fail
              go_quiet (fail)
              go_wp2_with fail
              go_quiet (fail)
              clear r5 r8 q1 r1
              go_wp2_with fail
              go_roundw
              case rel => exact ⟨i + 1, j, l, by omega, by omega, by go_num, by go_num, (S'.out.drewN _), (O'.out.drewN _), RN⟩
              case measure => simp [intOf]
        · have hx' : decide (0 ≤ x) = false := by simpa using hx
          have HX : Hid (¬ 0 ≤ x) := hx
          clear hx
          by_cases hz : y11 = y01 + xd
          · have hz' := ibeqT hz
            have RN : Hid (l ++ backP drop add cost (i + (j + 1)) i (j + 1) = backP drop add cost (drop.length + add.length) drop.length add.length) := by
              unfold Hid; rw [← R.out, RB.out, if_neg (fun e => HX.out e.1), if_pos hz]
            clear hz
            go_wp2_with fail
            go_quiet (fail)
            go_wp2_with fail
            go_quiet (fail)
            clear r5 r8 q1 r1
            go_wp2_with fail
            go_roundw
            case rel => exact ⟨i, j + 1, l, by omega, by omega, by go_num, by go_num, (S'.out.drewN _), (O'.out.drewN _), RN⟩
            case measure => simp [intOf]
          · have hz' := ibeqF hz
            have RN : Hid (l ++ backP drop add cost ((i + 1) + j) (i + 1) j = backP drop add cost (drop.length + add.length) drop.length add.length) := by
              unfold Hid; rw [← R.out, RB.out, if_neg (fun e => HX.out e.1), if_neg hz]
            clear hz
            go_wp2_with fail
            go_quiet (fail)
            go_wp2_with fail
            go_quiet (fail)
            clear r5 r8 q1 r1
            go_wp2_with fail
            go_roundw
            case rel => exact ⟨i + 1, j, l, by omega, by omega, by go_num, by go_num, (S'.out.drewN _), (O'.out.drewN _), RN⟩
            case measure => simp [intOf]
end Go.Proofs.Ytfifbadepebpeaa
