/- matching.positional. -/
import Derived.Test.YtfifbadepebpeaaWj
import Derived.Test.YtfifbadepebpeaaBp
namespace Go.Proofs.Ytfifbadepebpeaa
open Go.RowKit

def kpI (x y : List NodeP) (p : Int × Int) : List (Int × Int) := ((nd x p.1).kids.zip (nd y p.2).kids).filter fun q => decide ((nd x q.1).kind = (nd y q.2).kind)

theorem kpI_kf {x y : List NodeP} (hx : WF x) (hy : WF y) : KF x y (kpI x y) := by
  refine ⟨?_, ?_⟩
  · intro p hp q hq
    have hq' := List.of_mem_zip (List.mem_filter.1 hq).1
    obtain ⟨a1, a2, a3, a4⟩ := kid_inr hx hp.1 hp.2.1 hq'.1
    obtain ⟨b1, b2, b3, b4⟩ := kid_inr hy hp.2.2.1 hp.2.2.2 hq'.2
    exact ⟨⟨a1, a2, b1, b2⟩, a3, a4, b4⟩
  · intro p hp
    have ax := hx.asc p.1.toNat _ (nd_get hp.1 hp.2.1)
    unfold kpI
    refine List.Pairwise.filter _ ?_
    have : ∀ (a b : List Int), a.Pairwise (· < ·) → (a.zip b).Pairwise (fun q r => q ≠ r) := by
      intro a
      induction a with
      | nil => intro b _; simp
      | cons u a ih =>
        intro b h
        cases b with
        | nil => simp
        | cons v b =>
          rw [List.pairwise_cons] at h
          rw [List.zip_cons_cons, List.pairwise_cons]
          refine ⟨fun r hr e => ?_, ih b h.2⟩
          have h1 := h.1 r.1 (List.of_mem_zip hr).1
          rw [← e] at h1
          simp only at h1
          omega
    exact this _ _ ax

def posP (x y : List NodeP) : List (Int × Int) := ((bfs (kpI x y) (x.length * y.length) (x.length * y.length + 1) [(0, 0)] 0).getD [])
def posM (x y : List NodeP) : MatchP := { pairs := sortP (posP x y), cost := (priceP x y (sortP (posP x y))).getD 0, proven := false, bound := max ((x.length : Int) - y.length) (-((x.length : Int) - y.length)), proof := [] }

theorem priceGo_bd (x y : List NodeP) : ∀ (rest pre : List (Int × Int)) (c r : Int), priceGo x y pre rest c = some r → c - 2 * rest.length ≤ r ∧ r ≤ c
  | [], pre, c, r, h => by simp only [priceGo, Option.some.injEq] at h; subst h; simp
  | p :: ps, pre, c, r, h => by
    rw [priceGo] at h
    split at h
    · have := priceGo_bd x y ps _ _ r h
      have := differP_bd (nd x p.1).text (nd y p.2).text
      simp only [List.length_cons]
      omega
    · cases h
theorem priceP_bd (x y : List NodeP) (l : List (Int × Int)) (hx : x.length ≤ 1000000000) (hy : y.length ≤ 1000000000) (hl : l.length ≤ 140737488355328) : I64 ((priceP x y l).getD 0) := by
  unfold I64
  cases h : priceP x y l with
  | none => simp
  | some r =>
    have := priceGo_bd x y l [] _ r h
    simp only [Option.getD_some]
    omega

theorem zip_drop_cons {a b : List Int} {k : Nat} (h1 : k < a.length) (h2 : k < b.length) : (a.drop k).zip (b.drop k) = (a[k], b[k]) :: (a.drop (k + 1)).zip (b.drop (k + 1)) := by
  rw [List.drop_eq_getElem_cons h1, List.drop_eq_getElem_cons h2, List.zip_cons_cons]
theorem zip_drop_nil {a b : List Int} {k : Nat} (h : min a.length b.length ≤ k) : (a.drop k).zip (b.drop k) = [] := by
  rcases Nat.lt_or_ge k a.length with h1 | h1
  case inr => rw [List.drop_of_length_le h1]; rfl
  · rw [List.drop_of_length_le (l := b) (by omega), List.zip_nil_right]

set_option maxRecDepth 100000 in
set_option maxHeartbeats 4000000 in
theorem positional_any (h : Hp) (w : World) (hi : Imm h w) (vx vy : Value) (x y : List NodeP) (hx : Nds h vx x) (hy : Nds h vy y) (wx : WF x) (wy : WF y)
    (sx : x.length ≤ 262144) (sy : y.length ≤ 262144) :
    Calls Try.prog 33 #[vx, vy] w fun e w' => ∃ v, e = .returned v ∧ ∃ h', St w.heap.size h w h' w' ∧ MatchV h' v (posM x y) := by
  have NX := Lib.hid hx
  have NY := Lib.hid hy
  obtain ⟨bx, ox, cx, rfl, hxn, hxc⟩ := hx.openI wx.pos
  obtain ⟨by', oy, cy, rfl, hyn, hyc⟩ := hy.openI wy.pos
  have HX := Lib.hid (fun w' hi => hxc w' hi)
  have HY := Lib.hid (fun w' hi => hyc w' hi)
  have HI := Lib.hid hi
  have KK := Lib.hid (kpI_kf wx wy)
  have WX := Lib.hid wx
  have WY := Lib.hid wy
  have px := wx.pos
  have py := wy.pos
  have hxy : x.length * y.length ≤ 262144 * 262144 := Nat.mul_le_mul sx sy
  have GS := Lib.hid (good_start (k := kpI x y) px py)
  generalize hN : x.length * y.length = N at *
  have HN := Lib.hid hN
  have HI0 : Hid (Imm h (w.alloc (Obj.cells #[.slice none 0 0, .int .i64 0, .bool false, .int .i64 0, .slice none 0 0] 32))) := HI.out.alloc _
  clear hx hy hxc hyc wx wy hi hN
  go_enter Try.func33, Try.ntmps33
  go_wp2_with fail
  have hz : (w.alloc (Obj.cells #[.slice none 0 0, .int .i64 0, .bool false, .int .i64 0, .slice none 0 0] 32)).heap.size = w.heap.size + 1 := by simp
  have HZ := Lib.hid hz
  clear hz
  generalize hW0 : w.alloc (Obj.cells #[.slice none 0 0, .int .i64 0, .bool false, .int .i64 0, .slice none 0 0] 32) = w0 at *
  have HW0 := Lib.hid hW0
  clear hW0
  go_loopw [5, 6, 7, 8, 9, 15, 16, 17, 18, 19, 20, 21, 22, 23, 24, 25, 26, 27, 28, 29, 30, 31, 32, 33, 34, 35, 36, 37, 38, 39, 40, 41, 42, 43, 44, 45, 46, 47, 48, 49, 50, 51, 52, 53, 54, 55, 56, 57, 58, 59, 60, 61, 62, 63, 64, 65, 66, 67, 68, 69, 70, 71, 72, 73, 74, 75, 76] (fun v i _ _ _ _ _ _ _ _ _ _ _ _ _ _ _ _ _ _ _ _ _ _ _ _ _ _ _ _ _ _ _ _ _ _ _ _ _ _ _ _ _ _ _ _ _ _ _ _ _ _ _ _ _ _ _ _ _ _ _ _ _ _ _ _ _ wr => ∃ (j : Nat) (l : List (Int × Int)), i = .int .i64 j ∧ St w0.heap.size h w0 h wr ∧ PrOw wr h w0.heap.size v l ∧ Good x y (kpI x y) l j ∧ Hid (bfs (kpI x y) N (N + 1 - j) l j = bfs (kpI x y) N (N + 1) [(0, 0)] 0)) (fun _ i _ _ _ _ _ _ _ _ _ _ _ _ _ _ _ _ _ _ _ _ _ _ _ _ _ _ _ _ _ _ _ _ _ _ _ _ _ _ _ _ _ _ _ _ _ _ _ _ _ _ _ _ _ _ _ _ _ _ _ _ _ _ _ _ _ _ => N - (intOf i).toNat)
  case atStart => exact ⟨0, [(0, 0)], rfl, (St.refl HI0.out).alloc _, by rw [← HZ.out]; exact own_lit (w := w0) HI0.out (Nat.le_refl _) [.int .i64 0, .int .i64 0] 1 2 52 (by simp [maxLen]) rfl, GS.out, rfl⟩
  case round =>
    obtain ⟨wo, rfl⟩ : ∃ wo : World, wo = wr := ⟨_, rfl⟩
    obtain ⟨j, l, rfl, S, O, G, R⟩ := hrel
    have hjl := G.le
    have hlen := G.len
    rw [HN.out] at hlen
    by_cases hlt : j < l.length
    · obtain ⟨g, cap, rfl, hg1, hg2, hg3, c0, c1⟩ := O.open j hlt
      obtain ⟨p1, p2, p3, p4⟩ := G.inr l[j] (by simp)
      have GT := Lib.hid (good_step KK.out G hlt)
      have HT : Hid (l ++ kpI x y l[j] = l ++ ((nd x l[j].1).kids.zip (nd y l[j].2).kids).filter fun q => decide ((nd x q.1).kind = (nd y q.2).kind)) := rfl
      have HS1 := Lib.hid (fun hb hf => bfs_go (k := kpI x y) (budget := N) (f := N + 1 - j) hlt hb hf)
      generalize l[j] = p at *
      obtain ⟨hbx, hxa⟩ := HX.out wo S.imm
      obtain ⟨hby, hya⟩ := HY.out wo S.imm
      obtain ⟨akx, ckx, -, -, -, dx3, -, hkx, -⟩ := hxa p.1 p1 p2
      obtain ⟨aky, cky, -, -, -, dy3, -, hky, -⟩ := hya p.2 p3 p4
      have hkxl := hkx.1.len.1
      have hkyl := hky.1.len.1
      have S' := Lib.hid S
      have O' := Lib.hid O
      have G' := Lib.hid G
      have HKX := Lib.hid hkx
      have HKY := Lib.hid hky
      have hTl := GT.out.len
      rw [HN.out] at hTl
      generalize hT : l ++ kpI x y p = T at *
      clear hxa hya S O G hkx hky hT
      have q1 : (0 : Int) ≤ (j : Int) := by omega
      have q2 : (j : Int) < (l.length : Int) := by omega
      go_wp2_with fail
      go_quiet (fail)
      go_wp2_with fail
      have hmin : min ((nd x p.1).kids.length : Int) ((nd y p.2).kids.length : Int) = ((min (nd x p.1).kids.length (nd y p.2).kids.length : Nat) : Int) := by omega
      rw [hmin]
      clear hmin
      have hmx : min (nd x p.1).kids.length (nd y p.2).kids.length ≤ (nd x p.1).kids.length := by omega
      have hmy : min (nd x p.1).kids.length (nd y p.2).kids.length ≤ (nd y p.2).kids.length := by omega
      have hmz : (min (nd x p.1).kids.length (nd y p.2).kids.length : Nat) = min (nd x p.1).kids.length (nd y p.2).kids.length := rfl
      have HM := Lib.hid hmz
      clear hmz
      generalize hmg : min (nd x p.1).kids.length (nd y p.2).kids.length = mn at *
      have HMG := Lib.hid hmg
      clear hmg
      have RS : Hid (RowIn h w0 (wo.drewN nq) g (.slice (some ⟨g, 0, none⟩) l.length cap) l (wo.drewN nq)) := ⟨S'.out.drewN _, O'.out.drewN _, World.grownBy.refl _ _, .inl rfl⟩
      go_loopw [5, 9, 44, 45, 46, 47, 48, 49, 50, 51, 52, 53, 54, 55, 56, 57, 58, 59, 60, 61, 62, 63, 64, 65, 66, 67, 68, 69, 70, 71, 72, 73, 74, 75, 76] (fun v _ i _ _ _ _ _ _ _ _ _ _ _ _ _ _ _ _ _ _ _ _ _ _ _ _ _ _ _ _ _ _ _ _ wr => ∃ (k : Nat) (m : List (Int × Int)), k ≤ mn ∧ i = .int .i64 k ∧ RowIn h w0 (wo.drewN nq) g v m wr ∧ Hid (m ++ (((nd x p.1).kids.drop k).zip ((nd y p.2).kids.drop k)).filter (fun q => decide ((nd x q.1).kind = (nd y q.2).kind)) = T)) (fun _ _ i _ _ _ _ _ _ _ _ _ _ _ _ _ _ _ _ _ _ _ _ _ _ _ _ _ _ _ _ _ _ _ _ _ => mn - (intOf i).toNat)
      case atStart => exact ⟨0, l, Nat.zero_le _, rfl, RS.out, HT.out.symm⟩
      case round =>
        obtain ⟨k, m, hk, rfl, RI, RT⟩ := hrel
        obtain ⟨am, cm, rfl⟩ := Ow.shape RI.own
        by_cases hltk : k < mn
        · have hkx' : k < (nd x p.1).kids.length := by omega
          have hky' : k < (nd y p.2).kids.length := by omega
          obtain ⟨bkx, okx, ckx', hkxe, -, hkc⟩ := HKX.out.openI (by omega)
          simp only [Value.slice.injEq, true_and] at hkxe
          obtain ⟨rfl, rfl⟩ := hkxe
          have dc := (hkc wr RI.st.imm).2 k hkx'
          have hbkx := (hkc wr RI.st.imm).1
          obtain ⟨bky, oky, cky', hkye, -, hkd⟩ := HKY.out.openI (by omega)
          simp only [Value.slice.injEq, true_and] at hkye
          obtain ⟨rfl, rfl⟩ := hkye
          have dd := (hkd wr RI.st.imm).2 k hky'
          have hbky := (hkd wr RI.st.imm).1
          have KC : Hid (∀ W, Imm h W → W.cell? ⟨bkx, okx + k, none⟩ = some (.int .i64 (nd x p.1).kids[k]) ∧ W.cell? ⟨bky, oky + k, none⟩ = some (.int .i64 (nd y p.2).kids[k])) := fun W hW => ⟨(hkc W hW).2 k hkx', (hkd W hW).2 k hky'⟩
          have hcm : Hid ((nd x p.1).kids[k] ∈ (nd x p.1).kids) := by unfold Hid; simp
          have hdm : Hid ((nd y p.2).kids[k] ∈ (nd y p.2).kids) := by unfold Hid; simp
          have RT' := RT.out
          rw [zip_drop_cons hkx' hky'] at RT'
          generalize hgc : (nd x p.1).kids[k] = c at *
          generalize hgd : (nd y p.2).kids[k] = d at *
          obtain ⟨r1, r2, -, -⟩ := kid_inr WX.out p1 p2 hcm.out
          obtain ⟨r3, r4, -, -⟩ := kid_inr WY.out p3 p4 hdm.out
          obtain ⟨hbx3, hxa⟩ := HX.out wr RI.st.imm
          obtain ⟨hby3, hya⟩ := HY.out wr RI.st.imm
          obtain ⟨-, -, ex0, -⟩ := hxa c r1 r2
          obtain ⟨-, -, ey0, -⟩ := hya d r3 r4
          have RI' := Lib.hid RI
          have u1 : (0 : Int) ≤ (k : Int) := by omega
          have u2 : (k : Int) < ((nd x p.1).kids.length : Int) := by omega
          have u3 : (k : Int) < ((nd y p.2).kids.length : Int) := by omega
          clear hxa hya hkc hkd hgc hgd hcm hdm RI RT
          by_cases hkk : (nd x c).kind = (nd y d).kind
          · rw [List.filter_cons_of_pos (by simpa using hkk)] at RT'
            have g1 := ibeqT hkk
            have RV : Hid ((m ++ [(c, d)]) ++ (((nd x p.1).kids.drop (k + 1)).zip ((nd y p.2).kids.drop (k + 1))).filter (fun q => decide ((nd x q.1).kind = (nd y q.2).kind)) = T) := by
              unfold Hid; rw [List.append_assoc]; exact RT'
            have hnT : m.length + 1 ≤ T.length := by rw [← RV.out]; simp
            clear hkk RT'
            go_wp2_with fail
            go_quiet (fail)
            go_wp2_with fail
            go_region_held3 (fun w' => w'.cell? ⟨bkx, okx + k, none⟩ = some (.int .i64 c) ∧ w'.cell? ⟨bky, oky + k, none⟩ = some (.int .i64 d)) (first | go_keep | exact KC.out _ st2.imm)
              ((refine step_app el_pairs (by rfl) _ _ (by rfl) ((RI'.out.st.alloc _).drewN _) _ m.length _ (by rfl) ((RI'.out.own.alloc _).drewN _) ⟨wr.heap.size, 0, none⟩ 1 1 (encP (c, d)) (by rfl) (by rfl) (new_cells _ _ _ _ (by simp)) (one_cells _ rfl) (by omega) (by omega) ?_; intro gg cg w3 st2 own2 gr2 bk2))
            go_wp2_with fail
            have RK := Lib.hid ((RI'.out.drewN _).app st2 own2 gr2 bk2)
            clear st2 own2 gr2 bk2
            go_roundw
            case rel => exact ⟨k + 1, m ++ [(c, d)], by omega, by go_num, RK.out, RV⟩
            case measure => simp [intOf]; omega
          · rw [List.filter_cons_of_neg (by simpa using hkk)] at RT'
            have g1 := ibeqF hkk
            have RV := Lib.hid RT'
            clear hkk RT'
            go_wp2_with fail
            go_quiet (fail)
            go_wp2_with fail
            go_roundw
            case rel => exact ⟨k + 1, m, by omega, by go_num, RI'.out.drewN _, RV⟩
            case measure => simp [intOf]; omega
        · obtain rfl : k = mn := by omega
          have RT' := RT.out
          rw [zip_drop_nil (by rw [HMG.out]; exact Nat.le_refl _)] at RT'
          simp only [List.filter_nil, List.append_nil] at RT'
          subst RT'
          go_wp2_with fail
          go_roundw
          case rel => exact ⟨j + 1, m, by go_num, RI.st, RI.own, GT.out, by unfold Hid; rw [← R.out, HS1.out (by omega) (by omega)]; congr 1⟩
          case measure => simp [intOf]; omega
    · obtain rfl : j = l.length := by omega
      obtain ⟨al, cl, rfl⟩ := Ow.shape O
      have hR : Hid (posP x y = l) := by
        unfold Hid posP
        rw [HN.out, ← R.out, bfs_end (Nat.le_refl _) (by omega)]; rfl
      have S' := Lib.hid S
      have O' := Lib.hid O
      have G' := Lib.hid G
      clear S O G R
      go_wp2_with fail
      refine (sort_any h _ S'.out.imm w0.heap.size _ l (by omega) O'.out).mono ?_
      rintro e w5 ⟨rfl, gr, own⟩
      have S5 := S'.out.grown gr (fun k hk => ⟨(O'.out.lt k hk).1, O'.out.free k hk⟩)
      have hsl : (sortP l).length = l.length := List.length_mergeSort _
      have PRS : Prs (h.fr w0.heap.size w5) (.slice al l.length cl) (sortP l) := by
        refine ⟨by rw [hsl]; exact Ow.sl own (by omega), fun q hq => ?_⟩
        have := G'.out.inr q ((List.mergeSort_perm l _).mem_iff.1 hq)
        unfold InR at this
        unfold I64
        omega
      have F5 := S5.fr
      generalize h.fr w0.heap.size w5 = h5 at *
      have F5' := Lib.hid F5
      have PRS' := Lib.hid PRS
      clear S5 F5 PRS gr own
      go_wp2_with fail
      refine (price_any h5 _ F5'.out.imm _ _ _ x y (sortP l) (NX.out.mono F5'.out.le) (NY.out.mono F5'.out.le) px py (by omega) (by omega) PRS'.out).mono ?_
      rintro e w6 ⟨rfl, hb6⟩
      have F6 := Lib.hid (F5'.out.same hb6)
      have hw6 : w.heap.size < w6.heap.size := by have := F6.out.below.size; rw [HZ.out] at this; omega
      have k0 : w6.cell? ⟨w.heap.size, 0, none⟩ = some (.slice none 0 0) := (box_at HW0.out F6.out.below 0).1
      have k1 : w6.cell? ⟨w.heap.size, 1, none⟩ = some (.int .i64 0) := (box_at HW0.out F6.out.below 1).1
      have k2 : w6.cell? ⟨w.heap.size, 2, none⟩ = some (.bool false) := (box_at HW0.out F6.out.below 2).1
      have k3 : w6.cell? ⟨w.heap.size, 3, none⟩ = some (.int .i64 0) := (box_at HW0.out F6.out.below 3).1
      have k4 : w6.cell? ⟨w.heap.size, 4, none⟩ = some (.slice none 0 0) := (box_at HW0.out F6.out.below 4).1
      have z0 := (box_at HW0.out F6.out.below 0).2
      have z1 := (box_at HW0.out F6.out.below 1).2
      have z2 := (box_at HW0.out F6.out.below 2).2
      have z3 := (box_at HW0.out F6.out.below 3).2
      have z4 := (box_at HW0.out F6.out.below 4).2
      clear hb6
      go_wp2_with fail
      have hno : h5 w.heap.size = none := by rw [F5'.out.old _ (by rw [HZ.out]; omega)]; exact new_own HI.out _ (Nat.le_refl _)
      have Sb : St w.heap.size h w h5 w6 := by
        have h1 := (St.refl HI.out).alloc (Obj.cells #[.slice none 0 0, .int .i64 0, .bool false, .int .i64 0, .slice none 0 0] 32)
        rw [HW0.out] at h1
        exact h1.call F6.out
      refine bodyPost_ret (v := .agg #[.slice al l.length cl, .int .i64 ((priceP x y (sortP l)).getD 0), .bool false, .int .i64 (max ((x.length : Int) - y.length) (-((x.length : Int) - y.length))), .slice none 0 0]) (by simp [results, Try.results33, go_sem, k0, k1, k2, k3, k4]) rfl ?_
      have Sc := ((((Sb.setCell (p := ⟨w.heap.size, 0, none⟩) (Nat.le_refl _) hno (.slice al l.length cl)).setCell (p := ⟨w.heap.size, 1, none⟩) (Nat.le_refl _) hno (.int .i64 ((priceP x y (sortP l)).getD 0))).setCell (p := ⟨w.heap.size, 2, none⟩) (Nat.le_refl _) hno (.bool false)).setCell (p := ⟨w.heap.size, 3, none⟩) (Nat.le_refl _) hno (.int .i64 (max ((x.length : Int) - y.length) (-((x.length : Int) - y.length))))).setCell (p := ⟨w.heap.size, 4, none⟩) (Nat.le_refl _) hno (.slice none 0 0)
      refine ⟨_, rfl, h5, Sc, al, cl, none, 0, ?_, ?_, ?_, ?_, ?_⟩
      · simp [posM, hR.out, hsl]
      · simp only [posM, hR.out]; exact priceP_bd x y _ (by omega) (by omega) (by rw [hsl]; omega)
      · simp only [posM]; unfold I64; omega
      · simp only [posM, hR.out, hsl]; exact PRS'.out
      · exact ⟨[], Sl.nil _ _ _ _, by simp [posM, EncL]⟩
end Go.Proofs.Ytfifbadepebpeaa
