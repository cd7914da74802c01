/- compared: the compared pairs in ascending order. -/
import Derived.Test.YtfifbadepebpeaaBg
import Derived.Test.YtfifbadepebpeaaBa
import Derived.Test.YtfifbadepebpeaaBh
namespace Go.Proofs.Ytfifbadepebpeaa
open Go.RowKit

def cmpB (x y : List NodeP) (budget : Int) : Option (List (Int × Int)) :=
  if budget < 1 then none else bfs (kp x y) budget.toNat (budget.toNat + 1) [(0, 0)] 0

def CmpRes (h : Hp) (w : World) (r : Option (List (Int × Int))) (e : Ending) (w' : World) : Prop :=
  ∃ h', St w.heap.size h w h' w' ∧ match r with
    | none => e = .returned (.tuple #[.slice none 0 0, .bool false])
    | some l => ∃ v, e = .returned (.tuple #[v, .bool true]) ∧ Prs h' v (sortP l)

theorem flatMap_snoc (l : List (Int × Int)) (p : Int × Int) : (l ++ [p]).flatMap encP = l.flatMap encP ++ encP p := by simp

theorem kpC_cons (x y : List NodeP) (c d : Int) (ds : List Int) : kpC x y c (d :: ds) = (if (nd x c).kind = (nd y d).kind then [(c, d)] else []) ++ kpC x y c ds := by
  unfold kpC
  by_cases h : (nd x c).kind = (nd y d).kind <;> simp [h]

theorem Nds.openI {h : Hp} {v : Value} {x : List NodeP} (hv : Nds h v x) (hp : 0 < x.length) : ∃ b off cap, v = .slice (some ⟨b, off, none⟩) x.length cap ∧ x.length ≤ 140737488355328 ∧
    ∀ w, Imm h w → b < w.heap.size ∧ ∀ i : Int, 0 ≤ i → i < x.length → ∃ ak ck, w.cell? ⟨b, off + i.toNat * 5, none⟩ = some (.int .i64 (nd x i).kind) ∧ w.cell? ⟨b, off + i.toNat * 5 + 1, none⟩ = some (.string (nd x i).text) ∧
      w.cell? ⟨b, off + i.toNat * 5 + 2, none⟩ = some (.int .i64 (nd x i).parent) ∧ w.cell? ⟨b, off + i.toNat * 5 + 3, none⟩ = some (.slice ak (nd x i).kids.length ck) ∧ w.cell? ⟨b, off + i.toNat * 5 + 4, none⟩ = some (.int .i64 (nd x i).size) ∧
      Ints h (.slice ak (nd x i).kids.length ck) (nd x i).kids ∧ I64 (nd x i).kind ∧ I64 (nd x i).parent ∧ I64 (nd x i).size := by
  obtain ⟨cs, s, e⟩ := hv
  obtain ⟨a, cap, rfl, hn⟩ := s.shape
  have hs := s
  obtain ⟨a', cap', he, h1, h2, h3⟩ := hs
  simp only [Value.slice.injEq, true_and] at he
  obtain ⟨rfl, rfl⟩ := he
  rcases h3 with h3 | ⟨b, off, c, rfl, hb, hc⟩
  · omega
  refine ⟨b, off, cap, rfl, hn, fun w hi => ⟨blk_lt (hi b c hb), fun i h0 h1 => ?_⟩⟩
  obtain ⟨b', off', hab, hb', hc'⟩ := s.cells hi hp
  simp only [Option.some.injEq, Addr.mk.injEq, and_true] at hab
  obtain ⟨rfl, rfl⟩ := hab
  obtain ⟨c5, g1, g2⟩ := e.at 5 EncNode.len i.toNat (by omega)
  have hnd : x[i.toNat] = nd x i := by
    have := nd_get h0 h1
    rw [List.getElem?_eq_getElem (by omega)] at this
    exact Option.some.inj this
  rw [hnd] at g1
  obtain ⟨ak, ck, rfl, i1, i2, i3, g3⟩ := g1
  refine ⟨ak, ck, ?_, ?_, ?_, ?_, ?_, g3, i1, i2, i3⟩
  · exact hc' _ _ (g2 0 (by omega))
  · rw [Nat.add_assoc]; exact hc' _ _ (g2 1 (by omega))
  · rw [Nat.add_assoc]; exact hc' _ _ (g2 2 (by omega))
  · rw [Nat.add_assoc]; exact hc' _ _ (g2 3 (by omega))
  · rw [Nat.add_assoc]; exact hc' _ _ (g2 4 (by omega))

def PrOw (w : World) (h : Hp) (B : Nat) (v : Value) (l : List (Int × Int)) : Prop := Ow w h B 52 2 v l.length (l.flatMap encP)

theorem PrOw.open {w : World} {h : Hp} {B : Nat} {v : Value} {l : List (Int × Int)} (o : PrOw w h B v l) (i : Nat) (hi : i < l.length) : ∃ g cap, v = .slice (some ⟨g, 0, none⟩) l.length cap ∧ B ≤ g ∧ g < w.heap.size ∧ h g = none ∧
    w.cell? ⟨g, i * 2, none⟩ = some (.int .i64 l[i].1) ∧ w.cell? ⟨g, i * 2 + 1, none⟩ = some (.int .i64 l[i].2) := by
  obtain ⟨a, cap, rfl⟩ := Ow.shape o
  obtain ⟨g, rfl, h1, h2, h3, h4, _⟩ := Ow.cell o (by omega)
  exact ⟨g, cap, rfl, h1, h2, h3, h4 _ _ (encP_at l i hi).1, h4 _ _ (encP_at l i hi).2⟩

structure RowIn (h : Hp) (w wb : World) (g : Nat) (v : Value) (m : List (Int × Int)) (w2 : World) : Prop where
  st : St w.heap.size h w h w2
  own : PrOw w2 h w.heap.size v m
  grown : wb.grownBy w2 (some g)
  blk : v.ownBlock = some g ∨ ∃ k, v.ownBlock = some k ∧ wb.heap.size ≤ k

theorem RowIn.app {h : Hp} {w wb : World} {g : Nat} {v : Value} {m : List (Int × Int)} {w2 : World} (r : RowIn h w wb g v m w2) {X : Obj} {p : Int × Int} {v' : Value} {w3 : World}
    (st : St w.heap.size h w h w3) (own : Ow w3 h w.heap.size 52 2 v' (m.length + 1) (m.flatMap encP ++ encP p)) (gr : (w2.alloc X).grownBy w3 v.ownBlock) (bk : v'.ownBlock = v.ownBlock ∨ v'.ownBlock = some (w2.alloc X).heap.size) :
    RowIn h w wb g v' (m ++ [p]) w3 := by
  refine ⟨st, ?_, grown_step (grown_alloc r.grown X) gr (fun k hk => ?_), ?_⟩
  · unfold PrOw
    rw [flatMap_snoc]
    simpa using own
  · rcases r.blk with b | ⟨k', b, hb⟩
    · rw [b] at hk; exact .inl hk
    · rw [b] at hk; simp only [Option.some.injEq] at hk; subst hk; exact .inr hb
  · rcases bk with b | b
    · rw [b]; exact r.blk
    · exact .inr ⟨_, b, by have := r.grown.size; simp; omega⟩
theorem RowIn.drewN {h : Hp} {w wb : World} {g : Nat} {v : Value} {m : List (Int × Int)} {w2 : World} (r : RowIn h w wb g v m w2) (n : Nat) : RowIn h w wb g v m (w2.drewN n) :=
  ⟨r.st.drewN n, r.own.drewN n, ⟨r.grown.os, r.grown.tape, r.grown.output, r.grown.size, r.grown.block⟩, r.blk⟩

set_option maxRecDepth 100000 in
set_option maxHeartbeats 4000000 in
theorem compared_any (h : Hp) (w : World) (hi : Imm h w) (vx vy : Value) (x y : List NodeP) (budget : Int) (hb : I64 budget) (hx : Nds h vx x) (hy : Nds h vy y) (wx : WF x) (wy : WF y)
    (hk : (nd x 0).kind = (nd y 0).kind) (sx : x.length ≤ 262144) (sy : y.length ≤ 262144) :
    Calls Try.prog 31 #[vx, vy, .int .i64 budget] w (CmpRes h w (cmpB x y budget)) := by
  obtain ⟨bx, ox, cx, rfl, hxn, hxc⟩ := hx.openI wx.pos
  obtain ⟨by', oy, cy, rfl, hyn, hyc⟩ := hy.openI wy.pos
  have HX := Lib.hid (fun w' hi => hxc w' hi)
  have HY := Lib.hid (fun w' hi => hyc w' hi)
  have HI := Lib.hid hi
  have KK := Lib.hid (kp_kf wx wy)
  have WX := Lib.hid wx
  have WY := Lib.hid wy
  have px := wx.pos
  have py := wy.pos
  have hxy : x.length * y.length ≤ 262144 * 262144 := Nat.mul_le_mul sx sy
  have GS := Lib.hid (good_start (k := kp x y) px py)
  unfold I64 at hb
  clear hx hy hxc hyc wx wy
  obtain ⟨ak, ck, x0, -⟩ := (HX.out w HI.out).2 0 (by omega) (by omega)
  obtain ⟨ak', ck', y0, -⟩ := (HY.out w HI.out).2 0 (by omega) (by omega)
  simp only [Int.toNat_zero, Nat.zero_mul, Nat.add_zero] at x0 y0
  have hk0 : ((nd x 0).kind != (nd y 0).kind) = false := by simp [hk]
  have HK := Lib.hid hk
  clear hk hi
  by_cases hb1 : budget < 1
  · go_enter Try.func31, Try.ntmps31
    go_wp2_with fail
    go_quiet (fail)
    go_wp2_with fail
    go_ret2
    exact ⟨h, (St.refl HI.out).drewN _, by rw [cmpB, if_pos hb1]; rfl⟩
  have hb2 : 1 ≤ budget := by omega
  have HR : Hid (bfs (kp x y) budget.toNat (budget.toNat + 1 - 0) [(0, 0)] 0 = cmpB x y budget) := by unfold Hid; rw [cmpB, if_neg hb1]; rfl
  have hb1 : decide (budget < 1) = false := by simpa using hb2
  go_enter Try.func31, Try.ntmps31
  go_wp2_with fail
  go_quiet (fail)
  go_wp2_with fail
  clear x0 y0 hk0 hb1
  go_loopw [6, 7, 8, 9, 10, 12, 14, 30, 31, 32, 33, 34, 35, 36, 37, 38, 39, 40, 41, 42, 43, 44, 45, 46, 47, 48, 49, 50, 51, 52, 53, 54, 55, 56, 57, 58, 59, 60, 61, 62, 63, 64, 65, 66, 67, 68, 69, 70, 71, 72, 73, 74, 75, 76, 77, 78, 79, 80, 81, 82, 83, 84] (fun _ _ v i _ _ _ _ _ _ _ _ _ _ _ _ _ _ _ _ _ _ _ _ _ _ _ _ _ _ _ _ _ _ _ _ _ _ _ _ _ _ _ _ _ _ _ _ _ _ _ _ _ _ _ _ _ _ _ _ _ _ wr => ∃ (j : Nat) (l : List (Int × Int)), i = .int .i64 j ∧ St w.heap.size h w h wr ∧ PrOw wr h w.heap.size v l ∧ Good x y (kp x y) l j ∧ (l.length : Int) ≤ budget ∧ Hid (bfs (kp x y) budget.toNat (budget.toNat + 1 - j) l j = cmpB x y budget)) (fun _ _ _ i _ _ _ _ _ _ _ _ _ _ _ _ _ _ _ _ _ _ _ _ _ _ _ _ _ _ _ _ _ _ _ _ _ _ _ _ _ _ _ _ _ _ _ _ _ _ _ _ _ _ _ _ _ _ _ _ _ _ _ => budget.toNat - (intOf i).toNat)
  case atStart => exact ⟨0, [(0, 0)], rfl, ((St.refl HI.out).drewN _).alloc _, own_lit (w := w.drewN _) HI.out (Nat.le_refl _) [.int .i64 0, .int .i64 0] 1 2 52 (by simp [maxLen]) rfl, GS.out, by simpa using hb2, HR⟩
  case round =>
    obtain ⟨wo, rfl⟩ : ∃ wo : World, wo = wr := ⟨_, rfl⟩
    obtain ⟨j, l, rfl, S, O, G, hlb, R⟩ := hrel
    have hjl := G.le
    have hlen := G.len
    by_cases hlt : j < l.length
    · obtain ⟨g, cap, rfl, hg1, hg2, hg3, c0, c1⟩ := O.open j hlt
      obtain ⟨p1, p2, p3, p4⟩ := G.inr l[j] (by simp)
      have GT := Lib.hid (good_step KK.out G hlt)
      have HT : Hid (l ++ kp x y l[j] = l ++ (nd x l[j].1).kids.flatMap fun c => kpC x y c (nd y l[j].2).kids) := rfl
      have HS1 := Lib.hid (fun hb hf => bfs_go (k := kp x y) (budget := budget.toNat) (f := budget.toNat + 1 - j) hlt hb hf)
      have HS2 := Lib.hid (fun hb => bfs_stop (k := kp x y) (budget := budget.toNat) (f := budget.toNat + 1 - j) hlt hb)
      generalize l[j] = p at *
      obtain ⟨hbx, hxa⟩ := HX.out wo S.imm
      obtain ⟨hby, hya⟩ := HY.out wo S.imm
      obtain ⟨akx, ckx, -, -, -, dx3, -, hkx, -⟩ := hxa p.1 p1 p2
      obtain ⟨aky, cky, -, -, -, dy3, -, hky, -⟩ := hya p.2 p3 p4
      have hkxl := hkx.1.len.1
      have hkyl := hky.1.len.1
      have S' := Lib.hid S
      have O' := Lib.hid O
      have G' := Lib.hid G
      have HKX := Lib.hid hkx
      have HKY := Lib.hid hky
      clear hxa hya S O G hkx hky
      have hTl := GT.out.len
      generalize hT : l ++ kp x y p = T at *
      have HT' := Lib.hid hT
      clear hT
      have RS : Hid (RowIn h w (wo.alloc (Obj.cells #[.int .i64 p.1, .int .i64 p.2] 52)) g (.slice (some ⟨g, 0, none⟩) l.length cap) l (wo.alloc (Obj.cells #[.int .i64 p.1, .int .i64 p.2] 52))) := ⟨S'.out.alloc _, O'.out.alloc _, World.grownBy.refl _ _, .inl rfl⟩
      go_wp2_with fail
      go_loopw [6, 7, 8, 12, 14, 47, 48, 49, 50, 51, 52, 53, 54, 55, 56, 57, 58, 59, 60, 61, 62, 63, 64, 65, 66, 67, 68, 69, 70, 71, 72, 73, 74, 75, 76, 77, 78, 79, 80, 81, 82, 83, 84] (fun _ _ v _ _ i _ _ _ _ _ _ _ _ _ _ _ _ _ _ _ _ _ _ _ _ _ _ _ _ _ _ _ _ _ _ _ _ _ _ _ _ _ w2 => ∃ (jc : Nat) (m : List (Int × Int)), jc ≤ (nd x p.1).kids.length ∧ i = .int .i64 jc ∧ RowIn h w (wo.alloc (Obj.cells #[.int .i64 p.1, .int .i64 p.2] 52)) g v m w2 ∧ (m.length : Int) ≤ budget ∧ Hid (m ++ ((nd x p.1).kids.drop jc).flatMap (fun c => kpC x y c (nd y p.2).kids) = T)) (fun _ _ _ _ _ i _ _ _ _ _ _ _ _ _ _ _ _ _ _ _ _ _ _ _ _ _ _ _ _ _ _ _ _ _ _ _ _ _ _ _ _ _ _ => (nd x p.1).kids.length - (intOf i).toNat)
      case atStart => exact ⟨0, l, Nat.zero_le _, rfl, RS, hlb, HT.out.symm⟩
      case round =>
        obtain ⟨w2, rfl⟩ : ∃ w2 : World, w2 = wr := ⟨_, rfl⟩
        obtain ⟨jc, m, hjc, rfl, RI, hmb, RT⟩ := hrel
        obtain ⟨am, cm, rfl⟩ := Ow.shape RI.own
        have hbox := box_kept1 RI.grown (fun k hk => by simp only [Option.some.injEq] at hk; omega) 1
        simp only [List.getElem?_toArray, List.getElem?_cons_succ, List.getElem?_cons_zero] at hbox
        by_cases hltc : jc < (nd x p.1).kids.length
        · obtain ⟨akx', ckx', hkxe, -, hkc⟩ := HKX.out.open
          simp only [Value.slice.injEq, true_and] at hkxe
          obtain ⟨rfl, rfl⟩ := hkxe
          obtain ⟨bkx, okx, rfl, hbkx, hkc⟩ := hkc w2 RI.st.imm (by omega)
          have dc := hkc jc hltc
          obtain ⟨hby2, hya⟩ := HY.out w2 RI.st.imm
          obtain ⟨aky', cky', -, -, -, dy3', -, hky', -⟩ := hya p.2 p3 p4
          have HKY' := Lib.hid hky'
          have hcm : Hid ((nd x p.1).kids[jc] ∈ (nd x p.1).kids) := by unfold Hid; simp
          have hdr : Hid ((nd x p.1).kids.drop jc = (nd x p.1).kids[jc] :: (nd x p.1).kids.drop (jc + 1)) := List.drop_eq_getElem_cons hltc
          generalize hgc : (nd x p.1).kids[jc] = c at *
          obtain ⟨q1, q2, -, -⟩ := kid_inr WX.out p1 p2 hcm.out
          have RT' : Hid (m ++ kpC x y c ((nd y p.2).kids.drop 0) ++ ((nd x p.1).kids.drop (jc + 1)).flatMap (fun c => kpC x y c (nd y p.2).kids) = T) := by
            have := RT.out
            rw [hdr.out, List.flatMap_cons, ← List.append_assoc] at this
            exact this
          have RI' := Lib.hid RI
          clear hya hky' hkc hgc RI hcm hdr RT
          go_wp2_with fail
          go_loopw [6, 7, 8, 14, 58, 59, 60, 61, 62, 63, 64, 65, 66, 67, 68, 69, 70, 71, 72, 73, 74, 75, 76, 77, 78, 79, 80, 81, 82, 83] (fun _ _ v _ i _ _ _ _ _ _ _ _ _ _ _ _ _ _ _ _ _ _ _ _ _ _ _ _ _ wr => ∃ (kd : Nat) (m : List (Int × Int)), kd ≤ (nd y p.2).kids.length ∧ i = .int .i64 kd ∧ RowIn h w (wo.alloc (Obj.cells #[.int .i64 p.1, .int .i64 p.2] 52)) g v m wr ∧ (m.length : Int) ≤ budget ∧ Hid (m ++ kpC x y c ((nd y p.2).kids.drop kd) ++ ((nd x p.1).kids.drop (jc + 1)).flatMap (fun c => kpC x y c (nd y p.2).kids) = T)) (fun _ _ _ _ i _ _ _ _ _ _ _ _ _ _ _ _ _ _ _ _ _ _ _ _ _ _ _ _ _ _ => (nd y p.2).kids.length - (intOf i).toNat)
          case atStart => exact ⟨0, m, Nat.zero_le _, rfl, RI'.out, hmb, RT'⟩
          case round =>
            obtain ⟨kd, n, hkd, rfl, RJ, hnb, RU⟩ := hrel
            obtain ⟨an, cn, rfl⟩ := Ow.shape RJ.own
            by_cases hltd : kd < (nd y p.2).kids.length
            · obtain ⟨aky2, cky2, hkye, -, hkd'⟩ := HKY'.out.open
              simp only [Value.slice.injEq, true_and] at hkye
              obtain ⟨rfl, rfl⟩ := hkye
              obtain ⟨bky, oky, rfl, hbky, hkd'⟩ := hkd' wr RJ.st.imm (by omega)
              have dd := hkd' kd hltd
              have hdm : Hid ((nd y p.2).kids[kd] ∈ (nd y p.2).kids) := by unfold Hid; simp
              have hdr : Hid ((nd y p.2).kids.drop kd = (nd y p.2).kids[kd] :: (nd y p.2).kids.drop (kd + 1)) := List.drop_eq_getElem_cons hltd
              generalize hgd : (nd y p.2).kids[kd] = d at *
              obtain ⟨r1, r2, -, -⟩ := kid_inr WY.out p3 p4 hdm.out
              obtain ⟨hbx3, hxa⟩ := HX.out wr RJ.st.imm
              obtain ⟨hby3, hya⟩ := HY.out wr RJ.st.imm
              obtain ⟨-, -, ex0, -⟩ := hxa c q1 q2
              obtain ⟨-, -, ey0, -⟩ := hya d r1 r2
              have RU' := RU.out
              rw [hdr.out, kpC_cons] at RU'
              have RJ' := Lib.hid RJ
              clear hxa hya hkd' hgd RJ hdm hdr RU
              by_cases hkk : (nd x c).kind = (nd y d).kind
              · rw [if_pos hkk] at RU'
                have g1 := ibneF hkk
                have RV : Hid ((n ++ [(c, d)]) ++ kpC x y c ((nd y p.2).kids.drop (kd + 1)) ++ ((nd x p.1).kids.drop (jc + 1)).flatMap (fun c => kpC x y c (nd y p.2).kids) = T) := by
                  unfold Hid; simpa only [List.append_assoc] using RU'
                have hnT : n.length + 1 ≤ T.length := by rw [← RV.out]; simp
                clear hkk RU'
                by_cases hbb : (n.length : Int) = budget
                · have g2 := ibeqT hbb
                  have HBB : Hid ((n.length : Int) = budget) := hbb
                  clear hbb
                  go_wp2_with fail
                  go_quiet (fail)
                  go_wp2_with fail
                  go_ret2
                  refine ⟨h, RJ'.out.st.drewN _, ?_⟩
                  have : cmpB x y budget = none := by rw [← R.out]; exact HS2.out (by have := HBB.out; omega)
                  rw [this]; rfl
                · have g2 := ibeqF hbb
                  have hbb' : (n.length : Int) + 1 ≤ budget := by omega
                  clear hbb
                  go_wp2_with fail
                  go_quiet (fail)
                  go_wp2_with (at_builtin; refine wpList_app el_pairs rfl _ _ rfl ((RJ'.out.st.drewN _).alloc _) _ n.length _ rfl ((RJ'.out.own.drewN _).alloc _) ⟨_, 0, none⟩ 1 1 (encP (c, d)) rfl rfl (new_cells _ _ _ _ (by simp)) (one_cells _ rfl) (by omega) ?_; intro v2 w3 st2 own2 gr2 bk2)
                  have RK := Lib.hid ((RJ'.out.drewN _).app st2 own2 gr2 bk2)
                  clear st2 own2 gr2 bk2
                  go_roundw
                  case rel => exact ⟨kd + 1, n ++ [(c, d)], by omega, by go_num, RK.out, by simpa using hbb', RV⟩
                  case measure => simp [intOf]; omega
              · rw [if_neg hkk] at RU'
                have g1 := ibneT hkk
                have RV : Hid (n ++ kpC x y c ((nd y p.2).kids.drop (kd + 1)) ++ ((nd x p.1).kids.drop (jc + 1)).flatMap (fun c => kpC x y c (nd y p.2).kids) = T) := by
                  unfold Hid; simpa using RU'
                clear hkk RU'
                go_wp2_with fail
                go_quiet (fail)
                go_wp2_with fail
                go_roundw
                case rel => exact ⟨kd + 1, n, by omega, by go_num, RJ'.out.drewN _, hnb, RV⟩
                case measure => simp [intOf]; omega
            · obtain rfl : kd = (nd y p.2).kids.length := by omega
              go_wp2_with fail
              go_roundw
              case rel => exact ⟨jc + 1, n, by omega, by go_num, RJ, hnb, by unfold Hid; have := RU.out; rw [List.drop_length] at this; simpa [kpC] using this⟩
              case measure => simp [intOf]; omega
        · obtain rfl : jc = (nd x p.1).kids.length := by omega
          have RT' := RT.out
          rw [List.drop_length] at RT'
          simp only [List.flatMap_nil, List.append_nil] at RT'
          subst RT'
          go_wp2_with fail
          go_roundw
          case rel => exact ⟨j + 1, m, by go_num, RI.st, RI.own, GT.out, hmb, by unfold Hid; rw [← R.out, HS1.out (by omega) (by omega)]; congr 1⟩
          case measure => simp [intOf]; omega
    · obtain rfl : j = l.length := by omega
      obtain ⟨al, cl, rfl⟩ := Ow.shape O
      go_wp2_with fail
      refine (sort_any h _ S.imm w.heap.size _ l (by omega) O).mono ?_
      rintro e w5 ⟨rfl, gr, own⟩
      have S5 := Lib.hid (S.grown gr (fun k hk => ⟨(O.lt k hk).1, O.free k hk⟩))
      have own5 := Lib.hid own
      have hR : Hid (cmpB x y budget = some l) := by unfold Hid; rw [← R.out]; exact bfs_end (Nat.le_refl _) (by omega)
      clear gr own O S R
      go_wp2_with fail
      go_ret2
      refine ⟨_, S5.out.fr, ?_⟩
      rw [hR.out]
      have hsl : (sortP l).length = l.length := List.length_mergeSort _
      refine ⟨_, rfl, ?_, ?_⟩
      · rw [hsl]; exact own5.out.sl (by omega)
      · intro q hq
        have hq' : q ∈ l := (List.mergeSort_perm l _).mem_iff.1 hq
        have := G.inr q hq'
        unfold InR at this
        unfold I64
        omega
end Go.Proofs.Ytfifbadepebpeaa
