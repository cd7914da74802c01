/- matching.table. -/
import Derived.Test.YtfifbadepebpeaaWe
import Derived.Test.YtfifbadepebpeaaMp
namespace Go.Proofs.Ytfifbadepebpeaa
open Go.RowKit

def dropP (x : List NodeP) (i : Int) : List Int := (nd x i).kids.map fun c => (nd x c).size
def costP (x y : List NodeP) (p : Int × Int) (dm : Int × Int → Int) : List (List Int) :=
  (nd x p.1).kids.map fun c => (nd y p.2).kids.map fun k => if (nd x c).kind = (nd y k).kind then dm (c, k) else -1

/-- The integers of a row that the call owns. -/
def InOw (w : World) (h : Hp) (B : Nat) (v : Value) (l : List Int) : Prop := Ow w h B 3 1 v l.length (l.map (Value.int .i64))
theorem InOw.snoc {w : World} {h : Hp} {B : Nat} {v : Value} {l : List Int} {z : Int} (o : Ow w h B 3 1 v (l.length + 1) (l.map (Value.int .i64) ++ [.int .i64 z])) : InOw w h B v (l ++ [z]) := by
  unfold InOw
  rw [List.map_append, List.length_append]
  exact o
theorem map_take_snoc {α β : Type} (f : α → β) (l : List α) (j : Nat) (h : j < l.length) : (l.take (j + 1)).map f = (l.take j).map f ++ [f l[j]] := by
  rw [List.take_add_one, List.getElem?_eq_getElem h, List.map_append]; rfl

/-- Behind a loop that has made a row of integers. -/
structure Phase (h : Hp) (w : World) (h' : Hp) (w' : World) (v : Value) (l : List Int) : Prop where
  st : St w.heap.size h w h' w'
  ints : Ints h' v l
theorem Phase.mk' {h : Hp} {w w' : World} {v : Value} {l : List Int} (S : St w.heap.size h w h w') (O : InOw w' h w.heap.size v l) (hl : l.length ≤ 140737488355328) (hr : ∀ q ∈ l, I64 q) : Phase h w (h.fr w.heap.size w') w' v l :=
  ⟨S.fr, Ow.sl O hl, hr⟩

def TabRes (h : Hp) (w : World) (drop add : List Int) (cost : List (List Int)) (e : Ending) (w' : World) : Prop :=
  ∃ v1 v2 v3, e = .returned (.tuple #[v1, v2, v3]) ∧ ∃ h', St w.heap.size h w h' w' ∧ Ints h' v1 drop ∧ Ints h' v2 add ∧ Rws h' v3 cost

set_option maxRecDepth 100000 in
set_option maxHeartbeats 4000000 in
theorem mtable_any (h : Hp) (w : World) (hi : Imm h w) (vx vy : Value) (x y : List NodeP) (p : Int × Int) (r : Nat) (l : List ((Int × Int) × Value)) (dm : Int × Int → Int) (hx : Nds h vx x) (hy : Nds h vy y) (wx : WF x) (wy : WF y)
    (sx : x.length ≤ 262144) (sy : y.length ≤ 262144) (hp : InR x y p) (hm : MapL w r l) (hdm : ∀ q, (findL l q).getD (.int .i64 0) = .int .i64 (dm q) ∧ I64 (dm q)) :
    Calls Try.prog 53 #[vx, vy, .agg #[.int .i64 p.1, .int .i64 p.2], .map (some r)] w (TabRes h w (dropP x p.1) (dropP y p.2) (costP x y p dm)) := by
  obtain ⟨bx, ox, cx, rfl, hxn, hxc⟩ := hx.openI wx.pos
  obtain ⟨by', oy, cy, rfl, hyn, hyc⟩ := hy.openI wy.pos
  have HX := Lib.hid (fun w' hi => hxc w' hi)
  have HY := Lib.hid (fun w' hi => hyc w' hi)
  have HI := Lib.hid hi
  have WX := Lib.hid wx
  have WY := Lib.hid wy
  have HM := Lib.hid hm
  have HDM := Lib.hid hdm
  obtain ⟨p1, p2, p3, p4⟩ := hp
  have LX : (nd x p.1).kids.length ≤ 262144 := by have := kids_len wx p1 p2; omega
  have LY : (nd y p.2).kids.length ≤ 262144 := by have := kids_len wy p3 p4; omega
  clear hx hy hxc hyc wx wy hm hdm hi
  obtain ⟨hbx, hxa⟩ := HX.out w HI.out
  obtain ⟨akx, ckx, -, -, -, dx3, -, hkx, -⟩ := hxa p.1 p1 p2
  clear hxa
  have HKX := Lib.hid hkx
  clear hkx
  go_enter Try.func53, Try.ntmps53
  go_wp2_with fail
  go_loopw [8, 12, 27, 28, 29, 30, 31, 32, 33, 34, 35, 36, 37, 38, 39] (fun v _ i _ _ _ _ _ _ _ _ _ _ _ _ wr => ∃ (j : Nat), j ≤ (nd x p.1).kids.length ∧ i = .int .i64 j ∧ St (w.heap.size + 1) h (w.alloc (Obj.cells #[.int .i64 p.1, .int .i64 p.2] 52)) h wr ∧ InOw wr h (w.heap.size + 1) v (((nd x p.1).kids.take j).map fun c => (nd x c).size)) (fun _ _ i _ _ _ _ _ _ _ _ _ _ _ _ _ => (nd x p.1).kids.length - (intOf i).toNat)
  case atStart => exact ⟨0, Nat.zero_le _, rfl, St.refl' (HI.out.alloc _) (by simp), by simpa [InOw] using Ow.nil _ _ _ _ _⟩
  case round =>
    obtain ⟨j, hj, rfl, S, O⟩ := hrel
    obtain ⟨am, cm, rfl⟩ := Ow.shape O
    have S' := Lib.hid S
    have O' := Lib.hid O
    have IH0 := Lib.hid S.imm
    by_cases hlt : j < (nd x p.1).kids.length
    · obtain ⟨akx', ckx', hkxe, -, hkc⟩ := HKX.out.open
      simp only [Value.slice.injEq, true_and] at hkxe
      obtain ⟨rfl, rfl⟩ := hkxe
      obtain ⟨bkx, okx, rfl, hbkx, hkc⟩ := hkc wr S.imm (by omega)
      have dc := hkc j hlt
      have hcm : Hid ((nd x p.1).kids[j] ∈ (nd x p.1).kids) := by unfold Hid; simp
      have HT := Lib.hid (map_take_snoc (fun c => (nd x c).size) (nd x p.1).kids j hlt)
      generalize hgc : (nd x p.1).kids[j] = c at *
      obtain ⟨q1, q2, -, -⟩ := kid_inr WX.out p1 p2 hcm.out
      obtain ⟨hbx2, hxa⟩ := HX.out wr IH0.out
      obtain ⟨-, -, -, -, -, -, dz, -, -, -, iz⟩ := hxa c q1 q2
      clear hxa hkc hgc hcm S O
      have hll : (((nd x p.1).kids.take j).map fun c => (nd x c).size).length ≤ 262144 := by simp; omega
      generalize (((nd x p.1).kids.take j).map fun c => (nd x c).size) = L at *
      go_wp2_with (at_builtin; refine wpList_app el_ints rfl _ _ rfl (S'.out.alloc _) _ L.length _ rfl (Ow.alloc O'.out _) ⟨_, 0, none⟩ 1 1 [.int .i64 (nd x c).size] rfl rfl (new_cells _ _ _ _ (by simp)) (one_cells _ rfl) (by omega) ?_; intro v2 w3 st2 own2 gr2 bk2)
      go_roundw
      case rel => exact ⟨j + 1, by omega, by go_num, st2, by rw [HT.out]; exact InOw.snoc own2⟩
      case measure => simp [intOf]; omega
    · obtain rfl : j = (nd x p.1).kids.length := by omega
      have hz : (w.alloc (Obj.cells #[.int .i64 p.1, .int .i64 p.2] 52)).heap.size = w.heap.size + 1 := by simp
      have O2 : InOw wr h (w.heap.size + 1) (.slice am (nd x p.1).kids.length cm) (dropP x p.1) := by
        have := O
        simp only [List.take_length, List.length_map] at this
        exact this
      have P1 : Phase h (w.alloc (Obj.cells #[.int .i64 p.1, .int .i64 p.2] 52)) (h.fr (w.heap.size + 1) wr) wr (.slice am (nd x p.1).kids.length cm) (dropP x p.1) := by
        have := Phase.mk' (w := w.alloc (Obj.cells #[.int .i64 p.1, .int .i64 p.2] 52)) (by rw [hz]; exact S) (by rw [hz]; exact O2) (by simp only [dropP, List.length_map]; omega) (by
          intro q hq
          obtain ⟨c, hc, rfl⟩ := List.mem_map.1 hq
          obtain ⟨q1, q2, -, -⟩ := kid_inr WX.out p1 p2 hc
          obtain ⟨-, hxa⟩ := HX.out w HI.out
          obtain ⟨-, -, -, -, -, -, -, -, -, -, iz⟩ := hxa c q1 q2
          exact iz)
        rw [hz] at this
        exact this
      obtain ⟨w1, rfl⟩ : ∃ w1 : World, w1 = wr := ⟨_, rfl⟩
      generalize h.fr (w.heap.size + 1) w1 = h1 at *
      have hw1 : w.heap.size < w1.heap.size := by have := P1.st.below.size; rw [hz] at this; omega
      have k1 : w1.cell? ⟨w.heap.size, 1, none⟩ = some (.int .i64 p.2) := by rw [P1.st.below.cell (by simp), World.cell?_alloc_at _ _ _ _ rfl]; rfl
      have S0 : Hid (St w.heap.size h w h1 w1) := ((St.refl HI.out).alloc _).call P1.st
      obtain ⟨hby, hya⟩ := HY.out w1 S0.out.imm0
      obtain ⟨aky, cky, -, -, -, dy3, -, hky, -⟩ := hya p.2 p3 p4
      have HKY := Lib.hid hky
      have P1' := Lib.hid P1
      clear hya hky P1 S O O2 hz
      simp only [List.take_length, List.length_map]
      go_wp2_with fail
      go_loopw [9, 14, 47, 48, 49, 50, 51, 52, 53, 54, 55, 56, 57, 58, 59] (fun v _ i _ _ _ _ _ _ _ _ _ _ _ _ wr => ∃ (j : Nat), j ≤ (nd y p.2).kids.length ∧ i = .int .i64 j ∧ St w1.heap.size h1 w1 h1 wr ∧ InOw wr h1 w1.heap.size v (((nd y p.2).kids.take j).map fun c => (nd y c).size)) (fun _ _ i _ _ _ _ _ _ _ _ _ _ _ _ _ => (nd y p.2).kids.length - (intOf i).toNat)
      case atStart => exact ⟨0, Nat.zero_le _, rfl, St.refl P1'.out.st.imm, by simpa [InOw] using Ow.nil _ _ _ _ _⟩
      case round =>
        obtain ⟨j, hj, rfl, S, O⟩ := hrel
        obtain ⟨an, cn, rfl⟩ := Ow.shape O
        have S' := Lib.hid S
        have O' := Lib.hid O
        have IH0 : Hid (Imm h wr) := fun b c hc => S.imm b c (S0.out.le b c hc)
        by_cases hlt : j < (nd y p.2).kids.length
        · obtain ⟨akx', ckx', hkxe, -, hkc⟩ := HKY.out.open
          simp only [Value.slice.injEq, true_and] at hkxe
          obtain ⟨rfl, rfl⟩ := hkxe
          obtain ⟨bkx, okx, rfl, hbkx, hkc⟩ := hkc wr IH0.out (by omega)
          have dc := hkc j hlt
          have hcm : Hid ((nd y p.2).kids[j] ∈ (nd y p.2).kids) := by unfold Hid; simp
          have HT := Lib.hid (map_take_snoc (fun c => (nd y c).size) (nd y p.2).kids j hlt)
          generalize hgc : (nd y p.2).kids[j] = c at *
          obtain ⟨q1, q2, -, -⟩ := kid_inr WY.out p3 p4 hcm.out
          obtain ⟨hbx2, hxa⟩ := HY.out wr IH0.out
          obtain ⟨-, -, -, -, -, -, dz, -, -, -, iz⟩ := hxa c q1 q2
          clear hxa hkc hgc hcm S O
          have hll : (((nd y p.2).kids.take j).map fun c => (nd y c).size).length ≤ 262144 := by simp; omega
          generalize (((nd y p.2).kids.take j).map fun c => (nd y c).size) = L at *
          go_wp2_with (at_builtin; refine wpList_app el_ints rfl _ _ rfl (S'.out.alloc _) _ L.length _ rfl (Ow.alloc O'.out _) ⟨_, 0, none⟩ 1 1 [.int .i64 (nd y c).size] rfl rfl (new_cells _ _ _ _ (by simp)) (one_cells _ rfl) (by omega) ?_; intro v2 w3 st2 own2 gr2 bk2)
          go_roundw
          case rel => exact ⟨j + 1, by omega, by go_num, st2, by rw [HT.out]; exact InOw.snoc own2⟩
          case measure => simp [intOf]; omega
        · obtain rfl : j = (nd y p.2).kids.length := by omega
          have O2 : InOw wr h1 w1.heap.size (.slice an (nd y p.2).kids.length cn) (dropP y p.2) := by
            have := O
            simp only [List.take_length, List.length_map] at this
            exact this
          have P2 : Phase h1 w1 (h1.fr w1.heap.size wr) wr (.slice an (nd y p.2).kids.length cn) (dropP y p.2) :=
            Phase.mk' S O2 (by simp only [dropP, List.length_map]; omega) (by
              intro q hq
              obtain ⟨c, hc, rfl⟩ := List.mem_map.1 hq
              obtain ⟨q1, q2, -, -⟩ := kid_inr WY.out p3 p4 hc
              obtain ⟨-, hxa⟩ := HY.out w HI.out
              obtain ⟨-, -, -, -, -, -, -, -, -, -, iz⟩ := hxa c q1 q2
              exact iz)
          obtain ⟨w2, rfl⟩ : ∃ w2 : World, w2 = wr := ⟨_, rfl⟩
          generalize h1.fr w1.heap.size w2 = h2 at *
          have S2 : Hid (St w.heap.size h w h2 w2) := S0.out.call P2.st
          have hw2 : w.heap.size < w2.heap.size := by have := P2.st.below.size; omega
          have k0 : w2.cell? ⟨w.heap.size, 0, none⟩ = some (.int .i64 p.1) := by
            rw [P2.st.below.cell hw1, P1'.out.st.below.cell (by simp), World.cell?_alloc_at _ _ _ _ rfl]; rfl
          have k2 : Hid (w2.cell? ⟨w.heap.size, 1, none⟩ = some (.int .i64 p.2)) := by
            unfold Hid; rw [P2.st.below.cell hw1]; exact k1
          obtain ⟨hbx2, hxa⟩ := HX.out w2 S2.out.imm0
          obtain ⟨akx2, ckx2, -, -, -, ex3, -, hkx2, -⟩ := hxa p.1 p1 p2
          have HKX2 := Lib.hid hkx2
          have P2' := Lib.hid P2
          clear hxa hkx2 P2 S O O2 k1
          simp only [List.take_length, List.length_map]
          go_wp2_with fail
          go_loopw [10, 16, 17, 19, 67, 68, 69, 70, 71, 72, 73, 74, 75, 76, 77, 78, 79, 80, 81, 82, 83, 84, 85, 86, 87, 88, 89, 90, 91, 92, 93, 94, 95, 96, 97, 98, 99, 100, 101, 102, 103, 104, 105, 106, 107, 108, 109, 110, 111, 112] (fun v _ _ _ i _ _ _ _ _ _ _ _ _ _ _ _ _ _ _ _ _ _ _ _ _ _ _ _ _ _ _ _ _ _ _ _ _ _ _ _ _ _ _ _ _ _ _ _ _ wr => ∃ (j : Nat) (hj : Hp) (vs : List Value), j ≤ (nd x p.1).kids.length ∧ i = .int .i64 j ∧ St w2.heap.size h2 w2 hj wr ∧ Ow wr hj w2.heap.size 35 1 v j vs ∧ EncL (RowC hj) (((nd x p.1).kids.take j).map fun c => (nd y p.2).kids.map fun k => if (nd x c).kind = (nd y k).kind then dm (c, k) else -1) vs) (fun _ _ _ _ i _ _ _ _ _ _ _ _ _ _ _ _ _ _ _ _ _ _ _ _ _ _ _ _ _ _ _ _ _ _ _ _ _ _ _ _ _ _ _ _ _ _ _ _ _ _ => (nd x p.1).kids.length - (intOf i).toNat)
          case atStart => exact ⟨0, h2, [], Nat.zero_le _, rfl, St.refl S2.out.imm, Ow.nil _ _ _ _ _, by simp [EncL]⟩
          case round =>
            obtain ⟨wo, rfl⟩ : ∃ wo : World, wo = wr := ⟨_, rfl⟩
            obtain ⟨j, hj, vs, hjl, rfl, S, O, E⟩ := hrel
            obtain ⟨ao, co, rfl⟩ := Ow.shape O
            have S' := Lib.hid S
            have O' := Lib.hid O
            have E' := Lib.hid E
            have IH0 : Hid (Imm h wo) := fun b c hc => S.imm b c (S.le b c (S2.out.le b c hc))
            by_cases hlt : j < (nd x p.1).kids.length
            · obtain ⟨akx', ckx', hkxe, -, hkc⟩ := HKX2.out.open
              simp only [Value.slice.injEq, true_and] at hkxe
              obtain ⟨rfl, rfl⟩ := hkxe
              obtain ⟨bkx, okx, rfl, hbkx, hkc⟩ := hkc wo IH0.out (by omega)
              have dc := hkc j hlt
              have hcm : Hid ((nd x p.1).kids[j] ∈ (nd x p.1).kids) := by unfold Hid; simp
              have HT := Lib.hid (map_take_snoc (fun c => (nd y p.2).kids.map fun k => if (nd x c).kind = (nd y k).kind then dm (c, k) else -1) (nd x p.1).kids j hlt)
              generalize hgc : (nd x p.1).kids[j] = c at *
              obtain ⟨q1, q2, -, -⟩ := kid_inr WX.out p1 p2 hcm.out
              clear hkc hgc hcm S O E
              have hwo : w.heap.size < wo.heap.size := by have := S'.out.below.size; omega
              have kk : wo.cell? ⟨w.heap.size, 1, none⟩ = some (.int .i64 p.2) := by rw [S'.out.below.cell hw2]; exact k2.out
              go_wp2_with (at_make; refine wpList_mk0 el_ints rfl _ _ rfl (St.refl S'.out.imm) .i64 .i64 _ (nd y p.2).kids.length rfl rfl (by go_num) (by omega) ?_; intro w3 st3 own3 gr3; have kk3 : w3.cell? ⟨w.heap.size, 1, none⟩ = some (.int .i64 p.2) := (by rw [st3.below.cell hwo]; exact kk); have ey := (HY.out w3 (fun b c hc => st3.imm b c (S'.out.le b c (S2.out.le b c hc)))); obtain ⟨hby3, hya⟩ := ey; obtain ⟨aky3, cky3, -, -, -, ey3, -, hky3, -⟩ := hya p.2 p3 p4; have HKY3 := Lib.hid hky3; have ST3 := Lib.hid st3; have OW3 := Lib.hid own3; clear hya hky3 st3 own3 gr3)
              go_loopw [17, 19, 81, 82, 83, 84, 85, 86, 87, 88, 89, 90, 91, 92, 93, 94, 95, 96, 97, 98, 99, 100, 101, 102, 103, 104, 105, 106, 107] (fun v _ i _ _ _ _ _ _ _ _ _ _ _ _ _ _ _ _ _ _ _ _ _ _ _ _ _ _ wr => ∃ (k : Nat), k ≤ (nd y p.2).kids.length ∧ i = .int .i64 k ∧ St wo.heap.size hj wo hj wr ∧ InOw wr hj wo.heap.size v (((nd y p.2).kids.take k).map fun k => if (nd x c).kind = (nd y k).kind then dm (c, k) else -1)) (fun _ _ i _ _ _ _ _ _ _ _ _ _ _ _ _ _ _ _ _ _ _ _ _ _ _ _ _ _ _ => (nd y p.2).kids.length - (intOf i).toNat)
              case atStart => exact ⟨0, Nat.zero_le _, rfl, ST3.out, by simpa [InOw] using OW3.out⟩
              case round =>
                obtain ⟨k, hk, rfl, S4, O4⟩ := hrel
                obtain ⟨ai, ci, rfl⟩ := Ow.shape O4
                have S4' := Lib.hid S4
                have O4' := Lib.hid O4
                have IH4 : Hid (Imm h wr) := fun b c hc => S4.imm b c (S'.out.le b c (S2.out.le b c hc))
                by_cases hltk : k < (nd y p.2).kids.length
                · obtain ⟨aky', cky', hkye, -, hkc⟩ := HKY3.out.open
                  simp only [Value.slice.injEq, true_and] at hkye
                  obtain ⟨rfl, rfl⟩ := hkye
                  obtain ⟨bky, oky, rfl, hbky, hkc⟩ := hkc wr IH4.out (by omega)
                  have dk := hkc k hltk
                  have hdm' : Hid ((nd y p.2).kids[k] ∈ (nd y p.2).kids) := by unfold Hid; simp
                  have HT4 := Lib.hid (map_take_snoc (fun k => if (nd x c).kind = (nd y k).kind then dm (c, k) else -1) (nd y p.2).kids k hltk)
                  generalize hgd : (nd y p.2).kids[k] = d at *
                  obtain ⟨r1, r2, -, -⟩ := kid_inr WY.out p3 p4 hdm'.out
                  obtain ⟨hbx4, hxa⟩ := HX.out wr IH4.out
                  obtain ⟨hby4, hya⟩ := HY.out wr IH4.out
                  obtain ⟨-, -, ex0, -⟩ := hxa c q1 q2
                  obtain ⟨-, -, ey0, -⟩ := hya d r1 r2
                  have hmr : Hid (wr.heap[r]? = w.heap[r]?) := by
                    have hr := HM.out.lt
                    unfold Hid
                    rw [S4.below.block r (by omega), S'.out.below.block r (by omega)]
                    exact S2.out.below.block r hr
                  obtain ⟨hd1, hd2⟩ := HDM.out (c, d)
                  have hll : (((nd y p.2).kids.take k).map fun k => if (nd x c).kind = (nd y k).kind then dm (c, k) else -1).length ≤ 262144 := by simp; omega
                  generalize (((nd y p.2).kids.take k).map fun k => if (nd x c).kind = (nd y k).kind then dm (c, k) else -1) = L at *
                  clear hxa hya hkc hgd hdm' S4 O4
                  by_cases hkk : (nd x c).kind = (nd y d).kind
                  · rw [if_pos hkk] at HT4
                    have g1 := ibeqT hkk
                    have hlook : ∀ nq, (Instr.lookup 97 (.map (some r)) (.agg #[.int .i64 c, .int .i64 d]) false).run Try.prog (wr.drewN nq) = .ok (.int .i64 (dm (c, d))) (wr.drewN nq) := fun nq => by
                      have := HM.out.look (c, d) 97 3 (.int .i64 0) Try.underlying97 (fun _ => by kernel_rfl) (wr.drewN nq) hmr.out
                      rw [hd1] at this
                      exact this
                    clear hkk hd1 hd2
                    go_wp2_with fail
                    go_quiet (fail)
                    go_wp2_with (at_builtin; refine wpList_app el_ints rfl _ _ rfl ((S4'.out.drewN _).alloc _) _ L.length _ rfl (Ow.alloc (Ow.drewN O4'.out _) _) ⟨_, 0, none⟩ 1 1 [.int .i64 (dm (c, d))] rfl rfl (new_cells _ _ _ _ (by simp)) (one_cells _ rfl) (by omega) ?_; intro v2 w5 st5 own5 gr5 bk5)
                    go_roundw
                    case rel => exact ⟨k + 1, by omega, by go_num, st5, by rw [HT4.out]; exact InOw.snoc own5⟩
                    case measure => simp [intOf]; omega
                  · rw [if_neg hkk] at HT4
                    have g1 := ibeqF hkk
                    clear hkk hd1 hd2
                    go_wp2_with fail
                    go_quiet (fail)
                    go_wp2_with (at_builtin; refine wpList_app el_ints rfl _ _ rfl ((S4'.out.drewN _).alloc _) _ L.length _ rfl (Ow.alloc (Ow.drewN O4'.out _) _) ⟨_, 0, none⟩ 1 1 [.int .i64 (-1)] rfl rfl (new_cells _ _ _ _ (by simp)) (one_cells _ rfl) (by omega) ?_; intro v2 w5 st5 own5 gr5 bk5)
                    go_roundw
                    case rel => exact ⟨k + 1, by omega, by go_num, st5, by rw [HT4.out]; exact InOw.snoc own5⟩
                    case measure => simp [intOf]; omega
                · obtain rfl : k = (nd y p.2).kids.length := by omega
                  have O2 : InOw wr hj wo.heap.size (.slice ai (nd y p.2).kids.length ci) ((nd y p.2).kids.map fun k => if (nd x c).kind = (nd y k).kind then dm (c, k) else -1) := by
                    have := O4
                    simp only [List.take_length, List.length_map] at this
                    exact this
                  have P4 : Phase hj wo (hj.fr wo.heap.size wr) wr (.slice ai (nd y p.2).kids.length ci) ((nd y p.2).kids.map fun k => if (nd x c).kind = (nd y k).kind then dm (c, k) else -1) :=
                    Phase.mk' S4 O2 (by simp only [List.length_map]; omega) (by
                      intro q hq
                      obtain ⟨d, hd, rfl⟩ := List.mem_map.1 hq
                      split
                      · exact (HDM.out (c, d)).2
                      · unfold I64; omega)
                  generalize hj.fr wo.heap.size wr = hj' at *
                  have SN := Lib.hid (S'.out.call P4.st)
                  have ON := Lib.hid (O'.out.call P4.st)
                  have EN : Hid (EncL (RowC hj') _ vs) := E'.out.mono fun _ _ q => q.mono P4.st.le
                  have P4' := Lib.hid P4
                  clear P4 S4 O4 O2
                  simp only [List.take_length, List.length_map]
                  go_wp2_with (at_builtin; refine wpList_app el_rows rfl _ _ rfl (SN.out.alloc _) _ j vs rfl (ON.out.alloc _) ⟨_, 0, none⟩ 1 1 [.slice ai (nd y p.2).kids.length ci] rfl rfl (new_cells _ _ _ _ (by simp)) (one_cells _ rfl) (by omega) ?_; intro v6 w6 st6 own6 gr6 bk6)
                  go_roundw
                  case rel =>
                    refine ⟨j + 1, hj', vs ++ [.slice ai (nd y p.2).kids.length ci], by omega, by go_num, st6, own6, ?_⟩
                    rw [HT.out]
                    exact EN.out.append (EncL.one ⟨ai, ci, by simp, by simpa using P4'.out.ints⟩)
                  case measure => simp [intOf]; omega
            · obtain rfl : j = (nd x p.1).kids.length := by omega
              go_wp2_with fail
              go_ret3
              refine ⟨_, _, _, rfl, _, (S2.out.call S).fr, ?_, ?_, vs, ?_, ?_⟩
              · exact (P1'.out.ints.mono P2'.out.st.le).mono (Hp.le_trans S.le (Hp.le_fr S.imm))
              · exact P2'.out.ints.mono (Hp.le_trans S.le (Hp.le_fr S.imm))
              · have := (O.base (B' := w.heap.size) (by omega)).sl (by omega)
                simpa [costP] using this
              · have := E.mono fun _ _ q => q.mono (Hp.le_fr (B := w.heap.size) S.imm)
                rw [List.take_length] at this
                exact this
end Go.Proofs.Ytfifbadepebpeaa
