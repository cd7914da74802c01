/- The reference's lists. -/
import Derived.Test.YtfifbadepebpeaaAl
import Derived.Test.YtfifbadepebpeaaBb
import Derived.Test.YtfifbadepebpeaaBp
import Derived.Test.YtfifbadepebpeaaBe
namespace Go.Proofs.Ytfifbadepebpeaa
open Go.RowKit

theorem range_getD (l : List Int) {β : Type} (f : Int → β) : (List.range l.length).map (fun i => f (l.getD i 0)) = l.map f := by
  apply List.ext_getElem
  · simp
  · intro i h1 h2
    simp at h1
    simp [h1]
def cF (x y : List NodeP) (p : Int × Int) (dm : Int × Int → Int) (i j : Nat) : Int :=
  if (nd x ((nd x p.1).kids.getD i 0)).kind = (nd y ((nd y p.2).kids.getD j 0)).kind then dm ((nd x p.1).kids.getD i 0, (nd y p.2).kids.getD j 0) else -1
theorem cF_all (x y : List NodeP) (p : Int × Int) (dm : Int × Int → Int) : ((List.range (nd x p.1).kids.length).map fun i => (List.range (nd y p.2).kids.length).map (cF x y p dm i)) = costP x y p dm := by
  unfold costP cF
  rw [← range_getD (nd x p.1).kids]
  apply List.map_congr_left
  intro i _
  exact range_getD (nd y p.2).kids (fun k => if (nd x ((nd x p.1).kids.getD i 0)).kind = (nd y k).kind then dm ((nd x p.1).kids.getD i 0, k) else -1)

def keys (es : List CompP) : List (Int × Int) := es.map fun e => (e.a, e.b)
theorem keys_len (es : List CompP) : (keys es).length = es.length := by simp [keys]
theorem keys_at (es : List CompP) (k : Nat) (hk : k < es.length) : (keys es)[k]'(by rw [keys_len]; exact hk) = (es[k].a, es[k].b) := by simp [keys]
theorem dget_at {es : List CompP} (hn : (keys es).Nodup) (k : Nat) (hk : k < es.length) : dget es (es[k].a, es[k].b) = es[k].cost := by
  induction es generalizing k with
  | nil => simp at hk
  | cons e es ih =>
    have hn' : (e.a, e.b) ∉ keys es ∧ (keys es).Nodup := by simpa [keys] using hn
    cases k with
    | zero => simp only [List.getElem_cons_zero]; rw [dget_cons, if_pos rfl]
    | succ k =>
      simp only [List.getElem_cons_succ]
      have hk' : k < es.length := by simpa using hk
      rw [dget_cons, if_neg, ih hn'.2 k hk']
      intro e2
      apply hn'.1
      rw [← e2, ← keys_at es k hk']
      exact List.getElem_mem _

set_option maxRecDepth 100000 in
set_option maxHeartbeats 4000000 in
theorem lists_any (w : World) (hr : Hp) (hi : Imm hr w) (bt bl ol cl : Nat) (x y : List NodeP) (px : PO x) (py : PO y) (sx : x.length ≤ 1000) (sy : y.length ≤ 1000) (es : List CompP) (t : Tab hr bt x y (.slice (some ⟨bl, ol, none⟩) es.length cl)) (hes : Cmps hr (.slice (some ⟨bl, ol, none⟩) es.length cl) es) (hl : es.length ≤ 1000000) (hs : (keys es).Pairwise ltP) (hd : ∀ q, I64 (dget es q)) (pa qa : Nat) (hpa : pa < x.length) (hqa : qa < y.length)
    (hcl : ∀ c ∈ (nd x (pa : Int)).kids, ∀ k ∈ (nd y (qa : Int)).kids, (nd x c).kind = (nd y k).kind → (c, k) ∈ keys es) :
    Calls Try.prog 38 #[.pointer (some ⟨bt, 0, none⟩), .int .i64 pa, .int .i64 qa] w (TabRes noHp w (dropP x (pa : Int)) (dropP y (qa : Int)) (costP x y ((pa : Int), (qa : Int)) (dget es))) := by
  have lx := px.wf.pos
  have ly := py.wf.pos
  obtain ⟨bn, on, cn, bp, op, cp, bs, os, ct, bk, ok, ck, dn, pn, en, dp, pp, ep, ds, qs, es', dk, pk, ek, ⟨l1, l2⟩, OX0, OY0, hc⟩ := t.open lx ly
  have HI := Lib.hid hi
  have PX := Lib.hid px
  have PY := Lib.hid py
  have OX := Lib.hid OX0
  have OY := Lib.hid OY0
  have RD := Lib.hid hc
  have HCL := Lib.hid hcl
  have HS := Lib.hid hs
  have HDG := Lib.hid hd
  have HN : Hid (keys es).Nodup := hs.imp fun {a b} hab e => by subst e; exact ltP_irrefl _ hab
  obtain ⟨a', c', ee, -, hesc⟩ := hes.open
  simp only [Value.slice.injEq, true_and] at ee
  obtain ⟨rfl, rfl⟩ := ee
  have ES : Hid (∀ W, Imm hr W → ∀ k (hk : k < es.length), bl < W.heap.size ∧ W.cell? ⟨bl, ol + k * 6, none⟩ = some (.int .i64 es[k].a) ∧ W.cell? ⟨bl, ol + k * 6 + 1, none⟩ = some (.int .i64 es[k].b) ∧ W.cell? ⟨bl, ol + k * 6 + 2, none⟩ = some (.int .i64 es[k].cost)) := fun W hW k hk => by
    obtain ⟨b, off, ap, cp, ar, cr, e, h1, h2, h3, h4, _⟩ := hesc W hW k hk
    simp only [Option.some.injEq, Addr.mk.injEq, and_true] at e
    obtain ⟨rfl, rfl⟩ := e
    exact ⟨h1, h2, h3, h4⟩
  have KX := Lib.hid (kids_len px.wf (i := (pa : Int)) (by omega) (by omega))
  have KY := Lib.hid (kids_len py.wf (i := (qa : Int)) (by omega) (by omega))
  have KX1 : (nd x (pa : Int)).kids.length ≤ 1000 := by have := KX.out; omega
  have KY1 : (nd y (qa : Int)).kids.length ≤ 1000 := by have := KY.out; omega
  obtain ⟨ar, cr, RX, rx⟩ := OX.out.rowN hpa
  obtain ⟨br, dr, RY, ry⟩ := OY.out.rowN hqa
  have RX := Lib.hid RX
  have RY := Lib.hid RY
  have RXW := Lib.hid rx
  have RYW := Lib.hid ry
  obtain ⟨hbt, ⟨c0, -, c2, c3⟩, ⟨c5, -, c7, c8⟩, c10⟩ := hc w hi
  have cx := rx w hi
  have cy := ry w hi
  have zk := (OX.out.at_ w hi).1.2.2.2
  have zl := (OY.out.at_ w hi).1.2.2.2
  have v1 : (0 : Int) ≤ (pa : Int) := by omega
  have v2 : (pa : Int) < (x.length : Int) := by omega
  have v3 : (0 : Int) ≤ (qa : Int) := by omega
  have v4 : (qa : Int) < (y.length : Int) := by omega
  clear hi px py OX0 OY0 hc hcl hs hd t hes hesc rx ry
  go_enter Try.func38, Try.ntmps38
  go_wp2_with fail
  go_quiet (fail)
  clear c0 c2 c3 c5 c7 c8 c10 cx cy zk zl hbt
  have I0 : Hid (Imm hr (w.drewN nq)) := HI.out.drewN _
  have S00 : Hid (St w.heap.size noHp w noHp (w.drewN nq)) := (St.refl (noHp_imm w)).drewN _
  go_wp2_with fail
  go_loopw [10, 13, 34, 35, 36, 37, 38, 39, 40, 41, 42, 43, 44, 45, 46, 47, 48, 49, 50, 51, 52, 53] (fun v i _ _ _ _ _ _ _ _ _ _ _ _ _ _ _ _ _ _ _ _ wr => ∃ (j : Nat), j ≤ (nd y (qa : Int)).kids.length ∧ i = .int .i64 j ∧ St w.heap.size noHp w noHp wr ∧ InOw wr noHp w.heap.size v (((nd y (qa : Int)).kids.take j).map fun c => (nd y c).size)) (fun _ i _ _ _ _ _ _ _ _ _ _ _ _ _ _ _ _ _ _ _ _ _ => (nd y (qa : Int)).kids.length - (intOf i).toNat)
  case atStart => exact ⟨0, Nat.zero_le _, rfl, S00.out, by simpa [InOw] using Ow.nil _ _ _ _ _⟩
  case round =>
    obtain ⟨j, hj, rfl, S, O⟩ := hrel
    obtain ⟨am, cm, rfl⟩ := Ow.shape O
    have S' := Lib.hid S
    have O' := Lib.hid O
    have IR : Hid (Imm hr wr) := HI.out.below S.below
    clear S00
    by_cases hlt : j < (nd y (qa : Int)).kids.length
    · obtain ⟨b2, o2, cc2, q2, -, hy1⟩ := RY.out.openI' (by omega)
      simp only [Value.slice.injEq, true_and] at q2
      obtain ⟨rfl, rfl⟩ := q2
      obtain ⟨zq, hy1⟩ := hy1 wr IR.out
      have ky := hy1 j hlt
      have HT := Lib.hid (map_take_snoc (fun c => (nd y c).size) (nd y (qa : Int)).kids j hlt)
      have KM := Lib.hid (List.getElem_mem hlt)
      generalize (nd y (qa : Int)).kids[j] = c at *
      obtain ⟨p1, p2, -⟩ := kid_inr PY.out.wf (i := (qa : Int)) (by omega) (by omega) KM.out
      obtain ⟨C, rfl⟩ : ∃ C : Nat, c = (C : Int) := ⟨c.toNat, by omega⟩
      have hC : C < y.length := by omega
      obtain ⟨⟨-, -, zs, -⟩, hya⟩ := OY.out.at_ wr IR.out
      obtain ⟨-, -, -, ks, -⟩ := hya C hC
      rw [← (nd_of (List.getElem?_eq_getElem hC) : nd y (C : Int) = y[C])] at ks
      obtain ⟨zt, -, ⟨-, -, t7, -⟩, -⟩ := RD.out wr IR.out
      have hll : ((((nd y (qa : Int)).kids.take j).map fun c => (nd y c).size).length + 1) * 8 ≤ 140737488355328 := by simp; omega
      generalize ((nd y (qa : Int)).kids.take j).map (fun c => (nd y c).size) = L at *
      generalize (nd y (C : Int)).size = z at *
      have u0 : (0 : Int) ≤ (j : Int) := by omega
      have u1 : (j : Int) < ((nd y (qa : Int)).kids.length : Int) := by omega
      have u2 : (0 : Int) ≤ (C : Int) := by omega
      have u3 : (C : Int) < (y.length : Int) := by omega
      clear S O hy1 hya KM
      go_wp2_with fail
      go_region_law (first | (refine step_app el_ints (by rfl) _ _ (by rfl) ((S'.out.alloc _).drewN _) _ L.length (L.map (Value.int .i64)) (by rfl) ((Ow.alloc O'.out _).drewN _) ⟨wr.heap.size, 0, none⟩ 1 1 [.int .i64 z] (by rfl) (by rfl) (new_cells _ _ _ _ (by simp)) (one_cells _ rfl) (by omega) hll ?_; intro gg cg w6 st2 own2 gr2 bk2; have ST := Lib.hid st2; have OW := Lib.hid own2; clear st2 own2 gr2 bk2))
      all_goals
        go_wp2_with fail
        go_roundw
        case rel => exact ⟨j + 1, by omega, by go_num, ST.out, by rw [HT.out]; exact InOw.snoc OW.out⟩
        case measure => simp [intOf]; omega
    · obtain rfl : j = (nd y (qa : Int)).kids.length := by omega
      have O2 : InOw wr noHp w.heap.size (.slice am (nd y (qa : Int)).kids.length cm) (dropP y (qa : Int)) := by
        have := O
        simp only [List.take_length, List.length_map] at this
        exact this
      have P1 : Phase noHp w (noHp.fr w.heap.size wr) wr (.slice am (nd y (qa : Int)).kids.length cm) (dropP y (qa : Int)) :=
        Phase.mk' S O2 (by simp only [dropP, List.length_map]; omega) (by
          intro q hq
          obtain ⟨c, hc, rfl⟩ := List.mem_map.1 hq
          obtain ⟨q1, q2, -, -⟩ := kid_inr PY.out.wf (i := (qa : Int)) (by omega) (by omega) hc
          have := size_le PY.out.wf y.length c q1 q2 (by omega)
          have := size_ge PY.out.wf q1 q2
          unfold I64; omega)
      obtain ⟨w1, rfl⟩ : ∃ w1 : World, w1 = wr := ⟨_, rfl⟩
      generalize noHp.fr w.heap.size w1 = h1 at *
      have P1' := Lib.hid P1
      have I1 : Hid (Imm hr w1) := IR.out
      clear P1 S O O2 S' O' IR
      simp only [List.take_length, List.length_map]
      have hF : Hid (∀ i j, I64 (cF x y ((pa : Int), (qa : Int)) (dget es) i j)) := fun i j => by
        unfold cF
        split
        · exact HDG.out _
        · unfold I64; omega
      have HFF : Hid (∀ i j (h1 : i < (nd x (pa : Int)).kids.length) (h2 : j < (nd y (qa : Int)).kids.length), cF x y ((pa : Int), (qa : Int)) (dget es) i j = if (nd x (nd x (pa : Int)).kids[i]).kind = (nd y (nd y (qa : Int)).kids[j]).kind then dget es ((nd x (pa : Int)).kids[i], (nd y (qa : Int)).kids[j]) else -1) := fun i j h1 h2 => by
        unfold cF
        simp only [getD_of_lt (nd x (pa : Int)).kids i 0 h1, getD_of_lt (nd y (qa : Int)).kids j 0 h2]
      have HFA := Lib.hid (cF_all x y ((pa : Int), (qa : Int)) (dget es))
      generalize cF x y ((pa : Int), (qa : Int)) (dget es) = F at *
      go_wp2_with (at_make; refine wpList_mk el_rows rfl _ _ rfl (St.refl P1'.out.st.imm) .i64 .i64 _ _ (nd x (pa : Int)).kids.length rfl rfl rfl rfl (by omega) ?_; intro w2 st2 own2 gr2; rw [madeCells1] at own2)
      have L0 : Hid (LiI h1 w1 (nd x (pa : Int)).kids.length (nd y (qa : Int)).kids.length F w1.heap.size 0 h1 w2 [] (.slice none 0 0) []) := ⟨st2, by simpa using own2, rfl, rfl, by simpa [InOw] using Ow.nil _ _ _ _ _, by simp [Value.ownBlock]⟩
      clear st2 own2 gr2
      go_loopw [9, 15, 16, 17, 57, 58, 59, 60, 61, 62, 63, 64, 65, 66, 67, 68, 69, 70, 71, 72, 73, 74, 75, 76, 77, 78, 79, 80, 81, 82, 83, 84, 85, 86, 87, 88, 89, 90, 91, 92, 93, 94, 95, 96, 97, 98, 99, 100, 101, 102, 103, 104, 105, 106, 107, 108, 109, 110, 111, 112, 113, 114, 115, 116, 117, 118, 119, 120, 121, 122, 123, 124, 125, 126, 127, 128, 129, 130, 131, 132, 133, 134, 135, 136, 137, 138, 139, 140, 141, 142, 143, 144, 145, 146, 147, 148, 149, 150] (fun v i _ _ _ _ _ _ _ _ _ _ _ _ _ _ _ _ _ _ _ _ _ _ _ _ _ _ _ _ _ _ _ _ _ _ _ _ _ _ _ _ _ _ _ _ _ _ _ _ _ _ _ _ _ _ _ _ _ _ _ _ _ _ _ _ _ _ _ _ _ _ _ _ _ _ _ _ _ _ _ _ _ _ _ _ _ _ _ _ _ _ _ _ _ _ _ _ wr => ∃ (k : Nat) (hi : Hp) (hs : List Value), k ≤ (nd x (pa : Int)).kids.length ∧ i = .int .i64 k ∧ LiI h1 w1 (nd x (pa : Int)).kids.length (nd y (qa : Int)).kids.length F w1.heap.size k hi wr hs v (((nd x (pa : Int)).kids.take k).map fun c => (nd x c).size)) (fun _ i _ _ _ _ _ _ _ _ _ _ _ _ _ _ _ _ _ _ _ _ _ _ _ _ _ _ _ _ _ _ _ _ _ _ _ _ _ _ _ _ _ _ _ _ _ _ _ _ _ _ _ _ _ _ _ _ _ _ _ _ _ _ _ _ _ _ _ _ _ _ _ _ _ _ _ _ _ _ _ _ _ _ _ _ _ _ _ _ _ _ _ _ _ _ _ _ _ => (nd x (pa : Int)).kids.length - (intOf i).toNat)
      case atStart => exact ⟨0, h1, [], Nat.zero_le _, rfl, by simpa using L0.out⟩
      case round =>
        obtain ⟨k, hi, hs, hkl, rfl, L⟩ := hrel
        obtain ⟨wo, rfl⟩ : ∃ wo : World, wo = wr := ⟨_, rfl⟩
        obtain ⟨ad, cd, rfl⟩ := Ow.shape L.od
        clear L0
        have IR : Hid (Imm hr wo) := I1.out.below L.st.below
        by_cases hlt : k < (nd x (pa : Int)).kids.length
        · obtain ⟨b2, o2, cc2, q2, -, hx1⟩ := RX.out.openI' (by omega)
          simp only [Value.slice.injEq, true_and] at q2
          obtain ⟨rfl, rfl⟩ := q2
          have HX1 := Lib.hid hx1
          obtain ⟨zq, hx1⟩ := hx1 wo IR.out
          have kx := hx1 k hlt
          have HT := Lib.hid (map_take_snoc (fun c => (nd x c).size) (nd x (pa : Int)).kids k hlt)
          have KM := Lib.hid (List.getElem_mem hlt)
          have HF1 : Hid (∀ j (h2 : j < (nd y (qa : Int)).kids.length), F k j = if (nd x (nd x (pa : Int)).kids[k]).kind = (nd y (nd y (qa : Int)).kids[j]).kind then dget es ((nd x (pa : Int)).kids[k], (nd y (qa : Int)).kids[j]) else -1) := fun j h2 => HFF.out k j hlt h2
          have HX2 : Hid (∀ W, Imm hr W → b2 < W.heap.size ∧ W.cell? ⟨b2, o2 + k, none⟩ = some (.int .i64 (nd x (pa : Int)).kids[k])) := fun W hW => ⟨(HX1.out W hW).1, (HX1.out W hW).2 k hlt⟩
          generalize (nd x (pa : Int)).kids[k] = c at *
          obtain ⟨p1, p2, -⟩ := kid_inr PX.out.wf (i := (pa : Int)) (by omega) (by omega) KM.out
          obtain ⟨C, rfl⟩ : ∃ C : Nat, c = (C : Int) := ⟨c.toNat, by omega⟩
          have hC : C < x.length := by omega
          obtain ⟨⟨-, -, zs, -⟩, hxa⟩ := OX.out.at_ wo IR.out
          obtain ⟨-, -, -, ks, -⟩ := hxa C hC
          rw [← (nd_of (List.getElem?_eq_getElem hC) : nd x (C : Int) = x[C])] at ks
          obtain ⟨zt, ⟨-, -, t2, -⟩, -, -⟩ := RD.out wo IR.out
          have hll : ((((nd x (pa : Int)).kids.take k).map fun c => (nd x c).size).length + 1) * 8 ≤ 140737488355328 := by simp; omega
          have hl2 : (((nd x (pa : Int)).kids.take k).map fun c => (nd x c).size).length ≤ 1000 := by simp; omega
          generalize ((nd x (pa : Int)).kids.take k).map (fun c => (nd x c).size) = LD at *
          have OD : Hid (Ow wo hi w1.heap.size 3 1 (.slice ad LD.length cd) LD.length (LD.map (Value.int .i64))) := L.od
          have SD : Hid (St w1.heap.size h1 w1 hi wo) := L.st
          have L' := Lib.hid L
          generalize (nd x (C : Int)).size = z at *
          have u0 : (0 : Int) ≤ (k : Int) := by omega
          have u1 : (k : Int) < ((nd x (pa : Int)).kids.length : Int) := by omega
          have u2 : (0 : Int) ≤ (C : Int) := by omega
          have u3 : (C : Int) < (x.length : Int) := by omega
          clear hx1 hxa L
          go_upto_region 11 with fail
          go_cut [9] (fun s9 wx => ∃ _u : Unit, LiI h1 w1 (nd x (pa : Int)).kids.length (nd y (qa : Int)).kids.length F w1.heap.size k hi wx hs s9 (LD ++ [z]))
          case first =>
            go_region_law (first | (refine step_app el_ints (by rfl) _ _ (by rfl) ((SD.out.alloc _).drewN _) _ LD.length (LD.map (Value.int .i64)) (by rfl) ((Ow.alloc OD.out _).drewN _) ⟨wo.heap.size, 0, none⟩ 1 1 [.int .i64 z] (by rfl) (by rfl) (new_cells _ _ _ _ (by simp)) (one_cells _ rfl) (by omega) hll ?_; intro gg cg w6 st2 own2 gr2 bk2; have LN := Lib.hid (((L'.out.alloc _).drewN _).drop st2 own2 gr2 bk2); clear st2 own2 gr2 bk2))
            all_goals
              go_wp2_with fail
              go_meet
              exact ⟨(), LN.out⟩
          case rest =>
            obtain ⟨-, LA⟩ := hcut
            obtain ⟨ad', cd', rfl⟩ := Ow.shape LA.od
            have hlen : (LD ++ [z]).length = LD.length + 1 := by simp
            rw [hlen] at LA
            rw [hlen]
            clear hlen
            have LA' := Lib.hid LA
            have hGl := (LA.own.lt w1.heap.size rfl).2
            clear LA L' OD SD t2 ks zs zt kx zq
            go_wp2_with (at_make; refine wpList_mk el_ints rfl _ _ rfl LA'.out.st .i64 .i64 _ _ (nd y (qa : Int)).kids.length rfl rfl rfl rfl (by omega) ?_; intro w3 st3 own3 gr3; rw [madeCells1] at own3; obtain ⟨e1, e2⟩ := LA'.out.cells hlt gr3; have R0 := Lib.hid (LA'.out.start hlt gr3 st3 own3); have hgl2 := (own3.lt _ rfl).2; have hgl3 : w1.heap.size < w3.heap.size := (by have := gr3.size; omega); clear st3 own3 gr3)
            go_loopw [16, 17, 83, 84, 85, 86, 87, 88, 89, 90, 91, 92, 93, 94, 95, 96, 97, 98, 99, 100, 101, 102, 103, 104, 105, 106, 107, 108, 109, 110, 111, 112, 113, 114, 115, 116, 117, 118, 119, 120, 121, 122, 123, 124, 125, 126, 127, 128, 129, 130, 131, 132, 133, 134, 135, 136, 137, 138, 139, 140, 141, 142, 143, 144, 145, 146, 147, 148, 149, 150] (fun s _ _ _ _ _ _ _ _ _ _ _ _ _ _ _ _ _ _ _ _ _ _ _ _ _ _ _ _ _ _ _ _ _ _ _ _ _ _ _ _ _ _ _ _ _ _ _ _ _ _ _ _ _ _ _ _ _ _ _ _ _ _ _ _ _ _ _ _ _ wr => ∃ (j : Nat), j ≤ (nd y (qa : Int)).kids.length ∧ s = .int .i64 j ∧ LrI h1 w1 (nd x (pa : Int)).kids.length (nd y (qa : Int)).kids.length F w1.heap.size k hi hs (.slice ad' (LD.length + 1) cd') (LD ++ [z]) wc.heap.size (rowTo (F k) (nd y (qa : Int)).kids.length j) wr) (fun i _ _ _ _ _ _ _ _ _ _ _ _ _ _ _ _ _ _ _ _ _ _ _ _ _ _ _ _ _ _ _ _ _ _ _ _ _ _ _ _ _ _ _ _ _ _ _ _ _ _ _ _ _ _ _ _ _ _ _ _ _ _ _ _ _ _ _ _ _ _ => (nd y (qa : Int)).kids.length - (intOf i).toNat)
            case atStart => exact ⟨0, Nat.zero_le _, rfl, R0.out⟩
            case round =>
              obtain ⟨j, hjl, rfl, R⟩ := hrel
              clear R0
              have R' := Lib.hid R
              by_cases hltj : j < (nd y (qa : Int)).kids.length
              · obtain ⟨g0, g1, g2, g3, g4⟩ := R.cells hlt hltj (rowTo_len _ _ _ hjl)
                clear R
                have u4 : (0 : Int) ≤ (j : Int) := by omega
                have u5 : (j : Int) < ((nd y (qa : Int)).kids.length : Int) := by omega
                go_upto_region 17 with fail
                have R2 := Lib.hid (R'.out.put hltj (-1))
                obtain ⟨f0, f1, f2, f3, f4⟩ := R2.out.cells hlt hltj (by rw [List.length_set]; exact rowTo_len _ _ _ hjl)
                have IR2 : Hid (Imm hr (wr.setCell ⟨wc.heap.size, j, none⟩ (.int .i64 (-1)))) := I1.out.below R2.out.st.below
                clear g0 g1 g2 g3 g4 R'
                generalize wr.setCell ⟨wc.heap.size, j, none⟩ (.int .i64 (-1)) = W2 at *
                obtain ⟨b3, o3, cc3, q3, -, hy1⟩ := RY.out.openI' (by omega)
                simp only [Value.slice.injEq, true_and] at q3
                obtain ⟨rfl, rfl⟩ := q3
                obtain ⟨zr, hy1⟩ := hy1 W2 IR2.out
                have ky := hy1 j hltj
                obtain ⟨zq, kx⟩ := HX2.out W2 IR2.out
                have KMY := Lib.hid (List.getElem_mem hltj)
                have HF2 := Lib.hid (HF1.out j hltj)
                generalize (nd y (qa : Int)).kids[j] = dd at *
                obtain ⟨d1, d2, -⟩ := kid_inr PY.out.wf (i := (qa : Int)) (by omega) (by omega) KMY.out
                obtain ⟨D, rfl⟩ : ∃ D : Nat, dd = (D : Int) := ⟨dd.toNat, by omega⟩
                have hD : D < y.length := by omega
                have HC1 := Lib.hid (HCL.out _ KM.out _ KMY.out)
                obtain ⟨zt, ⟨t0, -, -, -⟩, ⟨t5, -, -, -⟩, t10⟩ := RD.out W2 IR2.out
                obtain ⟨zn, -, kn⟩ := OX.out.kindN hC IR2.out
                obtain ⟨zm, -, km⟩ := OY.out.kindN hD IR2.out
                have FA : Hid (∀ W, Imm hr W → Calls Try.prog 59 #[.slice (some ⟨bl, ol, none⟩) es.length cl, .int .i64 (C : Int), .int .i64 (D : Int)] W fun e w' => e = .returned (.int .i64 (idxP (keys es) ((C : Int), (D : Int)))) ∧ W = w') := fun W hW => by
                  have := find_any W (keys es) bl ol cl ((C : Int), (D : Int)) (by rw [keys_len]; omega) HS.out (fun k hk => by
                    rw [keys_len] at hk
                    rw [keys_at es k hk]
                    exact ⟨(ES.out W hW k hk).2.1, (ES.out W hW k hk).2.2.1⟩)
                  rw [keys_len] at this
                  exact this
                have u6 : (0 : Int) ≤ (C : Int) := by omega
                have u7 : (0 : Int) ≤ (D : Int) := by omega
                have u8 : (D : Int) < (y.length : Int) := by omega
                clear hy1
                by_cases hm : ((C : Int), (D : Int)) ∈ keys es
                · obtain ⟨K, hK, eK⟩ := List.mem_iff_getElem.1 hm
                  have hKe : K < es.length := by rw [keys_len] at hK; exact hK
                  have HIX : Hid (idxP (keys es) ((C : Int), (D : Int)) = (K : Int)) := by unfold Hid; rw [← eK]; exact idxP_at HN.out K hK
                  have HDE : Hid (dget es ((C : Int), (D : Int)) = es[K].cost) := by
                    unfold Hid
                    rw [← eK, keys_at es K hKe]
                    exact dget_at HN.out K hKe
                  obtain ⟨zl, -, -, kc⟩ := ES.out W2 IR2.out K hKe
                  have u9 : (0 : Int) ≤ (K : Int) := by omega
                  have u10 : (K : Int) < (es.length : Int) := by omega
                  rw [HIX.out] at FA
                  rw [HDE.out] at HF2
                  clear hm eK
                  by_cases hkk : (nd x (C : Int)).kind = (nd y (D : Int)).kind
                  · have g5 := ibeqT hkk
                    rw [if_pos hkk] at HF2
                    clear hkk
                    go_quiet (first | (go_at_call 59; exact quiet_left' (FA.out _ (by first | exact IR2.out | exact IR2.out.drewN _ | exact (IR2.out.drewN _).drewN _))))
                    go_wp2_with fail
                    go_quiet (fail)
                    go_wp2_with fail
                    refine wp_region_still_tail 14 (by kernel_rfl) (by kernel_rfl) ?_
                    simp only [List.take_succ_cons, List.take_zero, List.drop_succ_cons, List.drop_zero]
                    change wpStill _ _ (World.drew _) (fun a' => wpList _ _ _ _ a' (World.drew _)) _ _
                    repeat still_step
                    refine wpStill_nil ?_
                    go_wp2_with fail
                    go_roundw
                    case rel =>
                      refine ⟨j + 1, by omega, by go_num, ?_⟩
                      have e : rowTo (F k) (nd y (qa : Int)).kids.length (j + 1) = ((rowTo (F k) (nd y (qa : Int)).kids.length j).set j (-1)).set j es[K].cost := by rw [List.set_set, ← HF2.out, rowTo_set _ _ _ hltj]
                      rw [e]
                      exact (R2.out.drewN _).put hltj _
                    case measure => simp [intOf]; omega
                  · have g5 := ibeqF hkk
                    rw [if_neg hkk] at HF2
                    clear hkk
                    go_quiet (first | (go_at_call 59; exact quiet_left' (FA.out _ (by first | exact IR2.out | exact IR2.out.drewN _ | exact (IR2.out.drewN _).drewN _))))
                    go_wp2_with fail
                    go_quiet (fail)
                    go_wp2_with fail
                    go_roundw
                    case rel =>
                      refine ⟨j + 1, by omega, by go_num, ?_⟩
                      rw [← rowTo_set _ _ _ hltj, HF2.out]
                      exact R2.out.drewN _
                    case measure => simp [intOf]; omega
                · have HIX : Hid (idxP (keys es) ((C : Int), (D : Int)) = -1) := idxP_none hm
                  rw [HIX.out] at FA
                  rw [if_neg (fun e => hm (HC1.out e))] at HF2
                  have g6 : decide ((0 : Int) ≤ -1) = false := by decide
                  clear hm
                  go_quiet (first | (go_at_call 59; exact quiet_left' (FA.out _ (by first | exact IR2.out | exact IR2.out.drewN _ | exact (IR2.out.drewN _).drewN _))))
                  go_wp2_with fail
                  go_quiet (fail)
                  go_wp2_with fail
                  go_roundw
                  case rel =>
                    refine ⟨j + 1, by omega, by go_num, ?_⟩
                    rw [← rowTo_set _ _ _ hltj, HF2.out]
                    exact R2.out.drewN _
                  case measure => simp [intOf]; omega
              · obtain rfl : j = (nd y (qa : Int)).kids.length := by omega
                obtain ⟨hi', L2⟩ := R.done (by omega) (fun j _ => hF.out k j) hlt
                have L2' := Lib.hid L2
                clear R R' L2
                go_wp2_with fail
                go_roundw
                case rel => exact ⟨k + 1, hi', _, by omega, by go_num, by rw [HT.out]; exact L2'.out⟩
                case measure => simp [intOf]; omega
        · obtain rfl : k = (nd x (pa : Int)).kids.length := by omega
          have L' := Lib.hid L
          have hLD : Hid (((nd x (pa : Int)).kids.take (nd x (pa : Int)).kids.length).map (fun c => (nd x c).size) = dropP x (pa : Int)) := by unfold Hid dropP; rw [List.take_length]
          clear L
          go_wp2_with fail
          go_ret3
          have SS := P1'.out.st.call L'.out.st
          have hz : w.heap.size ≤ w1.heap.size := P1'.out.st.below.size
          have od := L'.out.od
          rw [hLD.out] at od
          have oo := L'.out.own
          simp only [Nat.sub_self, List.replicate_zero, List.append_nil] at oo
          refine ⟨_, _, _, rfl, _, SS.fr, ⟨?_, ?_⟩, ?_, hs, ?_, ?_⟩
          · have := (Ow.base od (B' := w.heap.size) hz).sl (by simp only [dropP, List.length_map]; omega)
            simpa [dropP] using this
          · intro q hq
            obtain ⟨c, hc, rfl⟩ := List.mem_map.1 hq
            obtain ⟨q1, q2, -, -⟩ := kid_inr PX.out.wf (i := (pa : Int)) (by omega) (by omega) hc
            have := size_le PX.out.wf x.length c q1 q2 (by omega)
            have := size_ge PX.out.wf q1 q2
            unfold I64; omega
          · exact (P1'.out.ints.mono L'.out.st.le).mono (Hp.le_fr (B := w.heap.size) L'.out.st.imm)
          · have := (oo.base (B' := w.heap.size) hz).sl (by omega)
            simpa [costP] using this
          · have := L'.out.enc.mono fun _ _ q => q.mono (Hp.le_fr (B := w.heap.size) L'.out.st.imm)
            rw [HFA.out] at this
            exact this
end Go.Proofs.Ytfifbadepebpeaa
