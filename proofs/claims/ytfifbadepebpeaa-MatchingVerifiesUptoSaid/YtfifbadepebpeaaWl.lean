/- matching.least. -/
import Derived.Test.YtfifbadepebpeaaWh
import Derived.Test.YtfifbadepebpeaaBp
import Derived.Test.YtfifbadepebpeaaBb
import Derived.Test.YtfifbadepebpeaaBa
namespace Go.Proofs.Ytfifbadepebpeaa
open Go.RowKit

def zeroC : List Value := [.int .i64 0, .int .i64 0, .int .i64 0, .slice none 0 0, .int .i64 0, .slice none 0 0]

structure LeI (h : Hp) (w0 : World) (x y : List NodeP) (l : List (Int × Int)) (g : Nat) (i : Nat) (hi : Hp) (wr : World) (zs es : List Value) : Prop where
  st : St w0.heap.size h w0 hi wr
  dmap : ∃ ld, MapL wr w0.heap.size ld ∧ ∀ q, (findL ld q).getD (.int .i64 0) = .int .i64 (dget (buildP x y (l.drop i)) q)
  imap : ∃ li, MapL wr (w0.heap.size + 1) li ∧ ∀ k (hk : k < l.length), i ≤ k → findL li l[k] = some (.int .i64 k)
  hd : hi w0.heap.size = none ∧ hi (w0.heap.size + 1) = none
  own : Ow wr hi w0.heap.size 45 6 (.slice (some ⟨g, 0, none⟩) l.length l.length) l.length (zs ++ es)
  zl : zs.length = i * 6
  enc : EncL (EncComp hi) (buildP x y (l.drop i)) es
  gg : w0.heap.size + 2 ≤ g

theorem set6 {zs es : List Value} {i : Nat} (hz : zs.length = (i + 1) * 6) (a b c d e f : Value) :
    ((((((zs ++ es).set (i * 6) a).set (i * 6 + 1) b).set (i * 6 + 2) c).set (i * 6 + 3) d).set (i * 6 + 4) e).set (i * 6 + 5) f = zs.take (i * 6) ++ ([a, b, c, d, e, f] ++ es) := by
  have h1 : (zs.take (i * 6)).length = i * 6 := by rw [List.length_take]; omega
  have h2 : (zs.drop (i * 6)).length = 6 := by rw [List.length_drop]; omega
  have h3 : zs = zs.take (i * 6) ++ zs.drop (i * 6) := (List.take_append_drop _ _).symm
  generalize zs.take (i * 6) = zt at *
  generalize zs.drop (i * 6) = zd at *
  subst h3
  match zd, h2 with
  | [z0, z1, z2, z3, z4, z5], _ =>
    rw [← h1, List.append_assoc]
    simp [List.set_append_right]

theorem drew_heap (W : World) : W.drew.heap = W.heap := rfl
theorem LeI.next {h : Hp} {w0 : World} {x y : List NodeP} {l : List (Int × Int)} {g j : Nat} {hi : Hp} {wr : World} {zs es : List Value} (L : LeI h w0 x y l g (j + 1) hi wr zs es) (hlt : j < l.length) (hnd : l.Nodup) {p : Int × Int} (HJ : l[j] = p)
    {h2 : Hp} {W4 : World} {A : AlignP} {ap ar : Option Addr} {cp cr : Nat} (hp : I64 p.1 ∧ I64 p.2) (hc : I64 (differP (nd x p.1).text (nd y p.2).text + A.cost))
    (HA : alignP (dropP x p.1) (dropP y p.2) (costP x y p (dget (buildP x y (l.drop (j + 1))))) = A) (ci : I64 A.cost) (EP : Prs h2 (.slice ap A.pairs.length cp) A.pairs) (ER : Rws h2 (.slice ar A.pot.length cr) A.pot)
    (S6 : St w0.heap.size h w0 h2 W4) (O6 : Ow W4 h2 w0.heap.size 45 6 (.slice (some ⟨g, 0, none⟩) l.length l.length) l.length (zs ++ es)) (o3 : h2 g = none) (HD2 : h2 w0.heap.size = none ∧ h2 (w0.heap.size + 1) = none)
    {ld li : List ((Int × Int) × Value)} (hm6 : MapL W4 w0.heap.size (setL ld p (.int .i64 (differP (nd x p.1).text (nd y p.2).text + A.cost)))) (hm4 : MapL W4 (w0.heap.size + 1) (setL li p (.int .i64 j)))
    (FD : ∀ q, (findL ld q).getD (.int .i64 0) = .int .i64 (dget (buildP x y (l.drop (j + 1))) q)) (FI : ∀ k (hk : k < l.length), j + 1 ≤ k → findL li l[k] = some (.int .i64 k)) (E2 : EncL (EncComp h2) (buildP x y (l.drop (j + 1))) es) :
    LeI h w0 x y l g j h2 ((((((W4.setCell ⟨g, j * 6, none⟩ (.int .i64 p.1)).setCell ⟨g, j * 6 + 1, none⟩ (.int .i64 p.2)).setCell ⟨g, j * 6 + 2, none⟩ (.int .i64 (differP (nd x p.1).text (nd y p.2).text + A.cost))).setCell ⟨g, j * 6 + 3, none⟩ (.slice ap A.pairs.length cp)).setCell ⟨g, j * 6 + 4, none⟩ (.int .i64 A.cost)).setCell ⟨g, j * 6 + 5, none⟩ (.slice ar A.pot.length cr)).drew
      (zs.take (j * 6)) ([.int .i64 p.1, .int .i64 p.2, .int .i64 (differP (nd x p.1).text (nd y p.2).text + A.cost), .slice ap A.pairs.length cp, .int .i64 A.cost, .slice ar A.pot.length cr] ++ es) := by
  have hgg := L.gg
  have hjl : j * 6 + 6 ≤ l.length * 6 := by omega
  have own := (((((O6.set (j * 6) (.int .i64 p.1) (by omega)).set (j * 6 + 1) (.int .i64 p.2) (by omega)).set (j * 6 + 2) (.int .i64 (differP (nd x p.1).text (nd y p.2).text + A.cost)) (by omega)).set (j * 6 + 3) (.slice ap A.pairs.length cp) (by omega)).set (j * 6 + 4) (.int .i64 A.cost) (by omega)).set (j * 6 + 5) (.slice ar A.pot.length cr) (by omega)
  rw [set6 L.zl] at own
  have st := (((((S6.setCell (p := ⟨g, j * 6, none⟩) (by show w0.heap.size ≤ g; omega) o3 (.int .i64 p.1)).setCell (p := ⟨g, j * 6 + 1, none⟩) (by show w0.heap.size ≤ g; omega) o3 (.int .i64 p.2)).setCell (p := ⟨g, j * 6 + 2, none⟩) (by show w0.heap.size ≤ g; omega) o3 (.int .i64 (differP (nd x p.1).text (nd y p.2).text + A.cost))).setCell (p := ⟨g, j * 6 + 3, none⟩) (by show w0.heap.size ≤ g; omega) o3 (.slice ap A.pairs.length cp)).setCell (p := ⟨g, j * 6 + 4, none⟩) (by show w0.heap.size ≤ g; omega) o3 (.int .i64 A.cost)).setCell (p := ⟨g, j * 6 + 5, none⟩) (by show w0.heap.size ≤ g; omega) o3 (.slice ar A.pot.length cr)
  have hkeep : ∀ (W : World) b i u, b ≠ g → (W.setCell ⟨g, i, none⟩ u).heap[b]? = W.heap[b]? := fun W b i u hne => Below.heap_setCell _ _ _ _ hne
  have hk6 : ∀ b, b ≠ g → ((((((W4.setCell ⟨g, j * 6, none⟩ (.int .i64 p.1)).setCell ⟨g, j * 6 + 1, none⟩ (.int .i64 p.2)).setCell ⟨g, j * 6 + 2, none⟩ (.int .i64 (differP (nd x p.1).text (nd y p.2).text + A.cost))).setCell ⟨g, j * 6 + 3, none⟩ (.slice ap A.pairs.length cp)).setCell ⟨g, j * 6 + 4, none⟩ (.int .i64 A.cost)).setCell ⟨g, j * 6 + 5, none⟩ (.slice ar A.pot.length cr)).drew.heap[b]? = W4.heap[b]? := fun b hne => by
    rw [drew_heap, hkeep _ _ _ _ hne, hkeep _ _ _ _ hne, hkeep _ _ _ _ hne, hkeep _ _ _ _ hne, hkeep _ _ _ _ hne, hkeep _ _ _ _ hne]
  have hent : entryP x y p (dget (buildP x y (l.drop (j + 1)))) = ⟨p.1, p.2, differP (nd x p.1).text (nd y p.2).text + A.cost, A⟩ := by
    rw [← HA]; rfl
  have BD' := build_drop x y l j hlt
  rw [HJ, hent] at BD'
  refine ⟨st.drew, ⟨_, hm6.keep (hk6 _ (by omega)), fun q => ?_⟩, ⟨_, hm4.keep (hk6 _ (by omega)), fun k hk hle => ?_⟩, HD2, own.drew, by rw [List.length_take, L.zl]; omega, ?_, L.gg⟩
  · rw [findL_set, BD', dget_cons]
    by_cases hq : q = p
    · subst hq; simp
    · rw [if_neg hq, if_neg (fun e => hq e)]; exact FD q
  · rw [findL_set]
    by_cases hkj : k = j
    · subst hkj; rw [if_pos HJ]
    · rw [if_neg (fun e => hkj ((List.getElem_inj hnd).1 (e.trans HJ.symm)))]
      exact FI k hk (by omega)
  · rw [BD']
    refine ⟨_, _, rfl, ⟨_, rfl, ?_, ?_, ?_, ap, cp, ar, cr, rfl, ci, EP, ER⟩, E2⟩
    · exact hp.1
    · exact hp.2
    · exact hc

theorem RowIn.alloc {h : Hp} {w wb : World} {g : Nat} {v : Value} {m : List (Int × Int)} {w2 : World} (r : RowIn h w wb g v m w2) (o : Obj) : RowIn h w wb g v m (w2.alloc o) :=
  ⟨r.st.alloc o, r.own.alloc o, grown_alloc r.grown o, r.blk⟩

set_option maxRecDepth 100000 in
set_option maxHeartbeats 4000000 in
theorem least_any (h : Hp) (w : World) (hi : Imm h w) (vx vy vl : Value) (x y : List NodeP) (l : List (Int × Int)) (hx : Nds h vx x) (hy : Nds h vy y) (wx : WF x) (wy : WF y) (nx : narrowB x = true) (ny : narrowB y = true)
    (hl : Prs h vl l) (hnd : l.Nodup) (hin : ∀ p ∈ l, InR x y p) (hroot : (0, 0) ∈ l) (hcl : ∀ p ∈ l, ∀ q ∈ kp x y p, q ∈ l) (hlb : l.length ≤ 1000000000000) :
    Calls Try.prog 32 #[vx, vy, vl] w fun e w' => ∃ v, e = .returned v ∧ ∃ h', St w.heap.size h w h' w' ∧ MatchV h' v (leastM x y l) := by
  have sx : x.length ≤ 262144 := by unfold narrowB at nx; simp only [Bool.and_eq_true, decide_eq_true_eq] at nx; exact nx.1
  have sy : y.length ≤ 262144 := by unfold narrowB at ny; simp only [Bool.and_eq_true, decide_eq_true_eq] at ny; exact ny.1
  have h0 : 0 < l.length := List.length_pos_of_mem hroot
  have NX := Lib.hid hx
  have NY := Lib.hid hy
  obtain ⟨bx, ox, cx, rfl, hxn, hxc⟩ := hx.openI wx.pos
  obtain ⟨by', oy, cy, rfl, hyn, hyc⟩ := hy.openI wy.pos
  obtain ⟨al, cl, rfl, hln, hlc⟩ := hl.open
  have HX := Lib.hid (fun w' hi => hxc w' hi)
  have HY := Lib.hid (fun w' hi => hyc w' hi)
  have HLC := Lib.hid (fun w' hi => hlc w' hi)
  have HI := Lib.hid hi
  have WX := Lib.hid wx
  have WY := Lib.hid wy
  have NRX := Lib.hid nx
  have NRY := Lib.hid ny
  have px := wx.pos
  have py := wy.pos
  have HND := Lib.hid hnd
  have HIN := Lib.hid hin
  have HROOT := Lib.hid hroot
  have HCL := Lib.hid hcl
  have HI0 : Hid (Imm h (w.alloc (Obj.cells #[.slice none 0 0, .int .i64 0, .bool false, .int .i64 0, .slice none 0 0] 32))) := HI.out.alloc _
  clear hx hy hl hxc hyc hlc wx wy nx ny hi hnd hin hroot hcl
  have hmm : ∀ W : World, (Instr.makeMap 97 none).run Try.prog W = .ok (.map (some W.heap.size)) (W.alloc (.map #[] 0)) := fun W => rfl
  go_enter Try.func32, Try.ntmps32
  go_upto_region 3 with fail
  have hz : (w.alloc (Obj.cells #[.slice none 0 0, .int .i64 0, .bool false, .int .i64 0, .slice none 0 0] 32)).heap.size = w.heap.size + 1 := by simp
  rw [← hz]
  have HZ := Lib.hid hz
  clear hz
  generalize hW0 : w.alloc (Obj.cells #[.slice none 0 0, .int .i64 0, .bool false, .int .i64 0, .slice none 0 0] 32) = w0 at *
  have HW0 := Lib.hid hW0
  clear hW0
  go_wp2_with (at_make; refine wpList_mk el_cmps rfl _ _ rfl (((St.refl HI0.out).alloc _).alloc _) .i64 .i64 _ _ l.length rfl rfl rfl rfl (by omega) ?_; intro w3 st3 own3 gr3)
  generalize hG : w0.heap.size + 1 + 1 = g
  have L0 : LeI h w0 x y l g l.length h w3 (madeCells zeroC.toArray (l.length * 6)).toList [] := by
    have hz : ((w0.alloc (.map #[] 0)).alloc (.map #[] 0)).heap.size = w0.heap.size + 2 := by simp
    rw [hz] at own3
    refine ⟨st3, ⟨[], (((mapL_new w0).keep (Below.heap_alloc _ _ _ (by simp))).keep (gr3.block _ (by rw [hz]; omega) (by simp))), fun q => ?_⟩, ⟨[], ?_, fun k hk hle => by omega⟩, ⟨new_own HI0.out _ (by omega), new_own HI0.out _ (by omega)⟩, ?_, ?_, ?_, by omega⟩
    · rw [List.drop_length]; rfl
    · have := (mapL_new (w0.alloc (.map #[] 0))).keep (gr3.block _ (by simp) (by simp))
      simpa using this
    · rw [← hG]; simpa [zeroC] using own3
    · simp [zeroC, size_madeCells]
    · rw [List.drop_length]; simp [buildP, EncL]
  have L0' := Lib.hid L0
  have hgg : w0.heap.size + 2 ≤ g := by omega
  clear L0 st3 own3 gr3 hG
  go_loopw [10, 11, 12, 13, 14, 15, 16, 31, 32, 33, 34, 35, 36, 37, 38, 39, 40, 41, 42, 43, 44, 45, 46, 47, 48, 49, 50, 51, 52, 53, 54, 55, 56, 57, 58, 59, 60, 61, 62, 63, 64, 65, 66, 67, 68, 69, 70, 71, 72, 73, 74, 75, 76, 77, 78, 79, 80, 81, 82, 83, 84, 85] (fun i _ _ _ _ _ _ _ _ _ _ _ _ _ _ _ _ _ _ _ _ _ _ _ _ _ _ _ _ _ _ _ _ _ _ _ _ _ _ _ _ _ _ _ _ _ _ _ _ _ _ _ _ _ _ _ _ _ _ _ _ _ wr => ∃ (k : Nat) (hi : Hp) (zs es : List Value), k ≤ l.length ∧ i = .int .i64 ((k : Int) - 1) ∧ LeI h w0 x y l g k hi wr zs es) (fun i _ _ _ _ _ _ _ _ _ _ _ _ _ _ _ _ _ _ _ _ _ _ _ _ _ _ _ _ _ _ _ _ _ _ _ _ _ _ _ _ _ _ _ _ _ _ _ _ _ _ _ _ _ _ _ _ _ _ _ _ _ _ => (intOf i + 1).toNat)
  case atStart => exact ⟨l.length, h, _, _, Nat.le_refl _, rfl, L0'.out⟩
  case round =>
    obtain ⟨k, hi, zs, es, hk, rfl, L⟩ := hrel
    by_cases hk0 : k = 0
    case neg =>
      obtain ⟨j, rfl⟩ : ∃ j, k = j + 1 := ⟨k - 1, by omega⟩
      have e1 : ((j + 1 : Nat) : Int) - 1 = (j : Int) := by omega
      rw [e1]
      clear e1 hk0
      have hlt : j < l.length := by omega
      obtain ⟨bl, ol, rfl, hbl, hlc⟩ := HLC.out wr L.st.imm0 h0
      obtain ⟨d0, d1⟩ := hlc j hlt
      have HP := Lib.hid (HIN.out l[j] (by simp))
      have BD := Lib.hid (build_drop x y l j hlt)
      clear hlc
      generalize hJ : l[j] = p at *
      have HJ := Lib.hid hJ
      clear hJ
      have DB : Hid (∀ q, 0 ≤ dget (buildP x y (l.drop (j + 1))) q ∧ dget (buildP x y (l.drop (j + 1))) q ≤ 524288) := dget_ok WX.out WY.out sx sy (build_ok WX.out WY.out NRX.out NRY.out _ (fun q hq => HIN.out q (List.mem_of_mem_drop hq)))
      have L' := Lib.hid L
      obtain ⟨p1, p2, p3, p4⟩ := HP.out
      clear L
      go_upto_region 8 with fail
      obtain ⟨ld, MD, FD⟩ := L'.out.dmap
      obtain ⟨li, MI, FI⟩ := L'.out.imap
      have MD' := Lib.hid MD
      have FD' := Lib.hid FD
      have MI' := Lib.hid MI
      have FI' := Lib.hid FI
      clear MD FD MI FI
      go_wp2_with fail
      refine (mtable_any hi _ (L'.out.st.imm.alloc _) _ _ x y p _ ld (dget (buildP x y (l.drop (j + 1)))) (NX.out.mono L'.out.st.le) (NY.out.mono L'.out.st.le) WX.out WY.out sx sy HP.out (MD'.out.keep (Below.heap_alloc _ _ _ MD'.out.lt)) (fun q => ⟨FD'.out q, by have := DB.out q; unfold I64; omega⟩)).mono ?_
      rintro e w1 ⟨v1, v2, v3, rfl, h1, S1, I1, I2, R3⟩
      have S1' := Lib.hid S1
      have I1' := Lib.hid I1
      have I2' := Lib.hid I2
      have R3' := Lib.hid R3
      have PR := Lib.hid (tab_proper WX.out WY.out NRX.out NRY.out HP.out _ DB.out)
      clear S1 I1 I2 R3
      go_wp2_with fail
      refine (salign_any h1 _ S1'.out.imm _ _ _ _ _ _ I1'.out I2'.out R3'.out PR.out).mono ?_
      rintro e w2 ⟨cs, rfl, h2, S2, EA⟩
      obtain ⟨ap, cp, ar, cr, rfl, ci, EP, ER⟩ := EA
      have S2' := Lib.hid S2
      have EP' := Lib.hid EP
      have ER' := Lib.hid ER
      clear S2 EP ER
      generalize hA : alignP (dropP x p.1) (dropP y p.2) (costP x y p (dget (buildP x y (l.drop (j + 1))))) = A at *
      have HA := Lib.hid hA
      clear hA
      go_upto_region 10 with fail
      have z1 : wr.heap.size < w1.heap.size := by have := S1'.out.below.size; simp at this; omega
      have z2 : w1.heap.size ≤ w2.heap.size := S2'.out.below.size
      have S3 : Hid (St w0.heap.size h w0 h2 (w2.alloc (Obj.cells #[.slice ap A.pairs.length cp, .int .i64 A.cost, .slice ar A.pot.length cr] 43))) := ((((L'.out.st.alloc _).call S1'.out).call S2'.out).alloc _)
      have O3 : Hid (Ow (w2.alloc (Obj.cells #[.slice ap A.pairs.length cp, .int .i64 A.cost, .slice ar A.pot.length cr] 43)) h2 w0.heap.size 45 6 (.slice (some ⟨g, 0, none⟩) l.length l.length) l.length (zs ++ es)) := ((((L'.out.own.alloc _).call S1'.out).call S2'.out).alloc _)
      have keep3 : ∀ b, b < wr.heap.size → (w2.alloc (Obj.cells #[.slice ap A.pairs.length cp, .int .i64 A.cost, .slice ar A.pot.length cr] 43)).heap[b]? = wr.heap[b]? := fun b hb => by
        rw [Below.heap_alloc _ _ _ (by omega), S2'.out.below.block b (by omega), S1'.out.below.block b (by simp; omega), Below.heap_alloc _ _ _ hb]
      have MD3 := Lib.hid (MD'.out.keep (keep3 _ MD'.out.lt))
      have MI3 := Lib.hid (MI'.out.keep (keep3 _ MI'.out.lt))
      have b0 : (w2.alloc (Obj.cells #[.slice ap A.pairs.length cp, .int .i64 A.cost, .slice ar A.pot.length cr] 43)).cell? ⟨wr.heap.size, 0, none⟩ = some (.int .i64 p.1) := by
        rw [World.cell?_alloc_past _ _ _ (by show wr.heap.size < _; omega), S2'.out.below.cell (by show wr.heap.size < _; omega), S1'.out.below.cell (by simp), World.cell?_alloc_at _ _ _ _ rfl]; rfl
      have b1 : (w2.alloc (Obj.cells #[.slice ap A.pairs.length cp, .int .i64 A.cost, .slice ar A.pot.length cr] 43)).cell? ⟨wr.heap.size, 1, none⟩ = some (.int .i64 p.2) := by
        rw [World.cell?_alloc_past _ _ _ (by show wr.heap.size < _; omega), S2'.out.below.cell (by show wr.heap.size < _; omega), S1'.out.below.cell (by simp), World.cell?_alloc_at _ _ _ _ rfl]; rfl
      have a0 : (w2.alloc (Obj.cells #[.slice ap A.pairs.length cp, .int .i64 A.cost, .slice ar A.pot.length cr] 43)).cell? ⟨w2.heap.size, 0, none⟩ = some (.slice ap A.pairs.length cp) := by rw [World.cell?_alloc_at _ _ _ _ rfl]; rfl
      have a1 : (w2.alloc (Obj.cells #[.slice ap A.pairs.length cp, .int .i64 A.cost, .slice ar A.pot.length cr] 43)).cell? ⟨w2.heap.size, 1, none⟩ = some (.int .i64 A.cost) := by rw [World.cell?_alloc_at _ _ _ _ rfl]; rfl
      have a2 : (w2.alloc (Obj.cells #[.slice ap A.pairs.length cp, .int .i64 A.cost, .slice ar A.pot.length cr] 43)).cell? ⟨w2.heap.size, 2, none⟩ = some (.slice ar A.pot.length cr) := by rw [World.cell?_alloc_at _ _ _ _ rfl]; rfl
      have z3 : (w2.alloc (Obj.cells #[.slice ap A.pairs.length cp, .int .i64 A.cost, .slice ar A.pot.length cr] 43)).heap.size = w2.heap.size + 1 := by simp
      have K3 : Hid ((w2.alloc (Obj.cells #[.slice ap A.pairs.length cp, .int .i64 A.cost, .slice ar A.pot.length cr] 43)).heap.size = w2.heap.size + 1) := z3
      have E2 : Hid (EncL (EncComp h2) (buildP x y (l.drop (j + 1))) es) := L'.out.enc.mono fun _ _ q => (q.mono S1'.out.le).mono S2'.out.le
      have HD2 : Hid (h2 w0.heap.size = none ∧ h2 (w0.heap.size + 1) = none) := by
        have r1 := MD'.out.lt
        have r2 := MI'.out.lt
        have q1 := L'.out.hd
        refine ⟨?_, ?_⟩
        · rw [S2'.out.old _ (by omega), S1'.out.old _ (by simp; omega)]; exact q1.1
        · rw [S2'.out.old _ (by omega), S1'.out.old _ (by simp; omega)]; exact q1.2
      have z4 : w0.heap.size + 1 < wr.heap.size := MI'.out.lt
      clear keep3
      generalize hW3 : w2.alloc (Obj.cells #[.slice ap A.pairs.length cp, .int .i64 A.cost, .slice ar A.pot.length cr] 43) = w3 at *
      clear hW3
      obtain ⟨hbx, hxa⟩ := HX.out w3 S3.out.imm0
      obtain ⟨hby, hya⟩ := HY.out w3 S3.out.imm0
      obtain ⟨akx, ckx, x0, x1, x2, x3, x4, -, -, -, -⟩ := hxa p.1 p1 p2
      obtain ⟨aky, cky, y0, y1, y2, y3, y4, -, -, -, -⟩ := hya p.2 p3 p4
      clear hxa hya
      have w3a : wr.heap.size < w3.heap.size := by omega
      have w3b : w2.heap.size < w3.heap.size := by omega
      have hdb := differP_bd (nd x p.1).text (nd y p.2).text
      have hab : 0 ≤ A.cost ∧ A.cost ≤ 838860800 := by
        rw [← HA.out]
        have q1 := pt_bd PR.out (dropP x p.1).length (dropP y p.2).length
        have q2 := PR.out.dl
        have q3 := PR.out.al
        simp only [alignP]
        omega
      have wrp : IntKind.i64.wrap (differP (nd x p.1).text (nd y p.2).text + A.cost) = differP (nd x p.1).text (nd y p.2).text + A.cost := w64 (by omega)
      clear z3
      have hbx0 : bx < w0.heap.size := (HX.out w0 HI0.out).1
      have hby0 : by' < w0.heap.size := (HY.out w0 HI0.out).1
      go_region_held3 (fun w' => w'.cell? ⟨wr.heap.size, 0, none⟩ = some (.int .i64 p.1) ∧ w'.cell? ⟨wr.heap.size, 1, none⟩ = some (.int .i64 p.2) ∧ w'.cell? ⟨w2.heap.size, 1, none⟩ = some (.int .i64 A.cost) ∧
          w'.cell? ⟨bx, ox + p.1.toNat * 5, none⟩ = some (.int .i64 (nd x p.1).kind) ∧ w'.cell? ⟨bx, ox + p.1.toNat * 5 + 1, none⟩ = some (.string (nd x p.1).text) ∧ w'.cell? ⟨bx, ox + p.1.toNat * 5 + 2, none⟩ = some (.int .i64 (nd x p.1).parent) ∧ w'.cell? ⟨bx, ox + p.1.toNat * 5 + 3, none⟩ = some (.slice akx (nd x p.1).kids.length ckx) ∧ w'.cell? ⟨bx, ox + p.1.toNat * 5 + 4, none⟩ = some (.int .i64 (nd x p.1).size) ∧
          w'.cell? ⟨by', oy + p.2.toNat * 5, none⟩ = some (.int .i64 (nd y p.2).kind) ∧ w'.cell? ⟨by', oy + p.2.toNat * 5 + 1, none⟩ = some (.string (nd y p.2).text) ∧ w'.cell? ⟨by', oy + p.2.toNat * 5 + 2, none⟩ = some (.int .i64 (nd y p.2).parent) ∧ w'.cell? ⟨by', oy + p.2.toNat * 5 + 3, none⟩ = some (.slice aky (nd y p.2).kids.length cky) ∧ w'.cell? ⟨by', oy + p.2.toNat * 5 + 4, none⟩ = some (.int .i64 (nd y p.2).size))
        (first | go_keep | (go_split_ands; refine ⟨?_, ?_, ?_, ?_, ?_, ?_, ?_, ?_, ?_, ?_, ?_, ?_, ?_⟩ <;> first | (rw [hb5.cell (by show _ < w3.heap.size; assumption)]; assumption) | (rw [(hg2.cellOf (by show _ < w5.heap.size; omega) (by simp only [ne_eq, Option.some.injEq]; omega)).1, hb5.cell (by show _ < w3.heap.size; omega)]; assumption)))
        (first | (go_at_call 55; refine (differ_any _ _ _ _ _ _ _ _ _ _ _ _ _ _ _).mono ?_; rintro e w5 ⟨rfl, hb5⟩; have hz5 : w3.heap.size ≤ w5.heap.size := hb5.size; obtain ⟨W2, hrun, hm2, hg2⟩ := (MD3.out.keep (hb5.block _ MD3.out.lt)).put' p (.int .i64 (differP (nd x p.1).text (nd y p.2).text + A.cost)) 97 3 Try.underlying97))
      have kp5 : ∀ b, b < w3.heap.size → b ≠ w0.heap.size → W2.heap[b]? = w3.heap[b]? := fun b hb hne => by
        rw [hg2.block b (by omega) (fun e => by simp only [Option.some.injEq] at e; exact hne e)]; exact hb5.block b hb
      have S5 := Lib.hid ((S3.out.drew.same hb5).grown hg2 (fun k hk => by simp only [Option.some.injEq] at hk; subst hk; exact ⟨Nat.le_refl _, HD2.out.1⟩))
      have r3 : w0.heap.size + 1 < w3.heap.size := by omega
      obtain ⟨W4, hrun4, hm4, hg4⟩ := (MI3.out.keep (kp5 _ r3 (by omega))).put' p (.int .i64 j) 97 3 Try.underlying97
      have z5 : w3.heap.size ≤ W2.heap.size := by have := hg2.size; omega
      have z6 : W2.heap.size ≤ W4.heap.size := hg4.size
      have c5 : ∀ b i, b < w3.heap.size → b ≠ w0.heap.size → W2.cell? ⟨b, i, none⟩ = w3.cell? ⟨b, i, none⟩ := fun b i hb hne => World.cell?_of_block (a := ⟨b, i, none⟩) (kp5 b hb hne)
      have c6 : ∀ b i, b < w3.heap.size → b ≠ w0.heap.size → b ≠ w0.heap.size + 1 → W4.cell? ⟨b, i, none⟩ = w3.cell? ⟨b, i, none⟩ := fun b i hb hne hne2 => by
        rw [(hg4.cellOf (i := i) (by omega) (by simp only [ne_eq, Option.some.injEq]; omega)).1]; exact c5 b i hb hne
      have e0 := (c5 _ 0 w3a (by omega)).trans b0
      have e1 := (c5 _ 1 w3a (by omega)).trans b1
      have f0 := (c6 _ 0 w3a (by omega) (by omega)).trans b0
      have f1 := (c6 _ 1 w3a (by omega) (by omega)).trans b1
      have g0 := (c6 _ 0 w3b (by omega) (by omega)).trans a0
      have g1 := (c6 _ 1 w3b (by omega) (by omega)).trans a1
      have g2 := (c6 _ 2 w3b (by omega) (by omega)).trans a2
      have S6 := Lib.hid (S5.out.grown hg4 (fun k hk => by simp only [Option.some.injEq] at hk; subst hk; exact ⟨by omega, HD2.out.2⟩))
      have O6 := Lib.hid (((O3.out.drew.same hb5).grown hg2 (fun q hq => by simp only [Value.ownBlock, Option.some.injEq] at hq; subst hq; simp only [ne_eq, Option.some.injEq]; omega)).grown hg4 (fun q hq => by simp only [Value.ownBlock, Option.some.injEq] at hq; subst hq; simp only [ne_eq, Option.some.injEq]; omega))
      have hm6 := Lib.hid (hm2.keep (hg4.block _ (by have := hm2.lt; omega) (fun e => by simp only [Option.some.injEq] at e; omega)))
      have hm4' := Lib.hid hm4
      have hlook : (Instr.lookup 97 (.map (some w0.heap.size)) (.agg #[.int .i64 p.1, .int .i64 p.2]) false).run Try.prog W4.drew = .ok (.int .i64 (differP (nd x p.1).text (nd y p.2).text + A.cost)) W4.drew := by
        have := hm6.out.look p 97 3 (.int .i64 0) Try.underlying97 (fun _ => by kernel_rfl) W4.drew rfl
        rw [findL_set, if_pos rfl] at this
        exact this
      have hol := O6.out.len
      obtain ⟨g', hg', o1, o2, o3, o4, o5⟩ := O6.out.cell h0
      obtain rfl : g = g' := by simpa using hg'
      have og : ∀ k, k < 6 → ∃ u, W4.cell? ⟨g, j * 6 + k, none⟩ = some u := fun k hk => by
        have : j * 6 + k < (zs ++ es).length := by omega
        exact ⟨_, o4 _ _ (List.getElem?_eq_getElem this)⟩
      obtain ⟨q0, t0⟩ := og 0 (by omega)
      obtain ⟨q1, t1⟩ := og 1 (by omega)
      obtain ⟨q2, t2⟩ := og 2 (by omega)
      obtain ⟨q3, t3⟩ := og 3 (by omega)
      obtain ⟨q4, t4⟩ := og 4 (by omega)
      obtain ⟨q5, t5⟩ := og 5 (by omega)
      rw [Nat.add_zero] at t0
      have m0 := o5 (j * 6)
      have m1 := o5 (j * 6 + 1)
      have m2 := o5 (j * 6 + 2)
      have m3 := o5 (j * 6 + 3)
      have m4 := o5 (j * 6 + 4)
      have m5 := o5 (j * 6 + 5)
      have n1 : wr.heap.size < W4.heap.size := by omega
      have n2 : w2.heap.size < W4.heap.size := by omega
      have u1 : (0 : Int) ≤ (j : Int) := by omega
      have u2 : (j : Int) < (l.length : Int) := by omega
      clear hg' og o4 o5 hm2 hm4 kp5 c5 c6 hb5 hg2 hg4 b0 b1 a0 a1 a2 x0 x1 x2 x3 x4 y0 y1 y2 y3 y4
      go_wp2_with fail
      clear e0 e1 hrun hrun4
      refine wp_region_still_tail 12 (by kernel_rfl) (by kernel_rfl) ?_
      simp only [List.take_succ_cons, List.take_zero, List.drop_succ_cons, List.drop_zero]
      change wpStill _ _ (World.drew _) (fun a' => wpList _ _ _ _ a' (World.drew _)) _ _
      repeat still_step
      refine wpStill_nil ?_
      go_wp2_with fail
      go_roundw
      case rel =>
        exact ⟨j, h2, _, _, by omega, rfl, L'.out.next hlt HND.out HJ.out (by unfold I64; omega) (by unfold I64; omega) HA.out ci EP'.out ER'.out S6.out O6.out o3 HD2.out hm6.out hm4'.out FD'.out FI'.out E2.out⟩
      case measure => simp [intOf]
    subst hk0
    obtain ⟨w1, rfl⟩ : ∃ w1 : World, w1 = wr := ⟨_, rfl⟩
    have hzs : zs = [] := List.eq_nil_of_length_eq_zero (by have := L.zl; simpa using this)
    subst hzs
    have hbl : (buildP x y l).length = l.length := build_length x y l
    have CM : Cmps (hi.fr w0.heap.size w1) (.slice (some ⟨g, 0, none⟩) l.length l.length) (buildP x y l) := by
      refine ⟨es, ?_, ?_⟩
      · rw [hbl]
        have := L.own.sl (by omega)
        simpa using this
      · have := L.enc.mono fun _ _ q => q.mono (Hp.le_fr (B := w0.heap.size) L.st.imm)
        simpa using this
    have F1 := L.st.fr
    obtain ⟨li, MI, FI⟩ := L.imap
    have MI' := Lib.hid MI
    have FI' : Hid (∀ k (hk : k < l.length), findL li l[k] = some (.int .i64 k)) := fun k hk => FI k hk (by omega)
    generalize hi.fr w0.heap.size w1 = h1 at *
    have F1' := Lib.hid F1
    obtain ⟨g', og', cg', hge, -, hCM⟩ := CM.openI (by rw [hbl]; exact h0)
    rw [hbl] at hge
    simp only [Value.slice.injEq, Option.some.injEq, Addr.mk.injEq, and_true, true_and] at hge
    obtain ⟨⟨rfl, rfl⟩, rfl⟩ := hge
    have HCM := Lib.hid (fun w' hi => hCM w' hi)
    have CM' := Lib.hid CM
    have HBL := Lib.hid hbl
    have KK := Lib.hid (kpL_kf WX.out WY.out l)
    have GS := Lib.hid (good_start (k := kpL x y (buildP x y l)) px py)
    have hxy : x.length * y.length ≤ 262144 * 262144 := Nat.mul_le_mul sx sy
    generalize hN : x.length * y.length = N at *
    have HN := Lib.hid hN
    have z1 : w0.heap.size + 1 < w1.heap.size := MI.lt
    clear L F1 MI FI CM hCM hbl hN
    go_wp2_with fail
    go_loopw [17, 18, 19, 21, 88, 89, 90, 91, 92, 93, 94, 95, 96, 97, 98, 99, 100, 101, 102, 103, 104, 105, 106, 107, 108, 109, 110, 111, 112, 113, 114, 115, 116, 117, 118, 119, 120, 121, 122, 123, 124, 125, 126, 127, 128, 129, 130, 131, 132, 133, 134, 135] (fun v i _ _ _ _ _ _ _ _ _ _ _ _ _ _ _ _ _ _ _ _ _ _ _ _ _ _ _ _ _ _ _ _ _ _ _ _ _ _ _ _ _ _ _ _ _ _ _ _ _ _ wr => ∃ (j : Nat) (m : List (Int × Int)), i = .int .i64 j ∧ St w1.heap.size h1 w1 h1 wr ∧ PrOw wr h1 w1.heap.size v m ∧ Good x y (kpL x y (buildP x y l)) m j ∧ Hid (∀ p ∈ m, p ∈ l) ∧ Hid (bfs (kpL x y (buildP x y l)) N (N + 1 - j) m j = bfs (kpL x y (buildP x y l)) N (N + 1) [(0, 0)] 0)) (fun _ i _ _ _ _ _ _ _ _ _ _ _ _ _ _ _ _ _ _ _ _ _ _ _ _ _ _ _ _ _ _ _ _ _ _ _ _ _ _ _ _ _ _ _ _ _ _ _ _ _ _ _ => N - (intOf i).toNat)
    case atStart => exact ⟨0, [(0, 0)], rfl, (St.refl F1'.out.imm).alloc _, own_lit (w := w1) F1'.out.imm (Nat.le_refl _) [.int .i64 0, .int .i64 0] 1 2 52 (by simp [maxLen]) rfl, GS.out, fun p hp => (by simp only [List.mem_singleton] at hp; subst hp; exact HROOT.out), rfl⟩
    case round =>
      obtain ⟨wo, rfl⟩ : ∃ wo : World, wo = wr := ⟨_, rfl⟩
      obtain ⟨j, m, rfl, S, O, G, ML, R⟩ := hrel
      have hjl := G.le
      have hlen := G.len
      rw [HN.out] at hlen
      by_cases hlt : j < m.length
      · obtain ⟨gq, cap, rfl, hg1, hg2, hg3, c0, c1⟩ := O.open j hlt
        obtain ⟨p1, p2, p3, p4⟩ := G.inr m[j] (by simp)
        have GT := Lib.hid (good_step KK.out G hlt)
        have HT : Hid (m ++ kpL x y (buildP x y l) m[j] = m ++ (pent (buildP x y l) m[j]).kids.pairs.map (kidsAt x y m[j])) := rfl
        have HS1 := Lib.hid (fun hb hf => bfs_go (k := kpL x y (buildP x y l)) (budget := N) (f := N + 1 - j) hlt hb hf)
        have HPL := Lib.hid (ML.out m[j] (by simp))
        have MLT : Hid (∀ p ∈ m ++ kpL x y (buildP x y l) m[j], p ∈ l) := fun q hq => by
          rcases List.mem_append.1 hq with hq | hq
          · exact ML.out q hq
          · exact HCL.out _ HPL.out q (kpL_kp l hq)
        generalize m[j] = p at *
        obtain ⟨k0, hk0, hk1⟩ := List.mem_iff_getElem.1 HPL.out
        obtain ⟨apc, cpc, arc, crc, -, -, -, e3, -, -, eav, -⟩ := (HCM.out wo S.imm).2 k0 (by rw [HBL.out]; exact hk0)
        have hbg := (HCM.out wo S.imm).1
        rw [pent_at HND.out k0 hk0, hk1, Nat.zero_add] at e3
        rw [pent_at HND.out k0 hk0, hk1] at eav
        obtain ⟨cs, hcs, ap', cp', ar', cr', hcs2, -, HPP, -⟩ := eav
        subst hcs2
        simp only [Value.agg.injEq] at hcs
        obtain ⟨⟨rfl, rfl⟩, -⟩ := hcs
        have HPK : Hid (∀ k ∈ (pent (buildP x y l) p).kids.pairs, 0 ≤ k.1 ∧ k.1 < (nd x p.1).kids.length ∧ 0 ≤ k.2 ∧ k.2 < (nd y p.2).kids.length) := fun k hk => by
          rcases pent_cases x y l p with h | ⟨ps, _, h⟩
          · rw [h, default_pairs] at hk; simp at hk
          · rw [h] at hk
            obtain ⟨q1, q2, q3, q4, _⟩ := align_kids (x := x) (y := y) (p := p) hk
            exact ⟨q1, q2, q3, q4⟩
        generalize (pent (buildP x y l) p).kids.pairs = KP at *
        have hlook : (Instr.lookup 97 (.map (some (w0.heap.size + 1))) (.agg #[.int .i64 p.1, .int .i64 p.2]) false).run Try.prog (wo.alloc (Obj.cells #[.int .i64 p.1, .int .i64 p.2] 52)) = .ok (.int .i64 k0) (wo.alloc (Obj.cells #[.int .i64 p.1, .int .i64 p.2] 52)) := by
          have zz := S.below.size
          have := MI'.out.look p 97 3 (.int .i64 0) Try.underlying97 (fun _ => by kernel_rfl) (wo.alloc (Obj.cells #[.int .i64 p.1, .int .i64 p.2] 52)) (by rw [Below.heap_alloc _ _ _ (by omega)]; exact S.below.block _ z1)
          rw [← hk1, FI'.out k0 hk0] at this
          rw [← hk1]
          exact this
        have HPP' := Lib.hid HPP
        have hppl := HPP.1.len.1
        have S' := Lib.hid S
        have O' := Lib.hid O
        have hTl := GT.out.len
        rw [HN.out] at hTl
        have v1 : (0 : Int) ≤ (k0 : Int) := by omega
        have v2 : (k0 : Int) < (l.length : Int) := by omega
        generalize hT : m ++ kpL x y (buildP x y l) p = T at *
        have hgne : gq ≠ wo.heap.size := by omega
        clear S O G ML HPP hT hk1
        have RS : Hid (RowIn h1 w1 (wo.alloc (Obj.cells #[.int .i64 p.1, .int .i64 p.2] 52)) gq (.slice (some ⟨gq, 0, none⟩) m.length cap) m (wo.alloc (Obj.cells #[.int .i64 p.1, .int .i64 p.2] 52))) := ⟨S'.out.alloc _, O'.out.alloc _, World.grownBy.refl _ _, .inl rfl⟩
        go_wp2_with fail
        clear hlook
        go_loopw [17, 21, 107, 108, 109, 110, 111, 112, 113, 114, 115, 116, 117, 118, 119, 120, 121, 122, 123, 124, 125, 126, 127, 128, 129, 130, 131, 132, 133, 134, 135] (fun v _ i _ _ _ _ _ _ _ _ _ _ _ _ _ _ _ _ _ _ _ _ _ _ _ _ _ _ _ _ wr => ∃ (k : Nat) (n : List (Int × Int)), k ≤ KP.length ∧ i = .int .i64 k ∧ RowIn h1 w1 (wo.alloc (Obj.cells #[.int .i64 p.1, .int .i64 p.2] 52)) gq v n wr ∧ Hid (n ++ (KP.drop k).map (kidsAt x y p) = T)) (fun _ _ i _ _ _ _ _ _ _ _ _ _ _ _ _ _ _ _ _ _ _ _ _ _ _ _ _ _ _ _ _ => KP.length - (intOf i).toNat)
        case atStart => exact ⟨0, m, Nat.zero_le _, rfl, RS.out, HT.out.symm⟩
        case round =>
          obtain ⟨k, n, hk, rfl, RI, RT⟩ := hrel
          obtain ⟨an, cn, rfl⟩ := Ow.shape RI.own
          have bx0 : wr.cell? ⟨wo.heap.size, 0, none⟩ = some (.int .i64 p.1) := box_kept1 RI.grown (fun k hk => by simp only [Option.some.injEq] at hk; omega) 0
          have bx1 : wr.cell? ⟨wo.heap.size, 1, none⟩ = some (.int .i64 p.2) := box_kept1 RI.grown (fun k hk => by simp only [Option.some.injEq] at hk; omega) 1
          have hwor : wo.heap.size < wr.heap.size := by have := RI.grown.size; simp at this; omega
          by_cases hltk : k < KP.length
          · obtain ⟨aq, cq, hqe, -, hqc⟩ := HPP'.out.open
            simp only [Value.slice.injEq, true_and] at hqe
            obtain ⟨rfl, rfl⟩ := hqe
            obtain ⟨bq, oq, rfl, hbq, hqc⟩ := hqc wr RI.st.imm (by omega)
            obtain ⟨dq0, dq1⟩ := hqc k hltk
            obtain ⟨t1, t2, t3, t4⟩ := HPK.out KP[k] (by simp)
            have RT' : Hid ((n ++ [kidsAt x y p KP[k]]) ++ (KP.drop (k + 1)).map (kidsAt x y p) = T) := by
              have := RT.out
              rw [List.drop_eq_getElem_cons hltk, List.map_cons] at this
              unfold Hid
              rw [List.append_assoc]
              exact this
            generalize KP[k] = kk at *
            have hnT : n.length + 1 ≤ T.length := by rw [← RT'.out]; simp
            have hkx : kk.1.toNat < (nd x p.1).kids.length := by omega
            have hky : kk.2.toNat < (nd y p.2).kids.length := by omega
            obtain ⟨hbx2, hxa⟩ := HX.out wr (fun b c hc => RI.st.imm b c (F1'.out.le b c hc))
            obtain ⟨hby2, hya⟩ := HY.out wr (fun b c hc => RI.st.imm b c (F1'.out.le b c hc))
            obtain ⟨akx, ckx, -, -, -, dx3, -, hkxI, -⟩ := hxa p.1 p1 p2
            obtain ⟨aky, cky, -, -, -, dy3, -, hkyI, -⟩ := hya p.2 p3 p4
            obtain ⟨bkx, okx, ckx', hkxe, hkxl, hkc⟩ := hkxI.openI (by omega)
            simp only [Value.slice.injEq, true_and] at hkxe
            obtain ⟨rfl, rfl⟩ := hkxe
            obtain ⟨bky, oky, cky', hkye, hkyl, hkd⟩ := hkyI.openI (by omega)
            simp only [Value.slice.injEq, true_and] at hkye
            obtain ⟨rfl, rfl⟩ := hkye
            have hI0 : Imm h wr := fun b c hc => RI.st.imm b c (F1'.out.le b c hc)
            have dc := (hkc wr hI0).2 _ hkx
            have dd := (hkd wr hI0).2 _ hky
            have hbkx := (hkc wr hI0).1
            have hbky := (hkd wr hI0).1
            have hI1 : Imm h w1 := F1'.out.imm0
            have lbx : bx < w1.heap.size := (HX.out w1 hI1).1
            have lby : by' < w1.heap.size := (HY.out w1 hI1).1
            have lkx : bkx < w1.heap.size := (hkc w1 hI1).1
            have lky : bky < w1.heap.size := (hkd w1 hI1).1
            have hw1r : w1.heap.size ≤ wr.heap.size := RI.st.below.size
            have hne : ∀ b, b < w1.heap.size → (Value.slice an n.length cn).ownBlock ≠ some b := fun b hb e => by have := (RI.own.lt _ e).1; omega
            have hne1 : (Value.slice an n.length cn).ownBlock ≠ some wo.heap.size := by
              rcases RI.blk with e | ⟨q, e, hq⟩
              · rw [e]; simp only [ne_eq, Option.some.injEq]; omega
              · rw [e]; simp only [ne_eq, Option.some.injEq]; simp at hq; omega
            have hne2 : (Value.slice an n.length cn).ownBlock ≠ some wr.heap.size := fun e => by have := (RI.own.lt _ e).2; omega
            have HNE := Lib.hid hne
            have HNE1 : Hid ((Value.slice an n.length cn).ownBlock ≠ some wo.heap.size) := hne1
            have HNE2 : Hid ((Value.slice an n.length cn).ownBlock ≠ some wr.heap.size) := hne2
            have hkid : Hid (((nd x p.1).kids[kk.1.toNat], (nd y p.2).kids[kk.2.toNat]) = kidsAt x y p kk) := by
              unfold Hid kidsAt; rw [getD_of_lt _ _ _ hkx, getD_of_lt _ _ _ hky]
            generalize (nd x p.1).kids[kk.1.toNat] = kc at *
            generalize (nd y p.2).kids[kk.2.toNat] = kd at *
            have RQ := Lib.hid (RI.alloc (Obj.cells #[.int .i64 kk.1, .int .i64 kk.2] 52))
            clear hkc hkd hxa hya hqc hne hne1 hne2 RI RT hkxI hkyI hI0 hI1
            go_upto_region 21 with fail
            have y0 : (wr.alloc (Obj.cells #[.int .i64 kk.1, .int .i64 kk.2] 52)).cell? ⟨wr.heap.size, 0, none⟩ = some (.int .i64 kk.1) := by rw [World.cell?_alloc_at _ _ _ _ rfl]; rfl
            have y1 : (wr.alloc (Obj.cells #[.int .i64 kk.1, .int .i64 kk.2] 52)).cell? ⟨wr.heap.size, 1, none⟩ = some (.int .i64 kk.2) := by rw [World.cell?_alloc_at _ _ _ _ rfl]; rfl
            have y2 : (wr.alloc (Obj.cells #[.int .i64 kk.1, .int .i64 kk.2] 52)).cell? ⟨wo.heap.size, 0, none⟩ = some (.int .i64 p.1) := by rw [World.cell?_alloc_past _ _ _ hwor]; exact bx0
            have y3 : (wr.alloc (Obj.cells #[.int .i64 kk.1, .int .i64 kk.2] 52)).cell? ⟨wo.heap.size, 1, none⟩ = some (.int .i64 p.2) := by rw [World.cell?_alloc_past _ _ _ hwor]; exact bx1
            have y4 : (wr.alloc (Obj.cells #[.int .i64 kk.1, .int .i64 kk.2] 52)).cell? ⟨bx, ox + p.1.toNat * 5 + 3, none⟩ = some (.slice (some ⟨bkx, okx, none⟩) (nd x p.1).kids.length ckx) := by rw [World.cell?_alloc_past _ _ _ hbx2]; exact dx3
            have y5 : (wr.alloc (Obj.cells #[.int .i64 kk.1, .int .i64 kk.2] 52)).cell? ⟨by', oy + p.2.toNat * 5 + 3, none⟩ = some (.slice (some ⟨bky, oky, none⟩) (nd y p.2).kids.length cky) := by rw [World.cell?_alloc_past _ _ _ hby2]; exact dy3
            have y6 : (wr.alloc (Obj.cells #[.int .i64 kk.1, .int .i64 kk.2] 52)).cell? ⟨bkx, okx + kk.1.toNat, none⟩ = some (.int .i64 kc) := by rw [World.cell?_alloc_past _ _ _ hbkx]; exact dc
            have y7 : (wr.alloc (Obj.cells #[.int .i64 kk.1, .int .i64 kk.2] 52)).cell? ⟨bky, oky + kk.2.toNat, none⟩ = some (.int .i64 kd) := by rw [World.cell?_alloc_past _ _ _ hbky]; exact dd
            have yz : (wr.alloc (Obj.cells #[.int .i64 kk.1, .int .i64 kk.2] 52)).heap.size = wr.heap.size + 1 := by simp
            clear bx0 bx1 dx3 dy3 dc dd
            generalize hWq : wr.alloc (Obj.cells #[.int .i64 kk.1, .int .i64 kk.2] 52) = wq at *
            clear hWq
            have l1 : wr.heap.size < wq.heap.size := by omega
            have l2 : wo.heap.size < wq.heap.size := by omega
            have l3 : bx < wq.heap.size := by omega
            have l4 : by' < wq.heap.size := by omega
            have l5 : bkx < wq.heap.size := by omega
            have l6 : bky < wq.heap.size := by omega
            clear yz
            go_region_held3 (fun w' => w'.cell? ⟨wr.heap.size, 0, none⟩ = some (.int .i64 kk.1) ∧ w'.cell? ⟨wr.heap.size, 1, none⟩ = some (.int .i64 kk.2) ∧ w'.cell? ⟨wo.heap.size, 0, none⟩ = some (.int .i64 p.1) ∧ w'.cell? ⟨wo.heap.size, 1, none⟩ = some (.int .i64 p.2) ∧
                w'.cell? ⟨bx, ox + p.1.toNat * 5 + 3, none⟩ = some (.slice (some ⟨bkx, okx, none⟩) (nd x p.1).kids.length ckx) ∧ w'.cell? ⟨by', oy + p.2.toNat * 5 + 3, none⟩ = some (.slice (some ⟨bky, oky, none⟩) (nd y p.2).kids.length cky) ∧
                w'.cell? ⟨bkx, okx + kk.1.toNat, none⟩ = some (.int .i64 kc) ∧ w'.cell? ⟨bky, oky + kk.2.toNat, none⟩ = some (.int .i64 kd))
              (first | go_keep | (go_split_ands; refine ⟨?_, ?_, ?_, ?_, ?_, ?_, ?_, ?_⟩ <;> (rw [(gr2.cellOf (by simp; omega) (by first | exact HNE2.out | exact HNE1.out | exact HNE.out _ (by assumption))).1]; assumption)))
              ((refine step_app el_pairs (by rfl) _ _ (by rfl) ((RQ.out.st.alloc _).drewN _) _ n.length _ (by rfl) ((RQ.out.own.alloc _).drewN _) ⟨wq.heap.size, 0, none⟩ 1 1 (encP (kc, kd)) (by rfl) (by rfl) (new_cells _ _ _ _ (by simp)) (one_cells _ rfl) (by omega) (by omega) ?_; intro gg cg w3 st2 own2 gr2 bk2))
            go_wp2_with fail
            have RK := Lib.hid ((RQ.out.drewN _).app st2 own2 gr2 bk2)
            clear st2 own2 gr2 bk2
            go_roundw
            case rel =>
              repeat apply Exists.intro
              refine ⟨?_, rfl⟩
              exact ⟨k + 1, n ++ [kidsAt x y p kk], by omega, by go_num, by rw [← hkid.out]; exact RK.out, RT'⟩
            case measure => simp [intOf]; omega
          · obtain rfl : k = KP.length := by omega
            have RT' := RT.out
            rw [List.drop_length, List.map_nil, List.append_nil] at RT'
            subst RT'
            go_wp2_with fail
            go_roundw
            case rel => exact ⟨j + 1, n, by go_num, RI.st, RI.own, GT.out, MLT, by unfold Hid; rw [← R.out, HS1.out (by omega) (by omega)]; congr 1⟩
            case measure => simp [intOf]; omega
      · obtain rfl : j = m.length := by omega
        obtain ⟨am, cm, rfl⟩ := Ow.shape O
        have hR : Hid (leastP x y l = m) := by
          unfold Hid leastP
          rw [HN.out, ← R.out, bfs_end (Nat.le_refl _) (by omega)]; rfl
        have S' := Lib.hid S
        have O' := Lib.hid O
        have G' := Lib.hid G
        clear S O G R
        go_wp2_with fail
        refine (sort_any h1 _ S'.out.imm w1.heap.size _ m (by omega) O'.out).mono ?_
        rintro e w5 ⟨rfl, gr, own⟩
        have S5 := S'.out.grown gr (fun k hk => ⟨(O'.out.lt k hk).1, O'.out.free k hk⟩)
        have hsl : (sortP m).length = m.length := List.length_mergeSort _
        have PRS : Prs (h1.fr w1.heap.size w5) (.slice am m.length cm) (sortP m) := by
          refine ⟨by rw [hsl]; exact Ow.sl own (by omega), fun q hq => ?_⟩
          have := G'.out.inr q ((List.mergeSort_perm m _).mem_iff.1 hq)
          unfold InR at this
          unfold I64
          omega
        have F5 := S5.fr
        have CM5 : Cmps (h1.fr w1.heap.size w5) (.slice (some ⟨g, 0, none⟩) l.length l.length) (buildP x y l) := CM'.out.mono (Hp.le_fr S5.imm)
        have cc0 := ((HCM.out w5 S5.imm).2 0 (by rw [HBL.out]; exact h0))
        obtain ⟨-, -, -, -, -, -, cc0, -, -, -, -, -, -, ccI, -⟩ := cc0
        rw [← getD_of_lt (buildP x y l) 0 default (by rw [HBL.out]; exact h0)] at cc0 ccI
        simp only [Nat.zero_mul, Nat.add_zero, Nat.zero_add] at cc0
        have hg5 : g < w5.heap.size := (HCM.out w5 S5.imm).1
        have F0 := F1'.out.call F5
        have Z0 : Hid (w1.heap.size ≤ w5.heap.size) := S5.below.size
        generalize h1.fr w1.heap.size w5 = h5 at *
        have F0' := Lib.hid F0
        have PRS' := Lib.hid PRS
        have CM5' := Lib.hid CM5
        clear S5 F5 PRS gr own F0 CM5
        have hw5 : w.heap.size < w5.heap.size := by have := F0'.out.below.size; rw [HZ.out] at this; omega
        have k0 : w5.cell? ⟨w.heap.size, 0, none⟩ = some (.slice none 0 0) := (box_at HW0.out F0'.out.below 0).1
        have k1 : w5.cell? ⟨w.heap.size, 1, none⟩ = some (.int .i64 0) := (box_at HW0.out F0'.out.below 1).1
        have k2 : w5.cell? ⟨w.heap.size, 2, none⟩ = some (.bool false) := (box_at HW0.out F0'.out.below 2).1
        have k3 : w5.cell? ⟨w.heap.size, 3, none⟩ = some (.int .i64 0) := (box_at HW0.out F0'.out.below 3).1
        have k4 : w5.cell? ⟨w.heap.size, 4, none⟩ = some (.slice none 0 0) := (box_at HW0.out F0'.out.below 4).1
        have z0 := (box_at HW0.out F0'.out.below 0).2
        have z1 := (box_at HW0.out F0'.out.below 1).2
        have z2 := (box_at HW0.out F0'.out.below 2).2
        have z3 := (box_at HW0.out F0'.out.below 3).2
        have z4 := (box_at HW0.out F0'.out.below 4).2
        have hu : (0 : Int) < (l.length : Int) := by omega
        go_wp2_with fail
        have hno : h5 w.heap.size = none := by rw [F0'.out.old _ (by rw [HZ.out]; omega)]; exact new_own HI.out _ (Nat.le_refl _)
        have Sb : St w.heap.size h w h5 w5 := by
          have h1 := (St.refl HI.out).alloc (Obj.cells #[.slice none 0 0, .int .i64 0, .bool false, .int .i64 0, .slice none 0 0] 32)
          rw [HW0.out] at h1
          exact h1.call F0'.out
        refine bodyPost_ret (v := .agg #[.slice am m.length cm, .int .i64 ((buildP x y l).getD 0 default).cost, .bool true, .int .i64 ((buildP x y l).getD 0 default).cost, .slice (some ⟨g, 0, none⟩) l.length l.length]) (by simp [results, Try.results32, go_sem, k0, k1, k2, k3, k4]) rfl ?_
        have Sc := ((((Sb.setCell (p := ⟨w.heap.size, 0, none⟩) (Nat.le_refl _) hno (.slice am m.length cm)).setCell (p := ⟨w.heap.size, 1, none⟩) (Nat.le_refl _) hno (.int .i64 ((buildP x y l).getD 0 default).cost)).setCell (p := ⟨w.heap.size, 2, none⟩) (Nat.le_refl _) hno (.bool true)).setCell (p := ⟨w.heap.size, 3, none⟩) (Nat.le_refl _) hno (.int .i64 ((buildP x y l).getD 0 default).cost)).setCell (p := ⟨w.heap.size, 4, none⟩) (Nat.le_refl _) hno (.slice (some ⟨g, 0, none⟩) l.length l.length)
        refine ⟨_, rfl, h5, Sc, am, cm, some ⟨g, 0, none⟩, l.length, ?_, ?_, ?_, ?_, ?_⟩
        · simp [leastM, hR.out, hsl, HBL.out]
        · exact ccI
        · exact ccI
        · simp only [leastM, hR.out, hsl]; exact PRS'.out
        · simp only [leastM, HBL.out]; exact CM5'.out
end Go.Proofs.Ytfifbadepebpeaa
