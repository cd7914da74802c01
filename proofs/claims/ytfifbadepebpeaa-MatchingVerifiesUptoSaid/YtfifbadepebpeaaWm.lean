/- matching.Match. -/
import Derived.Test.YtfifbadepebpeaaWl
import Derived.Test.YtfifbadepebpeaaWk
namespace Go.Proofs.Ytfifbadepebpeaa
open Go.RowKit

def matchM (x y : List NodeP) (budget : Int) : MatchP :=
  if (nd x 0).kind = (nd y 0).kind then
    if narrowB x = true ∧ narrowB y = true then
      match cmpB x y budget with
      | some l => leastM x y (sortP l)
      | none => posM x y
    else posM x y
  else { pairs := [], cost := x.length + y.length, proven := true, bound := x.length + y.length, proof := [] }

theorem cmpB_good {x y : List NodeP} (hx : WF x) (hy : WF y) {budget : Int} {l : List (Int × Int)} (h : cmpB x y budget = some l) : Good x y (kp x y) l l.length ∧ (l.length : Int) ≤ budget := by
  unfold cmpB at h
  split at h
  · cases h
  · rename_i hb
    rcases bfs_spec (kp_kf hx hy) budget.toNat (budget.toNat + 1) [(0, 0)] 0 (good_start hx.pos hy.pos) (by simp; omega) (by omega) with ⟨r, h1, h2, h3⟩ | ⟨h1, _⟩
    · rw [h] at h1
      obtain rfl := Option.some.inj h1
      exact ⟨h2, by omega⟩
    · rw [h] at h1; cases h1

theorem sortP_mem {l : List (Int × Int)} {q : Int × Int} : q ∈ sortP l ↔ q ∈ l := (List.mergeSort_perm l _).mem_iff
theorem sortP_length (l : List (Int × Int)) : (sortP l).length = l.length := List.length_mergeSort _
theorem sortP_nodup {l : List (Int × Int)} (h : l.Nodup) : (sortP l).Nodup := (List.mergeSort_perm l _).nodup_iff.2 h

theorem good_closed {x y : List NodeP} {k : Int × Int → List (Int × Int)} {l : List (Int × Int)} (g : Good x y k l l.length) : (0, 0) ∈ l ∧ ∀ p ∈ l, ∀ q ∈ k p, q ∈ l := by
  refine ⟨by rw [g.eq]; simp, fun p hp q hq => ?_⟩
  rw [g.eq, List.take_length]
  exact List.mem_cons_of_mem _ (List.mem_flatMap.2 ⟨p, hp, hq⟩)

theorem set5 {B : Nat} {h0 h : Hp} {w0 w : World} (s : St B h0 w0 h w) {g : Nat} (hg : B ≤ g) (hn : h g = none) (a b c d e : Value) :
    St B h0 w0 h (((((w.setCell ⟨g, 0, none⟩ a).setCell ⟨g, 1, none⟩ b).setCell ⟨g, 2, none⟩ c).setCell ⟨g, 3, none⟩ d).setCell ⟨g, 4, none⟩ e) :=
  ((((s.setCell (p := ⟨g, 0, none⟩) hg hn a).setCell (p := ⟨g, 1, none⟩) hg hn b).setCell (p := ⟨g, 2, none⟩) hg hn c).setCell (p := ⟨g, 3, none⟩) hg hn d).setCell (p := ⟨g, 4, none⟩) hg hn e

set_option maxRecDepth 100000 in
set_option maxHeartbeats 4000000 in
theorem match_any (h : Hp) (w : World) (hi : Imm h w) (va vb : Value) (a b : Tree) (budget : Int) (hb : I64 budget) (ha : TreeV h va a) (hbT : TreeV h vb b) (sa : a.size ≤ 262144) (sb : b.size ≤ 262144) :
    Calls Try.prog 13 #[va, vb, .int .i64 budget] w fun e w' => ∃ v, e = .returned v ∧ ∃ h', St w.heap.size h w h' w' ∧ MatchV h' v (matchM (flatP a) (flatP b) budget) := by
  have HTA := Lib.hid ha
  have HTB := Lib.hid hbT
  have HI := Lib.hid hi
  have WX := Lib.hid (flatP_wf a)
  have WY := Lib.hid (flatP_wf b)
  have px := WX.out.pos
  have py := WY.out.pos
  have sx : (flatP a).length ≤ 262144 := by rw [flatP_length]; exact sa
  have sy : (flatP b).length ≤ 262144 := by rw [flatP_length]; exact sb
  have SA := Lib.hid sa
  have SB := Lib.hid sb
  have HB := Lib.hid hb
  obtain ⟨al, cl, ak, ck, ys, rfl, hk, hll, hkl, -, -, -⟩ := ha.open
  obtain ⟨bl, dl, bk, dk, yt, rfl, hk', hll', hkl', -, -, -⟩ := hbT.open
  have hblk : (nd (flatP a) 0).kind = (nd (flatP a) 0).kind := rfl
  clear hi ha hbT sa sb hb hblk
  go_enter Try.func13, Try.ntmps13
  go_upto_region 1 with fail
  have a0 : (((w.alloc (Obj.cells #[.int .i64 a.kind, .string a.text, .slice al a.leads.length cl, .slice ak a.kids.length ck] 25)).alloc (Obj.cells #[.int .i64 b.kind, .string b.text, .slice bl b.leads.length dl, .slice bk b.kids.length dk] 25)).alloc (Obj.cells #[.slice none 0 0, .int .i64 0, .bool false, .int .i64 0, .slice none 0 0] 32)).cell? ⟨w.heap.size, 0, none⟩ = some (.int .i64 a.kind) := by rw [World.cell?_alloc_past _ _ _ (by simp; omega), World.cell?_alloc_past _ _ _ (by simp), World.cell?_alloc_at _ _ _ _ rfl]; rfl
  have a1 : (((w.alloc (Obj.cells #[.int .i64 a.kind, .string a.text, .slice al a.leads.length cl, .slice ak a.kids.length ck] 25)).alloc (Obj.cells #[.int .i64 b.kind, .string b.text, .slice bl b.leads.length dl, .slice bk b.kids.length dk] 25)).alloc (Obj.cells #[.slice none 0 0, .int .i64 0, .bool false, .int .i64 0, .slice none 0 0] 32)).cell? ⟨w.heap.size, 1, none⟩ = some (.string a.text) := by rw [World.cell?_alloc_past _ _ _ (by simp; omega), World.cell?_alloc_past _ _ _ (by simp), World.cell?_alloc_at _ _ _ _ rfl]; rfl
  have a2 : (((w.alloc (Obj.cells #[.int .i64 a.kind, .string a.text, .slice al a.leads.length cl, .slice ak a.kids.length ck] 25)).alloc (Obj.cells #[.int .i64 b.kind, .string b.text, .slice bl b.leads.length dl, .slice bk b.kids.length dk] 25)).alloc (Obj.cells #[.slice none 0 0, .int .i64 0, .bool false, .int .i64 0, .slice none 0 0] 32)).cell? ⟨w.heap.size, 2, none⟩ = some (.slice al a.leads.length cl) := by rw [World.cell?_alloc_past _ _ _ (by simp; omega), World.cell?_alloc_past _ _ _ (by simp), World.cell?_alloc_at _ _ _ _ rfl]; rfl
  have a3 : (((w.alloc (Obj.cells #[.int .i64 a.kind, .string a.text, .slice al a.leads.length cl, .slice ak a.kids.length ck] 25)).alloc (Obj.cells #[.int .i64 b.kind, .string b.text, .slice bl b.leads.length dl, .slice bk b.kids.length dk] 25)).alloc (Obj.cells #[.slice none 0 0, .int .i64 0, .bool false, .int .i64 0, .slice none 0 0] 32)).cell? ⟨w.heap.size, 3, none⟩ = some (.slice ak a.kids.length ck) := by rw [World.cell?_alloc_past _ _ _ (by simp; omega), World.cell?_alloc_past _ _ _ (by simp), World.cell?_alloc_at _ _ _ _ rfl]; rfl
  have b0 : (((w.alloc (Obj.cells #[.int .i64 a.kind, .string a.text, .slice al a.leads.length cl, .slice ak a.kids.length ck] 25)).alloc (Obj.cells #[.int .i64 b.kind, .string b.text, .slice bl b.leads.length dl, .slice bk b.kids.length dk] 25)).alloc (Obj.cells #[.slice none 0 0, .int .i64 0, .bool false, .int .i64 0, .slice none 0 0] 32)).cell? ⟨w.heap.size + 1, 0, none⟩ = some (.int .i64 b.kind) := by rw [World.cell?_alloc_past _ _ _ (by simp), World.cell?_alloc_at _ _ _ _ (by simp)]; rfl
  have b1 : (((w.alloc (Obj.cells #[.int .i64 a.kind, .string a.text, .slice al a.leads.length cl, .slice ak a.kids.length ck] 25)).alloc (Obj.cells #[.int .i64 b.kind, .string b.text, .slice bl b.leads.length dl, .slice bk b.kids.length dk] 25)).alloc (Obj.cells #[.slice none 0 0, .int .i64 0, .bool false, .int .i64 0, .slice none 0 0] 32)).cell? ⟨w.heap.size + 1, 1, none⟩ = some (.string b.text) := by rw [World.cell?_alloc_past _ _ _ (by simp), World.cell?_alloc_at _ _ _ _ (by simp)]; rfl
  have b2 : (((w.alloc (Obj.cells #[.int .i64 a.kind, .string a.text, .slice al a.leads.length cl, .slice ak a.kids.length ck] 25)).alloc (Obj.cells #[.int .i64 b.kind, .string b.text, .slice bl b.leads.length dl, .slice bk b.kids.length dk] 25)).alloc (Obj.cells #[.slice none 0 0, .int .i64 0, .bool false, .int .i64 0, .slice none 0 0] 32)).cell? ⟨w.heap.size + 1, 2, none⟩ = some (.slice bl b.leads.length dl) := by rw [World.cell?_alloc_past _ _ _ (by simp), World.cell?_alloc_at _ _ _ _ (by simp)]; rfl
  have b3 : (((w.alloc (Obj.cells #[.int .i64 a.kind, .string a.text, .slice al a.leads.length cl, .slice ak a.kids.length ck] 25)).alloc (Obj.cells #[.int .i64 b.kind, .string b.text, .slice bl b.leads.length dl, .slice bk b.kids.length dk] 25)).alloc (Obj.cells #[.slice none 0 0, .int .i64 0, .bool false, .int .i64 0, .slice none 0 0] 32)).cell? ⟨w.heap.size + 1, 3, none⟩ = some (.slice bk b.kids.length dk) := by rw [World.cell?_alloc_past _ _ _ (by simp), World.cell?_alloc_at _ _ _ _ (by simp)]; rfl
  have M0 : Hid (∀ i, (((w.alloc (Obj.cells #[.int .i64 a.kind, .string a.text, .slice al a.leads.length cl, .slice ak a.kids.length ck] 25)).alloc (Obj.cells #[.int .i64 b.kind, .string b.text, .slice bl b.leads.length dl, .slice bk b.kids.length dk] 25)).alloc (Obj.cells #[.slice none 0 0, .int .i64 0, .bool false, .int .i64 0, .slice none 0 0] 32)).cell? ⟨w.heap.size + 2, i, none⟩ = (#[.slice none 0 0, .int .i64 0, .bool false, .int .i64 0, .slice none 0 0] : Array Value)[i]? ∧ (((w.alloc (Obj.cells #[.int .i64 a.kind, .string a.text, .slice al a.leads.length cl, .slice ak a.kids.length ck] 25)).alloc (Obj.cells #[.int .i64 b.kind, .string b.text, .slice bl b.leads.length dl, .slice bk b.kids.length dk] 25)).alloc (Obj.cells #[.slice none 0 0, .int .i64 0, .bool false, .int .i64 0, .slice none 0 0] 32)).frozen? ⟨w.heap.size + 2, i, none⟩ = false) := fun i => ⟨by rw [World.cell?_alloc_at _ _ _ _ (by simp)], by rw [World.frozen?_alloc_at _ _ _ _ (by simp)]⟩
  have S0 : Hid (St w.heap.size h w h (((w.alloc (Obj.cells #[.int .i64 a.kind, .string a.text, .slice al a.leads.length cl, .slice ak a.kids.length ck] 25)).alloc (Obj.cells #[.int .i64 b.kind, .string b.text, .slice bl b.leads.length dl, .slice bk b.kids.length dk] 25)).alloc (Obj.cells #[.slice none 0 0, .int .i64 0, .bool false, .int .i64 0, .slice none 0 0] 32))) := (((St.refl HI.out).alloc _).alloc _).alloc _
  have z0 : (((w.alloc (Obj.cells #[.int .i64 a.kind, .string a.text, .slice al a.leads.length cl, .slice ak a.kids.length ck] 25)).alloc (Obj.cells #[.int .i64 b.kind, .string b.text, .slice bl b.leads.length dl, .slice bk b.kids.length dk] 25)).alloc (Obj.cells #[.slice none 0 0, .int .i64 0, .bool false, .int .i64 0, .slice none 0 0] 32)).heap.size = w.heap.size + 3 := by simp
  generalize hW0 : ((w.alloc (Obj.cells #[.int .i64 a.kind, .string a.text, .slice al a.leads.length cl, .slice ak a.kids.length ck] 25)).alloc (Obj.cells #[.int .i64 b.kind, .string b.text, .slice bl b.leads.length dl, .slice bk b.kids.length dk] 25)).alloc (Obj.cells #[.slice none 0 0, .int .i64 0, .bool false, .int .i64 0, .slice none 0 0] 32) = w0 at *
  clear hW0
  have l1 : w.heap.size < w0.heap.size := by omega
  have l2 : w.heap.size + 1 < w0.heap.size := by omega
  have l3 : w.heap.size + 2 < w0.heap.size := by omega
  clear z0
  go_region_held3 (fun w' => w'.cell? ⟨w.heap.size, 0, none⟩ = some (.int .i64 a.kind) ∧ w'.cell? ⟨w.heap.size, 1, none⟩ = some (.string a.text) ∧ w'.cell? ⟨w.heap.size, 2, none⟩ = some (.slice al a.leads.length cl) ∧ w'.cell? ⟨w.heap.size, 3, none⟩ = some (.slice ak a.kids.length ck) ∧ w'.cell? ⟨w.heap.size + 1, 0, none⟩ = some (.int .i64 b.kind) ∧ w'.cell? ⟨w.heap.size + 1, 1, none⟩ = some (.string b.text) ∧ w'.cell? ⟨w.heap.size + 1, 2, none⟩ = some (.slice bl b.leads.length dl) ∧ w'.cell? ⟨w.heap.size + 1, 3, none⟩ = some (.slice bk b.kids.length dk))
    (first | go_keep | exact ⟨(F1.below.cell (p := ⟨w.heap.size, 0, none⟩) l1).trans a0, (F1.below.cell (p := ⟨w.heap.size, 1, none⟩) l1).trans a1, (F1.below.cell (p := ⟨w.heap.size, 2, none⟩) l1).trans a2, (F1.below.cell (p := ⟨w.heap.size, 3, none⟩) l1).trans a3, (F1.below.cell (p := ⟨w.heap.size + 1, 0, none⟩) l2).trans b0, (F1.below.cell (p := ⟨w.heap.size + 1, 1, none⟩) l2).trans b1, (F1.below.cell (p := ⟨w.heap.size + 1, 2, none⟩) l2).trans b2, (F1.below.cell (p := ⟨w.heap.size + 1, 3, none⟩) l2).trans b3⟩ | exact ⟨(F2.below.cell (p := ⟨w.heap.size, 0, none⟩) (Nat.lt_of_lt_of_le l1 zz1)).trans ((F1.below.cell (p := ⟨w.heap.size, 0, none⟩) l1).trans a0), (F2.below.cell (p := ⟨w.heap.size, 1, none⟩) (Nat.lt_of_lt_of_le l1 zz1)).trans ((F1.below.cell (p := ⟨w.heap.size, 1, none⟩) l1).trans a1), (F2.below.cell (p := ⟨w.heap.size, 2, none⟩) (Nat.lt_of_lt_of_le l1 zz1)).trans ((F1.below.cell (p := ⟨w.heap.size, 2, none⟩) l1).trans a2), (F2.below.cell (p := ⟨w.heap.size, 3, none⟩) (Nat.lt_of_lt_of_le l1 zz1)).trans ((F1.below.cell (p := ⟨w.heap.size, 3, none⟩) l1).trans a3), (F2.below.cell (p := ⟨w.heap.size + 1, 0, none⟩) (Nat.lt_of_lt_of_le l2 zz1)).trans ((F1.below.cell (p := ⟨w.heap.size + 1, 0, none⟩) l2).trans b0), (F2.below.cell (p := ⟨w.heap.size + 1, 1, none⟩) (Nat.lt_of_lt_of_le l2 zz1)).trans ((F1.below.cell (p := ⟨w.heap.size + 1, 1, none⟩) l2).trans b1), (F2.below.cell (p := ⟨w.heap.size + 1, 2, none⟩) (Nat.lt_of_lt_of_le l2 zz1)).trans ((F1.below.cell (p := ⟨w.heap.size + 1, 2, none⟩) l2).trans b2), (F2.below.cell (p := ⟨w.heap.size + 1, 3, none⟩) (Nat.lt_of_lt_of_le l2 zz1)).trans ((F1.below.cell (p := ⟨w.heap.size + 1, 3, none⟩) l2).trans b3)⟩)
    (first
      | (go_at_call 29; (with_reducible refine (flatten_any h _ (by exact S0.out.imm.drew) _ a HTA.out (by have := SA.out; omega)).mono ?_); rintro e w1 ⟨vx, h1, rfl, F1, NX⟩; have zz1 : w0.heap.size ≤ w1.heap.size := F1.below.size)
      | (go_at_call 29; (with_reducible refine (flatten_any h1 _ F1.imm _ b (HTB.out.mono F1.le) (by have := SB.out; omega)).mono ?_); rintro e w2 ⟨vy, h2, rfl, F2, NY⟩; have zz2 : w1.heap.size ≤ w2.heap.size := F2.below.size))
  have S2 := Lib.hid ((S0.out.drew.call F1).call F2)
  have NX' := Lib.hid (NX.mono F2.le)
  have NY' := Lib.hid NY
  have ZB : Hid (w.heap.size + 2 < w2.heap.size) := by unfold Hid; omega
  have HN2 : Hid (h2 (w.heap.size + 2) = none) := by
    unfold Hid
    rw [F2.old _ (by omega), F1.old _ l3]
    exact new_own HI.out _ (by omega)
  have MB : Hid (∀ W, Below w2.heap.size w2 W → ∀ i, W.cell? ⟨w.heap.size + 2, i, none⟩ = (#[.slice none 0 0, .int .i64 0, .bool false, .int .i64 0, .slice none 0 0] : Array Value)[i]? ∧ W.frozen? ⟨w.heap.size + 2, i, none⟩ = false) := fun W hW i => by
    rw [hW.cell ZB.out, hW.frozen ZB.out, F2.below.cell (by show w.heap.size + 2 < _; omega), F2.below.frozen (by show w.heap.size + 2 < _; omega), F1.below.cell l3, F1.below.frozen l3]
    exact M0.out i
  obtain ⟨bx, ox, cx, rfl, hxn, hxc⟩ := NX'.out.openI px
  obtain ⟨by', oy, cy, rfl, hyn, hyc⟩ := NY'.out.openI py
  obtain ⟨hbx, hxa⟩ := hxc w2 S2.out.imm
  obtain ⟨hby, hya⟩ := hyc w2 S2.out.imm
  obtain ⟨-, -, x0, -⟩ := hxa 0 (by omega) (by omega)
  obtain ⟨-, -, y0, -⟩ := hya 0 (by omega) (by omega)
  simp only [Int.toNat_zero, Nat.zero_mul, Nat.add_zero] at x0 y0
  clear F1 F2 NX NY hxc hyc hxa hya a0 a1 a2 a3 b0 b1 b2 b3 M0 S0
  generalize hfa : flatP a = x at *
  generalize hfb : flatP b = y at *
  have HFA := Lib.hid hfa
  have HFB := Lib.hid hfb
  clear hfa hfb
  have q1 : (0 : Int) < (x.length : Int) := by omega
  have q2 : (0 : Int) < (y.length : Int) := by omega
  by_cases hk : (nd x 0).kind = (nd y 0).kind
  case neg =>
    have g1 := ibneT hk
    have HM : Hid (matchM (flatP a) (flatP b) budget = { pairs := [], cost := x.length + y.length, proven := true, bound := x.length + y.length, proof := [] }) := by unfold Hid; rw [HFA.out, HFB.out]; unfold matchM; rw [if_neg hk]
    clear hk
    go_wp2_with fail
    go_quiet (fail)
    have FB : Hid (Below w2.heap.size w2 (w2.drewN nq)) := (Below.refl _ _).drewN _
    have FZ := Lib.hid (S2.out.drewN nq)
    have k0 : (w2.drewN nq).cell? ⟨w.heap.size + 2, 0, none⟩ = some (.slice none 0 0) := (MB.out _ FB.out 0).1
    have k1 : (w2.drewN nq).cell? ⟨w.heap.size + 2, 1, none⟩ = some (.int .i64 0) := (MB.out _ FB.out 1).1
    have k2 : (w2.drewN nq).cell? ⟨w.heap.size + 2, 2, none⟩ = some (.bool false) := (MB.out _ FB.out 2).1
    have k3 : (w2.drewN nq).cell? ⟨w.heap.size + 2, 3, none⟩ = some (.int .i64 0) := (MB.out _ FB.out 3).1
    have k4 : (w2.drewN nq).cell? ⟨w.heap.size + 2, 4, none⟩ = some (.slice none 0 0) := (MB.out _ FB.out 4).1
    have z0 := (MB.out _ FB.out 0).2
    have z1 := (MB.out _ FB.out 1).2
    have z2 := (MB.out _ FB.out 2).2
    have z3 := (MB.out _ FB.out 3).2
    have z4 := (MB.out _ FB.out 4).2
    have hzz := ZB.out
    go_wp2_with fail
    refine bodyPost_ret (v := .agg #[.slice none 0 0, .int .i64 ((x.length : Int) + y.length), .bool true, .int .i64 ((x.length : Int) + y.length), .slice none 0 0]) (by simp [results, Try.results13, go_sem, k0, k1, k2, k3, k4]) rfl ?_
    refine ⟨_, rfl, _, set5 FZ.out (by omega) HN2.out _ _ _ _ _, none, 0, none, 0, by rw [HM.out]; rfl, ?_, ?_, ?_, ?_⟩
    · rw [HM.out]; unfold I64; simp only; omega
    · rw [HM.out]; unfold I64; simp only; omega
    · rw [HM.out]; exact ⟨Sl.nil _ _ _ _, by simp⟩
    · rw [HM.out]; exact ⟨[], Sl.nil _ _ _ _, by simp [EncL]⟩
  have g1 := ibneF hk
  have HK := Lib.hid hk
  clear hk
  generalize hnx : narrowB x = nx
  have HNX := Lib.hid hnx
  clear hnx
  generalize hny : narrowB y = ny
  have HNY := Lib.hid hny
  clear hny
  go_wp2_with fail
  go_quiet (fail)
  go_wp2_with fail
  refine (narrow_any h2 _ (S2.out.imm.drewN _) _ x NX'.out).mono ?_
  rintro e w3 ⟨rfl, hb3⟩
  have T3 := Lib.hid ((St.refl S2.out.imm).drewN nq |>.same hb3)
  rw [show (decide (x.length ≤ 262144) && x.all fun n => decide (n.kids.length ≤ 400)) = narrowB x from rfl, HNX.out]
  clear hb3 x0 y0
  cases nx
  · have HM : Hid (matchM (flatP a) (flatP b) budget = posM x y) := by unfold Hid; rw [HFA.out, HFB.out]; unfold matchM; rw [if_pos HK.out, if_neg (by rw [HNX.out]; simp)]
    go_upto_region 9 with fail
    go_wp2_with fail
    refine (positional_any h2 _ T3.out.imm _ _ x y (NX'.out) (NY'.out) WX.out WY.out sx sy).mono ?_
    rintro e w9 ⟨v9, rfl, h9, S9, ap, cp, ar, cr, rfl, i1, i2, PR, CM⟩
    have PR := Lib.hid PR
    have CM := Lib.hid CM
    have FB := Lib.hid ((T3.out.call S9).below)
    have FZ := Lib.hid (S2.out.call (T3.out.call S9))
    have HNO : Hid (h9 (w.heap.size + 2) = none) := by unfold Hid; rw [(T3.out.call S9).old _ ZB.out]; exact HN2.out
    clear S9
    have hw5 : w.heap.size + 2 < w9.heap.size := by have := FB.out.size; have := ZB.out; omega
    have k0 : w9.cell? ⟨w.heap.size + 2, 0, none⟩ = some (.slice none 0 0) := (MB.out _ FB.out 0).1
    have k1 : w9.cell? ⟨w.heap.size + 2, 1, none⟩ = some (.int .i64 0) := (MB.out _ FB.out 1).1
    have k2 : w9.cell? ⟨w.heap.size + 2, 2, none⟩ = some (.bool false) := (MB.out _ FB.out 2).1
    have k3 : w9.cell? ⟨w.heap.size + 2, 3, none⟩ = some (.int .i64 0) := (MB.out _ FB.out 3).1
    have k4 : w9.cell? ⟨w.heap.size + 2, 4, none⟩ = some (.slice none 0 0) := (MB.out _ FB.out 4).1
    have z0 := (MB.out _ FB.out 0).2
    have z1 := (MB.out _ FB.out 1).2
    have z2 := (MB.out _ FB.out 2).2
    have z3 := (MB.out _ FB.out 3).2
    have z4 := (MB.out _ FB.out 4).2
    go_wp2_with fail
    refine bodyPost_ret (v := .agg #[.slice ap (posM x y).pairs.length cp, .int .i64 (posM x y).cost, .bool (posM x y).proven, .int .i64 (posM x y).bound, .slice ar (posM x y).proof.length cr]) (by simp [results, Try.results13, go_sem, k0, k1, k2, k3, k4]) rfl ?_
    exact ⟨_, rfl, _, set5 FZ.out (by omega) HNO.out _ _ _ _ _, ap, cp, ar, cr, by rw [HM.out], by rw [HM.out]; exact i1, by rw [HM.out]; exact i2, by rw [HM.out]; exact PR.out, by rw [HM.out]; exact CM.out⟩
  go_wp2_with fail
  refine (narrow_any h2 _ T3.out.imm _ y NY'.out).mono ?_
  rintro e w4 ⟨rfl, hb4⟩
  have T4 := Lib.hid (T3.out.same hb4)
  rw [show (decide (y.length ≤ 262144) && y.all fun n => decide (n.kids.length ≤ 400)) = narrowB y from rfl, HNY.out]
  clear hb4
  cases ny
  · have HM : Hid (matchM (flatP a) (flatP b) budget = posM x y) := by unfold Hid; rw [HFA.out, HFB.out]; unfold matchM; rw [if_pos HK.out, if_neg (by rw [HNY.out]; simp)]
    go_upto_region 9 with fail
    go_wp2_with fail
    refine (positional_any h2 _ T4.out.imm _ _ x y (NX'.out) (NY'.out) WX.out WY.out sx sy).mono ?_
    rintro e w9 ⟨v9, rfl, h9, S9, ap, cp, ar, cr, rfl, i1, i2, PR, CM⟩
    have PR := Lib.hid PR
    have CM := Lib.hid CM
    have FB := Lib.hid ((T4.out.call S9).below)
    have FZ := Lib.hid (S2.out.call (T4.out.call S9))
    have HNO : Hid (h9 (w.heap.size + 2) = none) := by unfold Hid; rw [(T4.out.call S9).old _ ZB.out]; exact HN2.out
    clear S9
    have hw5 : w.heap.size + 2 < w9.heap.size := by have := FB.out.size; have := ZB.out; omega
    have k0 : w9.cell? ⟨w.heap.size + 2, 0, none⟩ = some (.slice none 0 0) := (MB.out _ FB.out 0).1
    have k1 : w9.cell? ⟨w.heap.size + 2, 1, none⟩ = some (.int .i64 0) := (MB.out _ FB.out 1).1
    have k2 : w9.cell? ⟨w.heap.size + 2, 2, none⟩ = some (.bool false) := (MB.out _ FB.out 2).1
    have k3 : w9.cell? ⟨w.heap.size + 2, 3, none⟩ = some (.int .i64 0) := (MB.out _ FB.out 3).1
    have k4 : w9.cell? ⟨w.heap.size + 2, 4, none⟩ = some (.slice none 0 0) := (MB.out _ FB.out 4).1
    have z0 := (MB.out _ FB.out 0).2
    have z1 := (MB.out _ FB.out 1).2
    have z2 := (MB.out _ FB.out 2).2
    have z3 := (MB.out _ FB.out 3).2
    have z4 := (MB.out _ FB.out 4).2
    go_wp2_with fail
    refine bodyPost_ret (v := .agg #[.slice ap (posM x y).pairs.length cp, .int .i64 (posM x y).cost, .bool (posM x y).proven, .int .i64 (posM x y).bound, .slice ar (posM x y).proof.length cr]) (by simp [results, Try.results13, go_sem, k0, k1, k2, k3, k4]) rfl ?_
    exact ⟨_, rfl, _, set5 FZ.out (by omega) HNO.out _ _ _ _ _, ap, cp, ar, cr, by rw [HM.out], by rw [HM.out]; exact i1, by rw [HM.out]; exact i2, by rw [HM.out]; exact PR.out, by rw [HM.out]; exact CM.out⟩
  generalize hc : cmpB x y budget = oc
  have HC := Lib.hid hc
  clear hc
  go_wp2_with fail
  refine (compared_any h2 _ T4.out.imm _ _ x y budget HB.out NX'.out NY'.out WX.out WY.out HK.out sx sy).mono ?_
  rintro e w5 ⟨h5, S5, hres⟩
  rw [HC.out] at hres
  cases oc with
  | none =>
    simp only at hres
    subst hres
    have HM : Hid (matchM (flatP a) (flatP b) budget = posM x y) := by unfold Hid; rw [HFA.out, HFB.out]; unfold matchM; rw [if_pos HK.out, if_pos ⟨HNX.out, HNY.out⟩, HC.out]
    have T5 : Hid (St w2.heap.size h2 w2 h5 w5) := T4.out.call S5
    have NX5 := Lib.hid (NX'.out.mono S5.le)
    have NY5 := Lib.hid (NY'.out.mono S5.le)
    clear S5
    go_upto_region 9 with fail
    go_wp2_with fail
    refine (positional_any h5 _ T5.out.imm _ _ x y NX5.out NY5.out WX.out WY.out sx sy).mono ?_
    rintro e w9 ⟨v9, rfl, h9, S9, ap, cp, ar, cr, rfl, i1, i2, PR, CM⟩
    have PR := Lib.hid PR
    have CM := Lib.hid CM
    have FB := Lib.hid ((T5.out.call S9).below)
    have FZ := Lib.hid (S2.out.call (T5.out.call S9))
    have HNO : Hid (h9 (w.heap.size + 2) = none) := by unfold Hid; rw [(T5.out.call S9).old _ ZB.out]; exact HN2.out
    clear S9
    have hw5 : w.heap.size + 2 < w9.heap.size := by have := FB.out.size; have := ZB.out; omega
    have k0 : w9.cell? ⟨w.heap.size + 2, 0, none⟩ = some (.slice none 0 0) := (MB.out _ FB.out 0).1
    have k1 : w9.cell? ⟨w.heap.size + 2, 1, none⟩ = some (.int .i64 0) := (MB.out _ FB.out 1).1
    have k2 : w9.cell? ⟨w.heap.size + 2, 2, none⟩ = some (.bool false) := (MB.out _ FB.out 2).1
    have k3 : w9.cell? ⟨w.heap.size + 2, 3, none⟩ = some (.int .i64 0) := (MB.out _ FB.out 3).1
    have k4 : w9.cell? ⟨w.heap.size + 2, 4, none⟩ = some (.slice none 0 0) := (MB.out _ FB.out 4).1
    have z0 := (MB.out _ FB.out 0).2
    have z1 := (MB.out _ FB.out 1).2
    have z2 := (MB.out _ FB.out 2).2
    have z3 := (MB.out _ FB.out 3).2
    have z4 := (MB.out _ FB.out 4).2
    go_wp2_with fail
    refine bodyPost_ret (v := .agg #[.slice ap (posM x y).pairs.length cp, .int .i64 (posM x y).cost, .bool (posM x y).proven, .int .i64 (posM x y).bound, .slice ar (posM x y).proof.length cr]) (by simp [results, Try.results13, go_sem, k0, k1, k2, k3, k4]) rfl ?_
    exact ⟨_, rfl, _, set5 FZ.out (by omega) HNO.out _ _ _ _ _, ap, cp, ar, cr, by rw [HM.out], by rw [HM.out]; exact i1, by rw [HM.out]; exact i2, by rw [HM.out]; exact PR.out, by rw [HM.out]; exact CM.out⟩
  | some l =>
    simp only at hres
    obtain ⟨vl, rfl, PL⟩ := hres
    have HM : Hid (matchM (flatP a) (flatP b) budget = leastM x y (sortP l)) := by unfold Hid; rw [HFA.out, HFB.out]; unfold matchM; rw [if_pos HK.out, if_pos ⟨HNX.out, HNY.out⟩, HC.out]
    have T5 : Hid (St w2.heap.size h2 w2 h5 w5) := T4.out.call S5
    have NX5 := Lib.hid (NX'.out.mono S5.le)
    have NY5 := Lib.hid (NY'.out.mono S5.le)
    have PL' := Lib.hid PL
    have GD := Lib.hid (cmpB_good WX.out WY.out HC.out).1
    have hgl := GD.out.len
    have hxy : x.length * y.length ≤ 262144 * 262144 := Nat.mul_le_mul sx sy
    clear S5 PL
    go_wp2_with fail
    refine (least_any h5 _ T5.out.imm _ _ _ x y (sortP l) NX5.out NY5.out WX.out WY.out HNX.out HNY.out PL'.out (sortP_nodup GD.out.nodup) (fun p hp => GD.out.inr p (sortP_mem.1 hp)) (sortP_mem.2 (good_closed GD.out).1) (fun p hp q hq => sortP_mem.2 ((good_closed GD.out).2 p (sortP_mem.1 hp) q hq)) (by rw [sortP_length]; omega)).mono ?_
    rintro e w9 ⟨v9, rfl, h9, S9, ap, cp, ar, cr, rfl, i1, i2, PR, CM⟩
    have PR := Lib.hid PR
    have CM := Lib.hid CM
    have FB := Lib.hid ((T5.out.call S9).below)
    have FZ := Lib.hid (S2.out.call (T5.out.call S9))
    have HNO : Hid (h9 (w.heap.size + 2) = none) := by unfold Hid; rw [(T5.out.call S9).old _ ZB.out]; exact HN2.out
    clear S9
    have hw5 : w.heap.size + 2 < w9.heap.size := by have := FB.out.size; have := ZB.out; omega
    have k0 : w9.cell? ⟨w.heap.size + 2, 0, none⟩ = some (.slice none 0 0) := (MB.out _ FB.out 0).1
    have k1 : w9.cell? ⟨w.heap.size + 2, 1, none⟩ = some (.int .i64 0) := (MB.out _ FB.out 1).1
    have k2 : w9.cell? ⟨w.heap.size + 2, 2, none⟩ = some (.bool false) := (MB.out _ FB.out 2).1
    have k3 : w9.cell? ⟨w.heap.size + 2, 3, none⟩ = some (.int .i64 0) := (MB.out _ FB.out 3).1
    have k4 : w9.cell? ⟨w.heap.size + 2, 4, none⟩ = some (.slice none 0 0) := (MB.out _ FB.out 4).1
    have z0 := (MB.out _ FB.out 0).2
    have z1 := (MB.out _ FB.out 1).2
    have z2 := (MB.out _ FB.out 2).2
    have z3 := (MB.out _ FB.out 3).2
    have z4 := (MB.out _ FB.out 4).2
    go_wp2_with fail
    refine bodyPost_ret (v := .agg #[.slice ap (leastM x y (sortP l)).pairs.length cp, .int .i64 (leastM x y (sortP l)).cost, .bool (leastM x y (sortP l)).proven, .int .i64 (leastM x y (sortP l)).bound, .slice ar (leastM x y (sortP l)).proof.length cr]) (by simp [results, Try.results13, go_sem, k0, k1, k2, k3, k4]) rfl ?_
    exact ⟨_, rfl, _, set5 FZ.out (by omega) HNO.out _ _ _ _ _, ap, cp, ar, cr, by rw [HM.out], by rw [HM.out]; exact i1, by rw [HM.out]; exact i2, by rw [HM.out]; exact PR.out, by rw [HM.out]; exact CM.out⟩
end Go.Proofs.Ytfifbadepebpeaa
