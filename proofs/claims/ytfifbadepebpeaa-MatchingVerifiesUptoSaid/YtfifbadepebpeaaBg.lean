/- More functions that only read. -/
import Derived.Test.YtfifbadepebpeaaBa
import Derived.Test.YtfifbadepebpeaaWa
import Derived.Sort.Grow
namespace Go.Proofs.Ytfifbadepebpeaa
open Go.RowKit

theorem partner_take (l : List (Int × Int)) (x : Int) (k : Nat) (hk : k < l.length) (h : l[k].1 ≠ x) (hf : (l.take k).find? (fun p => p.1 == x) = none) : (l.take (k + 1)).find? (fun p => p.1 == x) = none := by
  rw [List.take_add_one, List.getElem?_eq_getElem hk, List.find?_append, hf]
  simpa using h

def partnerP (l : List (Int × Int)) (x : Int) : Int := match l.find? (fun p => p.1 == x) with | some p => p.2 | none => -1

set_option maxHeartbeats 400000 in
theorem partner_any (h : Hp) (w : World) (hi : Imm h w) (v : Value) (l : List (Int × Int)) (x : Int) (hv : Prs h v l) :
    Calls Try.prog 58 #[v, .int .i64 x] w fun e w' => e = .returned (.int .i64 (partnerP l x)) ∧ w = w' := by
  obtain ⟨a, cap, rfl, hn, hc⟩ := hv.open
  replace hc := Lib.hid (hc w hi)
  clear hv hi
  go_enter Try.func58, Try.ntmps58
  go_wp2
  go_loop [4, 5, 6, 7, 8, 9, 10, 11, 12, 13, 14, 15, 16, 17, 18, 19, 20, 21, 22, 23] (fun _ i _ _ _ _ _ _ _ _ _ _ _ _ _ _ _ _ _ _ => ∃ k : Nat, k ≤ l.length ∧ i = .int .i64 k ∧ Hid ((l.take k).find? (fun p => p.1 == x) = none)) (fun _ i _ _ _ _ _ _ _ _ _ _ _ _ _ _ _ _ _ _ => l.length - (intOf i).toNat)
  case atStart => exact ⟨0, Nat.zero_le _, rfl, rfl⟩
  case round =>
    obtain ⟨k, hk, rfl, hw⟩ := hrel
    by_cases hlt : k < l.length
    · obtain ⟨b, off, rfl, -, hc⟩ := hc.out (by omega)
      obtain ⟨c0, c1⟩ := hc k hlt
      have H1 := Lib.hid (fun h => partner_take l x k hlt h hw.out)
      clear hc
      by_cases h1 : l[k].1 = x
      · have g1 := ibeqT h1
        have H2 : Hid (l.find? (fun p => p.1 == x) = some l[k]) := by
          have e : l = l.take k ++ l[k] :: l.drop (k + 1) := by simp
          have hw := hw.out
          generalize l[k] = y at *
          unfold Hid
          rw [e, List.find?_append, hw]
          simp [g1]
        clear h1 hw
        go_wp2
        go_ret
        exact ⟨by rw [partnerP, H2.out]; rfl, rfl⟩
      · have g1 := ibeqF h1
        have H2 : Hid (l[k].1 ≠ x) := h1
        clear h1
        go_wp2
        go_round
        case rel => exact ⟨k + 1, by omega, by go_num, H1.out H2.out⟩
        case measure => simp [intOf]; omega
    · go_wp2
      go_ret
      have := hw.out
      rw [List.take_of_length_le (by omega)] at this
      exact ⟨by rw [partnerP, this]; rfl, rfl⟩

set_option maxHeartbeats 400000 in
theorem narrow_any (h : Hp) (w : World) (hi : Imm h w) (v : Value) (l : List NodeP) (hv : Nds h v l) :
    Calls Try.prog 30 #[v] w fun e w' => e = .returned (.bool (decide (l.length ≤ 262144) && l.all fun n => decide (n.kids.length ≤ 400))) ∧ Below w.heap.size w w' := by
  obtain ⟨a, cap, rfl, hn, hc⟩ := hv.open
  replace hc := Lib.hid (fun w' hi => hc w' hi)
  clear hv
  by_cases hl : 262144 < l.length
  · go_enter Try.func30, Try.ntmps30
    go_wp2
    go_ret
    exact ⟨by simp; omega, Below.refl _ _⟩
  have hl2 : l.length ≤ 262144 := by omega
  go_enter Try.func30, Try.ntmps30
  go_wp2
  go_loopw [2, 4, 10, 11, 12, 13, 14, 15, 16, 17, 18] (fun _ _ i _ _ _ _ _ _ _ _ wr => ∃ k : Nat, k ≤ l.length ∧ i = .int .i64 k ∧ Hid ((l.take k).all (fun n => decide (n.kids.length ≤ 400)) = true) ∧ Below w.heap.size w wr) (fun _ _ i _ _ _ _ _ _ _ _ _ => l.length - (intOf i).toNat)
  case atStart => exact ⟨0, Nat.zero_le _, rfl, rfl, Below.refl _ _⟩
  case round =>
    obtain ⟨k, hk, rfl, hw, hB⟩ := hrel
    by_cases hlt : k < l.length
    · obtain ⟨b, off, ak, ck, rfl, -, c0, c1, c2, c3, c4, hk3, -⟩ := hc.out wr (hi.below hB) k hlt
      have hkl := hk3.1.len.1
      have Hx : Hid (l.take (k + 1) = l.take k ++ [l[k]]) := by unfold Hid; rw [List.take_add_one, List.getElem?_eq_getElem hlt]; rfl
      have Hm : Hid (l[k] ∈ l) := by unfold Hid; simp
      clear hk3
      by_cases h1 : 400 < l[k].kids.length
      · go_wp2
        go_ret
        refine ⟨?_, (hB.alloc hB.size _)⟩
        have : (l.all fun n => decide (n.kids.length ≤ 400)) = false := by rw [List.all_eq_false]; exact ⟨_, Hm.out, by simpa using h1⟩
        rw [this]; simp
      · go_wp2
        go_roundw
        case rel => exact ⟨k + 1, by omega, by go_num, by unfold Hid; rw [Hx.out, List.all_append, hw.out]; simp; omega, (hB.alloc hB.size _)⟩
        case measure => simp [intOf]; omega
    · go_wp2
      go_ret
      have := hw.out
      rw [List.take_of_length_le (by omega)] at this
      exact ⟨by rw [this]; simp [hl2], hB⟩
end Go.Proofs.Ytfifbadepebpeaa

/- Sizes of trees; comparisons of pairs; small functions. -/
namespace Go.Proofs.Ytfifbadepebpeaa
open Go.RowKit


set_option maxHeartbeats 1000000 in
theorem tsize_any (n : Nat) : ∀ (h : Hp) (w : World) (_ : Imm h w) (v : Value) (t : Tree) (_ : TreeV h v t) (_ : t.size ≤ n) (_ : t.size ≤ 1000000000),
    Calls Try.prog 50 #[v] w fun e w' => e = .returned (.int .i64 t.size) ∧ Below w.heap.size w w' := by
  induction n with
  | zero => intro h w hi v t ht hn; cases t; simp [Tree.size] at hn
  | succ n ih =>
    intro h w hi v t ht hn hn2
    obtain ⟨al, cl, ak, ck, xs, rfl, hk, hll, hkl, hs1, hs2, he⟩ := ht.open
    have hz := Tree.size_eq t
    have Hz := Lib.hid hz
    rw [hz] at hn hn2
    have IH := Lib.hid ih
    clear ih ht hz
    go_enter Try.func50, Try.ntmps50
    go_wp2
    go_loopw [3, 5, 9, 10, 11, 12, 13, 14, 15, 16, 17] (fun c _ i _ _ _ _ _ _ _ _ wr => ∃ j : Nat, j ≤ t.kids.length ∧ i = .int .i64 j ∧ c = .int .i64 (1 + sizes (t.kids.take j)) ∧ Below w.heap.size w wr) (fun _ _ i _ _ _ _ _ _ _ _ _ => t.kids.length - (intOf i).toNat)
    case atStart => exact ⟨0, Nat.zero_le _, rfl, rfl, (Below.refl _ _).alloc (Nat.le_refl _) _⟩
    case round =>
      obtain ⟨j, hj, rfl, rfl, hB⟩ := hrel
      have hs1 := sizes_take_le t.kids j
      by_cases hlt : j < t.kids.length
      · have hi' := hi.below hB
        obtain ⟨b, off, al', cl', ak', ck', rfl, -, d0, d1, d2, d3, ht⟩ := trees_at hs2 he hi' j hlt
        have hs := Lib.hid (sizes_take t.kids j hlt)
        have hs2 := sizes_take_le t.kids (j + 1)
        rw [hs.out] at hs2
        go_wp2_with fail
        refine (IH.out h _ ?_ _ _ ht (by omega) (by omega)).mono ?_
        · exact hi'.alloc _
        · rintro e w1 ⟨rfl, hB1⟩
          go_wp2_with fail
          go_roundw
          case rel => exact ⟨j + 1, by omega, by go_num, by rw [hs.out]; go_num, (hB.alloc hB.size _).trans (hB1.mono (by have := hB.size; simp; omega))⟩
          case measure => simp [intOf]; omega
      · go_wp2_with fail
        go_ret
        have : t.kids.take j = t.kids := List.take_of_length_le (by omega)
        exact ⟨by rw [Hz.out, this]; simp; omega, hB⟩

set_option maxHeartbeats 1000000 in
theorem rsize_any (n : Nat) : ∀ (h : Hp) (w : World) (_ : Imm h w) (v : Value) (t : Tree) (_ : TreeV h v t) (_ : t.size ≤ n) (_ : t.size ≤ 1000000000),
    Calls Try.prog 22 #[v] w fun e w' => e = .returned (.int .i64 t.size) ∧ Below w.heap.size w w' := by
  induction n with
  | zero => intro h w hi v t ht hn; cases t; simp [Tree.size] at hn
  | succ n ih =>
    intro h w hi v t ht hn hn2
    obtain ⟨al, cl, ak, ck, xs, rfl, hk, hll, hkl, hs1, hs2, he⟩ := ht.open
    have hz := Tree.size_eq t
    have Hz := Lib.hid hz
    rw [hz] at hn hn2
    have IH := Lib.hid ih
    clear ih ht hz
    go_enter Try.func22, Try.ntmps22
    go_wp2
    go_loopw [3, 4, 5, 6, 7, 8, 9, 10, 11, 12, 13, 14, 15, 16, 17, 18, 19] (fun c i _ _ _ _ _ _ _ _ _ _ _ _ _ _ _ wr => ∃ j : Nat, j ≤ t.kids.length ∧ i = .int .i64 j ∧ c = .int .i64 (1 + sizes (t.kids.take j)) ∧ Below (w.heap.size + 1) (w.alloc (Obj.cells #[.int .i64 t.kind, .string t.text, .slice al t.leads.length cl, .slice ak t.kids.length ck] 25)) wr) (fun _ i _ _ _ _ _ _ _ _ _ _ _ _ _ _ _ _ => t.kids.length - (intOf i).toNat)
    case atStart => exact ⟨0, Nat.zero_le _, rfl, rfl, Below.refl _ _⟩
    case round =>
      obtain ⟨j, hj, rfl, rfl, hB⟩ := hrel
      have hs1 := sizes_take_le t.kids j
      have hbox : wr.cell? ⟨w.heap.size, 3, none⟩ = some (.slice ak t.kids.length ck) := by
        rw [hB.cell (by simp)]; simp
      have hB0 : Below w.heap.size w wr := ((Below.refl w.heap.size w).alloc (Nat.le_refl _) _).trans (hB.mono (by omega))
      by_cases hlt : j < t.kids.length
      · have hi' := hi.below hB0
        obtain ⟨b, off, al', cl', ak', ck', rfl, -, d0, d1, d2, d3, ht⟩ := trees_at hs2 he hi' j hlt
        have hs := Lib.hid (sizes_take t.kids j hlt)
        have hs2 := sizes_take_le t.kids (j + 1)
        rw [hs.out] at hs2
        have HB := Lib.hid hB
        clear hB
        go_wp2_with fail
        refine (IH.out h _ hi' _ _ ht (by omega) (by omega)).mono ?_
        rintro e w1 ⟨rfl, hB1⟩
        go_wp2_with fail
        go_roundw
        case rel => exact ⟨j + 1, by omega, by go_num, by rw [hs.out]; go_num, HB.out.trans (hB1.mono (by have := HB.out.size; simpa using this))⟩
        case measure => simp [intOf]; omega
      · clear hB
        go_wp2_with fail
        go_ret
        have : t.kids.take j = t.kids := List.take_of_length_le (by omega)
        exact ⟨by rw [Hz.out, this]; simp; omega, hB0⟩

def differP (a b : ByteArray) : Int := if a = b then 0 else 1

theorem bytes_inj {a b : ByteArray} (h : a.toList = b.toList) : a = b := by
  rw [ByteArray.toList_eq, ByteArray.toList_eq] at h
  obtain ⟨⟨x⟩⟩ := a
  obtain ⟨⟨y⟩⟩ := b
  simp only at h
  rw [h]
theorem strT {a b : ByteArray} (h : a = b) : (a.toList == b.toList) = true := by simp [h]
theorem strF {a b : ByteArray} (h : a ≠ b) : (a.toList == b.toList) = false := by
  rw [beq_eq_false_iff_ne]; intro e; exact h (bytes_inj e)

set_option maxHeartbeats 400000 in
theorem differ_any (w : World) (k1 k2 p1 p2 s1 s2 : Int) (t1 t2 : ByteArray) (a1 a2 : Option Addr) (n1 n2 c1 c2 : Nat) :
    Calls Try.prog 55 #[.agg #[.int .i64 k1, .string t1, .int .i64 p1, .slice a1 n1 c1, .int .i64 s1], .agg #[.int .i64 k2, .string t2, .int .i64 p2, .slice a2 n2 c2, .int .i64 s2]] w
      fun e w' => e = .returned (.int .i64 (differP t1 t2)) ∧ Below w.heap.size w w' := by
  by_cases h : t1 = t2
  · have g := strT h
    have H := Lib.hid h
    clear h
    go_enter Try.func55, Try.ntmps55
    go_wp2
    go_ret
    exact ⟨by rw [differP, if_pos H.out]; rfl, ((Below.refl _ _).alloc (Nat.le_refl _) _).alloc (by simp) _⟩
  · have g := strF h
    have H : Hid (t1 ≠ t2) := h
    clear h
    go_enter Try.func55, Try.ntmps55
    go_wp2
    go_ret
    exact ⟨by rw [differP, if_neg H.out]; rfl, ((Below.refl _ _).alloc (Nat.le_refl _) _).alloc (by simp) _⟩

theorem isnan_any (w : World) (x : Int) : Calls Try.prog 86 #[.int .i64 x] w fun e w' => e = .returned (.bool false) ∧ w = w' := by
  have g : (x != x) = false := by simp
  go_enter Try.func86, Try.ntmps86
  go_wp2
  go_ret
  exact ⟨rfl, rfl⟩

def cmpP (x y : Int) : Int := if x < y then -1 else if y < x then 1 else 0
set_option maxHeartbeats 400000 in
theorem cmpcompare_any (w : World) (x y : Int) : Calls Try.prog 67 #[.int .i64 x, .int .i64 y] w fun e w' => e = .returned (.int .i64 (cmpP x y)) ∧ w = w' := by
  by_cases h1 : x < y
  · go_enter Try.func67, Try.ntmps67
    go_wp2_with (go_at_call 86; refine (isnan_any _ _).mono ?_; rintro e w' ⟨rfl, rfl⟩)
    go_ret
    exact ⟨by rw [cmpP, if_pos h1]; rfl, rfl⟩
  · have h1' : y ≤ x := by omega
    by_cases h2 : y < x
    · go_enter Try.func67, Try.ntmps67
      go_wp2_with (go_at_call 86; refine (isnan_any _ _).mono ?_; rintro e w' ⟨rfl, rfl⟩)
      go_ret
      exact ⟨by rw [cmpP, if_neg (by omega), if_pos h2]; rfl, rfl⟩
    · have h2' : x ≤ y := by omega
      go_enter Try.func67, Try.ntmps67
      go_wp2_with (go_at_call 86; refine (isnan_any _ _).mono ?_; rintro e w' ⟨rfl, rfl⟩)
      go_ret
      exact ⟨by rw [cmpP, if_neg (by omega), if_neg (by omega)]; rfl, rfl⟩

def orP : List Int → Int
  | [] => 0
  | x :: l => if x = 0 then orP l else x
theorem orP_drop (l : List Int) (k : Nat) (hk : k < l.length) : orP (l.drop k) = if l[k] = 0 then orP (l.drop (k + 1)) else l[k] := by
  rw [List.drop_eq_getElem_cons hk, orP]

set_option maxHeartbeats 400000 in
theorem cmpor_any (w : World) (l : List Int) (b : Nat) (cap : Nat) (hl : l.length ≤ 140737488355328) (hc : ∀ k (hk : k < l.length), w.cell? ⟨b, k, none⟩ = some (.int .i64 l[k])) :
    Calls Try.prog 66 #[.slice (some ⟨b, 0, none⟩) l.length cap] w fun e w' => e = .returned (.int .i64 (orP l)) ∧ w = w' := by
  have HC := Lib.hid hc
  clear hc
  go_enter Try.func66, Try.ntmps66
  go_wp2
  go_loop [2, 5, 8, 9, 10, 11, 12, 13, 14, 15, 16] (fun _ _ i _ _ _ _ _ _ _ _ => ∃ k : Nat, k ≤ l.length ∧ i = .int .i64 k ∧ Hid (orP (l.drop k) = orP l)) (fun _ _ i _ _ _ _ _ _ _ _ => l.length - (intOf i).toNat)
  case atStart => exact ⟨0, Nat.zero_le _, rfl, rfl⟩
  case round =>
    obtain ⟨k, hk, rfl, hw⟩ := hrel
    by_cases hlt : k < l.length
    · have hcell := HC.out k hlt
      have H1 : Hid (orP l = if l[k] = 0 then orP (l.drop (k + 1)) else l[k]) := by unfold Hid; rw [← hw.out]; exact orP_drop l k hlt
      generalize l[k] = x at *
      by_cases h1 : x = 0
      · subst h1
        go_wp2
        go_round
        case rel => exact ⟨k + 1, by omega, by go_num, by unfold Hid; rw [H1.out]; simp⟩
        case measure => simp [intOf]; omega
      · have g := ibneT h1
        have H2 : Hid (x ≠ 0) := h1
        clear h1
        go_wp2
        go_ret
        exact ⟨by rw [H1.out, if_neg H2.out]; rfl, rfl⟩
    · go_wp2
      go_ret
      have := hw.out
      rw [List.drop_of_length_le (by omega)] at this
      exact ⟨by rw [← this]; rfl, rfl⟩

def orderP (p q : Int × Int) : Int := orP [cmpP p.1 q.1, cmpP p.2 q.2]

theorem cmpcompare_still (w : World) (x y : Int) : Calls Try.prog 67 #[.int .i64 x, .int .i64 y] w fun e w' => e = .returned (.int .i64 (cmpP x y)) ∧ w' = w :=
  (cmpcompare_any w x y).mono fun _ _ ⟨a, b⟩ => ⟨a, b.symm⟩

set_option maxRecDepth 100000 in
set_option maxHeartbeats 1000000 in
theorem order_any (w : World) (p q : Int × Int) :
    Calls Try.prog 52 #[.agg #[.int .i64 p.1, .int .i64 p.2], .agg #[.int .i64 q.1, .int .i64 q.2]] w
      fun e w' => e = .returned (.int .i64 (orderP p q)) ∧ ∃ n os, w' = Sort.grow (w.drewN n) os := by
  go_enter Try.func52, Try.ntmps52
  go_wp2_with fail
  refine wp_region_still_tail 10 (by kernel_rfl) (by kernel_rfl) ?_
  simp only [List.take_succ_cons, List.take_zero, List.drop_succ_cons, List.drop_zero]
  change wpStill _ _ (World.drew _) (fun a' => wpList _ _ _ _ a' (World.drew _)) _ _
  iterate 4 still_step
  still_call (cmpcompare_still _ _ _)
  iterate 4 still_step
  still_call (cmpcompare_still _ _ _)
  refine wpStill_nil ?_
  go_wp2_with fail
  refine (cmpor_any _ [cmpP p.1 q.1, cmpP p.2 q.2] _ _ (by simp) ?_).mono ?_
  · intro k hk
    match k, hk with
    | 0, _ => simp; rw [World.cell?_alloc_at _ _ _ _ (by simp)]; rfl
    | 1, _ => simp; rw [World.cell?_alloc_at _ _ _ _ (by simp)]; rfl
  rintro e w' ⟨rfl, rfl⟩
  go_wp2_with fail
  go_ret
  exact ⟨rfl, 1, _, by rw [Sort.alloc_eq_grow, Sort.alloc_eq_grow, Sort.alloc_eq_grow, Sort.grow_grow, Sort.grow_grow]; rfl⟩
end Go.Proofs.Ytfifbadepebpeaa

/- flatten. -/
namespace Go.Proofs.Ytfifbadepebpeaa
open Go.RowKit

structure Gath (w : World) (h : Hp) (B : Nat) (v : Value) (n : Nat) (xs : List Value) (l : List NodeP) (w' : World) (h' : Hp) (v' : Value) (news : List Value) : Prop where
  imm : Imm h' w'
  le : h.le h'
  old : ∀ b, b < w.heap.size → h' b = h b
  grown : w.grownBy w' v.ownBlock
  own : Ow w' h' B 65 5 v' (n + l.length) (xs ++ news)
  enc : EncL (EncNode h') l news
  blk : v'.ownBlock = v.ownBlock ∨ ∃ g, v'.ownBlock = some g ∧ w.heap.size ≤ g

theorem Gath.keeps {w : World} {h : Hp} {B : Nat} {n cap : Nat} {xs : List Value} {l : List NodeP} {w' : World} {h' : Hp} {v' : Value} {news : List Value} {b : Nat} {Z : Obj}
    (G : Gath (w.alloc Z) h B (.slice (some ⟨w.heap.size, 0, none⟩) n cap) n xs l w' h' v' news) (hb : b + 1 ≤ w.heap.size) (i : Nat) : w'.cell? ⟨b, i, none⟩ = w.cell? ⟨b, i, none⟩ := by
  rw [World.cell?_of_block (a := ⟨b, i, none⟩) (G.grown.block b (by simp; omega) (fun e => by simp [Value.ownBlock] at e; omega)), World.cell?_alloc_past _ _ _ (by show b < _; omega)]

structure GLoop (w : World) (h : Hp) (B : Nat) (vl : Value) (n : Nat) (xs : List Value) (t : Tree) (parent : Int) (j : Nat) (wr : World) (vj : Value) (hj : Hp) (vk : Value) (news : List Value) : Prop where
  imm : Imm hj wr
  le : h.le hj
  old : ∀ b, b < w.heap.size → hj b = h b
  grown : w.grownBy wr vl.ownBlock
  own : Ow wr hj B 65 5 vj (n + 1 + sizes (t.kids.take j)) (xs ++ ([.int .i64 t.kind, .string t.text, .int .i64 parent, vk, .int .i64 0] ++ news))
  enc : EncL (EncNode hj) (flatKids (t.kids.take j) n (n + 1)) news
  kids : Ow wr hj w.heap.size 3 1 vk j ((kidNums (t.kids.take j) (n + 1)).map (Value.int .i64))
  apart : ∀ g, vk.ownBlock = some g → vj.ownBlock ≠ some g
  blk : vj.ownBlock = vl.ownBlock ∨ ∃ g, vj.ownBlock = some g ∧ w.heap.size ≤ g

theorem set_mid (xs ys _zs : List Value) (a b c d e u : Value) (n : Nat) (hn : xs.length = n * 5) : (xs ++ ([a, b, c, d, e] ++ ys)).set (n * 5 + 3) u = xs ++ ([a, b, c, u, e] ++ ys) := by
  rw [List.set_append_right _ _ (by omega), show n * 5 + 3 - xs.length = 3 by omega]; rfl
theorem set_mid4 (xs ys _zs : List Value) (a b c d e u : Value) (n : Nat) (hn : xs.length = n * 5) : (xs ++ ([a, b, c, d, e] ++ ys)).set (n * 5 + 4) u = xs ++ ([a, b, c, d, u] ++ ys) := by
  rw [List.set_append_right _ _ (by omega), show n * 5 + 4 - xs.length = 4 by omega]; rfl
theorem get_mid (xs ys : List Value) (a b c d e : Value) (n : Nat) (hn : xs.length = n * 5) : (xs ++ ([a, b, c, d, e] ++ ys))[n * 5 + 3]? = some d ∧ (xs ++ ([a, b, c, d, e] ++ ys))[n * 5 + 4]? = some e := by
  constructor
  · rw [List.getElem?_append_right (by omega), show n * 5 + 3 - xs.length = 3 by omega]; rfl
  · rw [List.getElem?_append_right (by omega), show n * 5 + 4 - xs.length = 4 by omega]; rfl

theorem gather_start {w : World} {h : Hp} {B : Nat} {a0 : Option Addr} {n c0 : Nat} {xs : List Value} {t : Tree} {parent : Int} {al ak : Option Addr} {cl ck : Nat} {Y : Obj} {w1 : World} {v1 : Value}
    (_hi : Imm h w) (hown : Ow w h B 65 5 (.slice a0 n c0) n xs)
    (own1 : Ow w1 h B 65 5 v1 (n + 1) (xs ++ [.int .i64 t.kind, .string t.text, .int .i64 parent, .slice none 0 0, .int .i64 0]))
    (gr1 : ((w.alloc (.cells #[.int .i64 t.kind, .string t.text, .slice al t.leads.length cl, .slice ak t.kids.length ck] 25)).alloc Y).grownBy w1 (Value.slice a0 n c0).ownBlock)
    (bk1 : v1.ownBlock = (Value.slice a0 n c0).ownBlock ∨ v1.ownBlock = some ((w.alloc (.cells #[.int .i64 t.kind, .string t.text, .slice al t.leads.length cl, .slice ak t.kids.length ck] 25)).alloc Y).heap.size)
    (st1 : Imm h w1) :
    ∃ g1 c1, v1 = .slice (some ⟨g1, 0, none⟩) (n + 1) c1 ∧ Hid (GLoop w h B (.slice a0 n c0) n xs t parent 0 w1 (.slice (some ⟨g1, 0, none⟩) (n + 1) c1) h (.slice none 0 0) []) ∧ w1.cell? ⟨w.heap.size, 3, none⟩ = some (.slice ak t.kids.length ck) := by
  obtain ⟨a1, c1, rfl⟩ := own1.shape
  obtain ⟨g1, rfl, hg⟩ := own1.cell (by omega)
  have hrow : ∀ k, (Value.slice a0 n c0).ownBlock = some k → k < w.heap.size := fun k hk => (hown.lt k hk).2
  refine ⟨g1, c1, rfl, ?_, ?_⟩
  · refine ⟨st1, Hp.le_refl _, fun _ _ => rfl, ?_, ?_, ?_, ?_, ?_, ?_⟩
    · exact grown_step (grown_alloc (grown_alloc (World.grownBy.refl _ _) _) _) gr1 (fun k hk => .inl hk)
    · have : sizes (t.kids.take 0) = 0 := by simp [sizes]
      rw [this]; simpa using own1
    · simp [flatKids, EncL]
    · simpa [kidNums] using Ow.nil w1 h w.heap.size 3 1
    · intro g hg; simp [Value.ownBlock] at hg
    · rcases bk1 with h1 | h1
      · exact .inl h1
      · exact .inr ⟨_, h1, by simp; omega⟩
  · have := World.cell?_of_block (a := ⟨w.heap.size, 3, none⟩) (gr1.block w.heap.size (by simp; omega) (fun e => by have := hrow _ e.symm; omega))
    rw [this, World.cell?_alloc_past _ _ _ (by simp), World.cell?_alloc_at _ _ _ _ rfl]; rfl

theorem GLoop.mid {w : World} {h : Hp} {B : Nat} {vl : Value} {n : Nat} {xs : List Value} {t : Tree} {parent : Int} {j : Nat} {wr : World} {hj : Hp} {vk : Value} {news : List Value} {g cap : Nat}
    (G : GLoop w h B vl n xs t parent j wr (.slice (some ⟨g, 0, none⟩) (n + 1 + sizes (t.kids.take j)) cap) hj vk news) (hxs : xs.length = n * 5) {X Y : Obj} {w2 : World} (g2 : ((wr.alloc X).alloc Y).grownBy w2 vk.ownBlock) :
    Ow w2 hj B 65 5 (.slice (some ⟨g, 0, none⟩) (n + 1 + sizes (t.kids.take j)) cap) (n + 1 + sizes (t.kids.take j)) (xs ++ ([.int .i64 t.kind, .string t.text, .int .i64 parent, vk, .int .i64 0] ++ news)) ∧
    w2.cell? ⟨g, n * 5 + 3, none⟩ = some vk ∧ w2.frozen? ⟨g, n * 5 + 3, none⟩ = false := by
  have o := ((G.own.alloc X).alloc Y).grown g2 (fun g' hg' e => G.apart g' e hg')
  obtain ⟨g', hg', _, _, _, hcl, hfz⟩ := o.cell (by omega)
  obtain rfl : g = g' := by simpa using hg'
  exact ⟨o, hcl _ _ (get_mid xs news _ _ _ vk _ n hxs).1, hfz _⟩

theorem GLoop.step {w : World} {h : Hp} {B : Nat} {vl : Value} {n : Nat} {xs : List Value} {t : Tree} {parent : Int} {j : Nat} {wr : World} {hj : Hp} {vk : Value} {news : List Value} {g cap : Nat}
    (hxs : xs.length = n * 5) (_hlv : ∀ k, vl.ownBlock = some k → k < w.heap.size)
    (G : GLoop w h B vl n xs t parent j wr (.slice (some ⟨g, 0, none⟩) (n + 1 + sizes (t.kids.take j)) cap) hj vk news) (hlt : j < t.kids.length) (X Y : Obj)
    {w2 : World} {vk' : Value} (o2 : Ow w2 hj w.heap.size 3 1 vk' (j + 1) ((kidNums (t.kids.take j) (n + 1)).map (Value.int .i64) ++ [.int .i64 ((n + 1 + sizes (t.kids.take j) : Nat) : Int)]))
    (g2 : ((wr.alloc X).alloc Y).grownBy w2 vk.ownBlock) (i2 : Imm hj w2) (b2 : vk'.ownBlock = vk.ownBlock ∨ vk'.ownBlock = some ((wr.alloc X).alloc Y).heap.size)
    : Imm hj (w2.setCell ⟨g, n * 5 + 3, none⟩ vk') ∧ B ≤ (w2.setCell ⟨g, n * 5 + 3, none⟩ vk').heap.size ∧
      Ow (w2.setCell ⟨g, n * 5 + 3, none⟩ vk') hj B 65 5 (.slice (some ⟨g, 0, none⟩) (n + 1 + sizes (t.kids.take j)) cap) (n + 1 + sizes (t.kids.take j)) (xs ++ ([.int .i64 t.kind, .string t.text, .int .i64 parent, vk', .int .i64 0] ++ news)) ∧
      ∀ w4 h4 v4 news4, Gath (w2.setCell ⟨g, n * 5 + 3, none⟩ vk') hj B (.slice (some ⟨g, 0, none⟩) (n + 1 + sizes (t.kids.take j)) cap) (n + 1 + sizes (t.kids.take j)) (xs ++ ([.int .i64 t.kind, .string t.text, .int .i64 parent, vk', .int .i64 0] ++ news)) (flatAt t.kids[j] n (n + 1 + sizes (t.kids.take j))) w4 h4 v4 news4 →
        GLoop w h B vl n xs t parent (j + 1) w4 v4 h4 vk' (news ++ news4) := by
  obtain ⟨om, -, -⟩ := G.mid hxs g2
  have hgl := om.lt g rfl
  have hgf := om.free g rfl
  have hk' : ∀ g', vk'.ownBlock = some g' → g' ≠ g := by
    intro g' hg' e
    subst e
    rcases b2 with b | b
    · exact G.apart g' (by rw [← b, hg']) rfl
    · rw [b] at hg'
      have := (G.own.lt g' rfl).2
      simp at hg'; omega
  have ow3 := om.set (n * 5 + 3) vk' (by omega)
  rw [set_mid xs news [] _ _ _ _ _ _ n hxs] at ow3
  have hgw : w.grownBy w2 vl.ownBlock := grown_step (grown_alloc (grown_alloc G.grown X) Y) g2 (fun k hk => .inr (by have := (G.kids.lt k hk).1; omega))
  refine ⟨i2.keep fun b c hc => Below.heap_setCell _ _ _ _ (fun e => by subst e; rw [hgf] at hc; cases hc), by simp only [World.setCell, Array.size_modify]; omega, ow3, ?_⟩
  intro w4 h4 v4 news4 H
  have hgs : w.heap.size ≤ w2.heap.size := hgw.size
  have hset : (w2.setCell ⟨g, n * 5 + 3, none⟩ vk').heap.size = w2.heap.size := by simp [World.setCell]
  have hrow : vl.ownBlock = some g ∨ w.heap.size ≤ g := by
    rcases G.blk with b | ⟨g', b, hb⟩
    · exact .inl b.symm
    · simp only [Value.ownBlock, Option.some.injEq] at b; subst b; exact .inr hb
  have hfl : (flatAt t.kids[j] n (n + 1 + sizes (t.kids.take j))).length = t.kids[j].size := flatAt_length _ _ _
  refine ⟨H.imm, Hp.le_trans G.le H.le, fun b hb => (H.old b (by omega)).trans (G.old b hb), ?_, ?_, ?_, ?_, ?_, ?_⟩
  · exact grown_step (grown_set hgw hrow _) H.grown (fun k hk => by
      simp only [Value.ownBlock, Option.some.injEq] at hk; subst hk; exact hrow)
  · have := H.own
    rw [hfl] at this
    rw [sizes_take t.kids j hlt, ← Nat.add_assoc]
    simpa only [List.append_assoc] using this
  · rw [flatKids_take t.kids n (n + 1) j hlt]
    exact (G.enc.mono fun _ _ r => r.mono H.le).append H.enc
  · rw [kidNums_take t.kids (n + 1) j hlt, List.map_append]
    refine o2.keep (fun k hk => ?_) (fun k hk => H.old k (by have := (o2.lt k hk).2; omega))
    rw [H.grown.block k (by have := (o2.lt k hk).2; omega) (fun e => hk' k hk (by simpa [Value.ownBlock] using e)), Below.heap_setCell _ _ _ _ (hk' k hk)]
  · intro k hk e
    rcases H.blk with b | ⟨g', b, hb⟩
    · rw [b] at e; simp only [Value.ownBlock, Option.some.injEq] at e; exact hk' k hk e.symm
    · rw [b] at e; simp only [Option.some.injEq] at e; subst e; have := (o2.lt g' hk).2; omega
  · rcases H.blk with b | ⟨g', b, hb⟩
    · rw [b]; rcases hrow with r | r
      · exact .inl r.symm
      · exact .inr ⟨g, rfl, r⟩
    · exact .inr ⟨g', b, by omega⟩

theorem GLoop.done {w : World} {h : Hp} {B : Nat} {vl : Value} {n : Nat} {xs : List Value} {t : Tree} {parent : Int} {wr : World} {hj : Hp} {vk : Value} {news : List Value} {g cap : Nat}
    (hxs : xs.length = n * 5) (hk : I64 t.kind) (hp : I64 parent) (hbd : n + (sizes t.kids + 1) ≤ 1000000000)
    (G : GLoop w h B vl n xs t parent t.kids.length wr (.slice (some ⟨g, 0, none⟩) (n + 1 + sizes (t.kids.take t.kids.length)) cap) hj vk news) (z : Int) (hz : z = (t.size : Int)) :
    ∃ h' news', Gath w h B vl n xs (flatAt t parent n) (wr.setCell ⟨g, n * 5 + 4, none⟩ (.int .i64 z)) h' (.slice (some ⟨g, 0, none⟩) (n + 1 + sizes (t.kids.take t.kids.length)) cap) news' := by
  subst hz
  have hts := t.size_eq
  have hks := length_le_sizes t.kids
  have htk : t.kids.take t.kids.length = t.kids := List.take_of_length_le (Nat.le_refl _)
  have hgf := G.own.free g rfl
  have ow3 := G.own.set (n * 5 + 4) (.int .i64 (t.size : Int)) (by omega)
  rw [set_mid4 xs news [] _ _ _ _ _ _ n hxs] at ow3
  have hrow : vl.ownBlock = some g ∨ w.heap.size ≤ g := by
    rcases G.blk with b | ⟨g', b, hb⟩
    · exact .inl b.symm
    · simp only [Value.ownBlock, Option.some.injEq] at b; subst b; exact .inr hb
  have hi5 : Imm hj (wr.setCell ⟨g, n * 5 + 4, none⟩ (.int .i64 (t.size : Int))) := G.imm.keep fun b c hc => Below.heap_setCell _ _ _ _ (fun e => by subst e; rw [hgf] at hc; cases hc)
  have ok5 := G.kids.setCell (p := ⟨g, n * 5 + 4, none⟩) (fun e => G.apart g e rfl) (.int .i64 (t.size : Int))
  obtain ⟨h', i1, i2, i3, i4⟩ := ok5.giveUp hi5 (by omega)
  have hvk := G.kids.shape
  obtain ⟨ak, ck, rfl⟩ := hvk
  have hkl : (kidNums t.kids (n + 1)).length = t.kids.length := kidNums_length _ _
  refine ⟨h', [.int .i64 t.kind, .string t.text, .int .i64 parent, .slice ak t.kids.length ck, .int .i64 (t.size : Int)] ++ news, i1, Hp.le_trans G.le i2, ?_, ?_, ?_, ?_, ?_⟩
  · intro b hb
    rw [i3 b (fun g' hg' e => by have := (G.kids.lt g' hg').1; omega)]
    exact G.old b hb
  · exact grown_set G.grown hrow _
  · have e : n + (flatAt t parent n).length = n + 1 + sizes (t.kids.take t.kids.length) := by rw [flatAt_length, htk]; omega
    rw [e]
    refine ow3.keep (fun _ _ => rfl) (fun g' hg' => i3 g' (fun k hk e => ?_))
    subst e
    exact G.apart _ hk hg'
  · rw [flatAt_eq]
    refine ⟨[.int .i64 t.kind, .string t.text, .int .i64 parent, .slice ak t.kids.length ck, .int .i64 (t.size : Int)], news, rfl, ⟨ak, ck, by simp [hkl], hk, hp, ?_, ?_, ?_⟩, ?_⟩
    · unfold I64; simp only; omega
    · have : Sl h' (.slice ak t.kids.length ck) t.kids.length 1 ((kidNums t.kids (n + 1)).map (Value.int .i64)) := by rw [htk] at i4; exact i4
      simp only [hkl]; exact this
    · intro x hx
      have := kidNums_mem _ _ _ hx
      unfold I64; omega
    · have := G.enc
      rw [htk] at this
      exact this.mono fun _ _ r => r.mono i2
  · exact G.blk

set_option maxRecDepth 100000 in
set_option maxHeartbeats 2000000 in
theorem gather_any (m : Nat) : ∀ (t : Tree) (_ : t.size ≤ m) (h : Hp) (w : World) (_ : Imm h w) (B : Nat) (_ : B ≤ w.heap.size) (v : Value) (_ : TreeV h v t) (parent : Int) (_ : I64 parent) (vl : Value) (n : Nat) (xs : List Value) (_ : Ow w h B 65 5 vl n xs) (_ : n + t.size ≤ 1000000000),
    Calls Try.prog 49 #[v, .int .i64 parent, vl] w fun e w' => ∃ v' h' news, e = .returned v' ∧ Gath w h B vl n xs (flatAt t parent n) w' h' v' news := by
  induction m with
  | zero => intro t hn; have := t.size_eq; omega
  | succ m ih =>
    intro t htm h w hi B hB v ht parent hp vl n xs hown hbd
    obtain ⟨al, cl, ak, ck, ys, rfl, hk, hll, hkl, hs1, hs2, he⟩ := ht.open
    have hz := Tree.size_eq t
    have Hz := Lib.hid hz
    have hkz := length_le_sizes t.kids
    rw [hz] at htm hbd
    have IH := Lib.hid ih
    have HI := Lib.hid hi
    have HS := Lib.hid hs2
    have HE := Lib.hid he
    obtain ⟨a0, c0, rfl⟩ := hown.shape
    have Hown := Lib.hid hown
    clear ih ht hz hi hs2 hs1 he hown
    go_enter Try.func49, Try.ntmps49
    go_wp2_with (at_builtin; refine wpList_app el_nodes rfl _ _ rfl (((St.refl' HI.out hB).alloc _).alloc _) _ n xs rfl ((Hown.out.alloc _).alloc _) ⟨_, 0, none⟩ 1 1 [.int .i64 t.kind, .string t.text, .int .i64 parent, .slice none 0 0, .int .i64 0] rfl rfl (new_cells _ _ _ _ (by simp)) (one_cells _ rfl) (by omega) ?_; intro v1 w1 st1 own1 gr1 bk1; obtain ⟨g1, c1, rfl, GL, ht3⟩ := gather_start HI.out Hown.out own1 gr1 bk1 st1.imm; clear st1 own1 gr1 bk1)
    have hxs : Hid (xs.length = n * 5) := Hown.out.len
    go_loopw [2, 9, 24, 25, 26, 27, 28, 29, 30, 31, 32, 33, 34, 35, 36, 37, 38, 39, 40, 41, 42, 43, 44, 45] (fun v _ i _ _ _ _ _ _ _ _ _ _ _ _ _ _ _ _ _ _ _ _ _ wr => ∃ (j : Nat) (cap g : Nat) (hj : Hp) (vk : Value) (news : List Value), j ≤ t.kids.length ∧ i = .int .i64 j ∧ v = .slice (some ⟨g, 0, none⟩) (n + 1 + sizes (t.kids.take j)) cap ∧ GLoop w h B (.slice a0 n c0) n xs t parent j wr (.slice (some ⟨g, 0, none⟩) (n + 1 + sizes (t.kids.take j)) cap) hj vk news) (fun _ _ i _ _ _ _ _ _ _ _ _ _ _ _ _ _ _ _ _ _ _ _ _ _ => t.kids.length - (intOf i).toNat)
    case atStart => exact ⟨0, _, _, _, _, _, Nat.zero_le _, rfl, rfl, GL.out⟩
    case round =>
      obtain ⟨j, cap, g, hj, vk, news, hjl, rfl, rfl, G⟩ := hrel
      have hs1 := sizes_take_le t.kids j
      by_cases hlt : j < t.kids.length
      · obtain ⟨b, off, al', cl', ak', ck', rfl, hbw, d0, d1, d2, d3, ht⟩ := trees_at (HS.out.mono G.le) (HE.out.mono fun _ _ r => r.mono G.le) G.imm j hlt
        obtain ⟨g', hg', hBg, hgw, hgf, hcl, hfz⟩ := G.own.cell (by omega)
        obtain rfl : g = g' := by simpa using hg'
        have dk := hcl _ _ (get_mid xs news _ _ _ vk _ n hxs.out).1
        obtain ⟨avk, cvk, rfl⟩ := G.kids.shape
        have G' := Lib.hid G
        have hs := Lib.hid (sizes_take t.kids j hlt)
        have hs2 := sizes_take_le t.kids (j + 1)
        rw [hs.out] at hs2
        clear hcl hfz hg' G
        go_wp2_with (at_builtin; refine wpList_app el_ints rfl _ _ rfl (St.refl' (B := w.heap.size) ((G'.out.imm.alloc _).alloc _) (by have := G'.out.grown.size; simp; omega)) _ j _ rfl ((G'.out.kids.alloc _).alloc _) ⟨_, 0, none⟩ 1 1 [.int .i64 ((n + 1 + sizes (t.kids.take j) : Nat) : Int)] rfl rfl (new_cells _ _ _ _ (by simp)) (one_cells _ rfl) (by omega) ?_; intro v2 w2 st2 own2 gr2 bk2; obtain ⟨av2, cv2, rfl⟩ := own2.shape; obtain ⟨-, e1, e2⟩ := G'.out.mid hxs.out gr2; have x0 := box_kept gr2 (fun k hk => (G'.out.kids.lt k hk).2) 0; have x1 := box_kept gr2 (fun k hk => (G'.out.kids.lt k hk).2) 1; have x2 := box_kept gr2 (fun k hk => (G'.out.kids.lt k hk).2) 2; have x3 := box_kept gr2 (fun k hk => (G'.out.kids.lt k hk).2) 3; have GS := Lib.hid (G'.out.step hxs.out (fun k hk => (Hown.out.lt k hk).2) hlt _ _ own2 gr2 st2.imm bk2); clear st2 own2 gr2 bk2)
        obtain ⟨q1, q2, q3, q4⟩ := GS.out
        refine (IH.out t.kids[j] (by omega) hj _ q1 B q2 _ ht n (by unfold I64; omega) _ _ _ q3 (by omega)).mono ?_
        rintro e w4 ⟨v4, h4, news4, rfl, H⟩
        have G2 := q4 w4 h4 v4 news4 H
        obtain ⟨a4, c4, rfl⟩ := G2.own.shape
        obtain ⟨g4, rfl, -⟩ := G2.own.cell (by omega)
        have G2 := Lib.hid G2
        clear q1 q2 q3 q4 H GS
        go_wp2_with fail
        go_roundw
        case rel => exact ⟨j + 1, c4, g4, h4, _, news ++ news4, by omega, by go_num, rfl, G2.out⟩
        case measure => simp [intOf]; omega
      · obtain rfl : j = t.kids.length := by omega
        obtain ⟨g', hg', hBg, hgw, hgf, hcl, hfz⟩ := G.own.cell (by omega)
        obtain rfl : g = g' := by simpa using hg'
        have dk := hcl _ _ (get_mid xs news _ _ _ vk _ n hxs.out).2
        have fk := hfz (n * 5 + 4)
        have G' := Lib.hid G
        have htk : Hid (sizes (t.kids.take t.kids.length) = sizes t.kids) := by unfold Hid; rw [List.take_of_length_le (Nat.le_refl _)]
        clear hcl hfz hg' G
        go_wp2_with fail
        go_ret
        obtain ⟨h', news', D⟩ := GLoop.done hxs.out hk hp hbd G'.out ((n : Int) + 1 + (sizes t.kids : Int) - n) (by rw [Hz.out]; omega)
        exact ⟨_, h', news', rfl, D⟩

set_option maxRecDepth 100000 in
set_option maxHeartbeats 1000000 in
theorem flatten_any (h : Hp) (w : World) (hi : Imm h w) (v : Value) (t : Tree) (ht : TreeV h v t) (hn : t.size ≤ 1000000000) :
    Calls Try.prog 29 #[v] w fun e w' => ∃ v' h', e = .returned v' ∧ St w.heap.size h w h' w' ∧ Nds h' v' (flatP t) := by
  have HT := Lib.hid ht
  have HI := Lib.hid hi
  obtain ⟨al, cl, ak, ck, ys, rfl, hk, hll, hkl, hs1, hs2, he⟩ := ht.open
  clear ht hs1 hs2 he hi
  have hmk : ∀ W : World, (Instr.makeSlice 62 (.int .i64 0) (.int .i64 (t.size : Int))).run Try.prog W = .ok (.slice (some ⟨W.heap.size, 0, none⟩) 0 t.size) (W.alloc (.cells (madeCells #[.int .i64 0, .string ⟨#[]⟩, .int .i64 0, .slice none 0 0, .int .i64 0] (t.size * 5)) 65)) := fun W => by
    obtain ⟨i, zv, h1, h2, h3, h4, h5⟩ := el_nodes.info
    have := run_make W 62 65 i zv el_nodes.und h1 h2 .i64 .i64 0 (t.size : Int) (by omega) (by omega) (by rw [h4]; omega) (by omega)
    simpa [h3, h5] using this
  go_enter Try.func29, Try.ntmps29
  go_wp2_with fail
  have hmx : t.size ≤ maxLen := by simp only [maxLen]; omega
  go_region_held3 (fun w' => w'.cell? ⟨w.heap.size, 0, none⟩ = some (.int .i64 t.kind) ∧ w'.cell? ⟨w.heap.size, 1, none⟩ = some (.string t.text) ∧ w'.cell? ⟨w.heap.size, 2, none⟩ = some (.slice al t.leads.length cl) ∧ w'.cell? ⟨w.heap.size, 3, none⟩ = some (.slice ak t.kids.length ck)) (first | go_keep | exact ⟨x0, x1, x2, x3⟩ | exact ⟨(kp.out 0).trans x0, (kp.out 1).trans x1, (kp.out 2).trans x2, (kp.out 3).trans x3⟩) (first | (go_at_call 50; refine (tsize_any t.size h _ (by exact (HI.out.alloc _).drew) _ t HT.out (Nat.le_refl _) hn).mono ?_; rintro e w1 ⟨rfl, hb1⟩; have i1 := Lib.hid ((HI.out.alloc _).drew.below hb1); have z1 : w.heap.size + 1 ≤ w1.heap.size := (by have := hb1.size; simpa using this); have k1 : Hid (Below (w.heap.size + 1) (w.alloc (Obj.cells #[.int .i64 t.kind, .string t.text, .slice al t.leads.length cl, .slice ak t.kids.length ck] 25)) w1) := (by have := (Below.refl (w.heap.size + 1) _).drew.trans (hb1.mono (by simp)); exact this); have x0 : w1.cell? ⟨w.heap.size, 0, none⟩ = some (.int .i64 t.kind) := (by rw [k1.out.cell (by simp)]; simp); have x1 : w1.cell? ⟨w.heap.size, 1, none⟩ = some (.string t.text) := (by rw [k1.out.cell (by simp)]; simp); have x2 : w1.cell? ⟨w.heap.size, 2, none⟩ = some (.slice al t.leads.length cl) := (by rw [k1.out.cell (by simp)]; simp); have x3 : w1.cell? ⟨w.heap.size, 3, none⟩ = some (.slice ak t.kids.length ck) := (by rw [k1.out.cell (by simp)]; simp); clear hb1) | (go_at_call 49; refine (gather_any t.size t (Nat.le_refl _) h _ (by exact i1.out.alloc _) w.heap.size (by simp; omega) _ HT.out (-1) (by unfold I64; omega) _ 0 [] (by exact own_made0 i1.out (by omega) _ _ _ _ hmx) (by omega)).mono ?_; rintro e w2 ⟨v2, h2, news, rfl, G⟩; have kp := Lib.hid (G.keeps z1); have G := Lib.hid G))
  go_wp2_with fail
  go_ret
  have S : St w.heap.size h w h2 w2 := by
    refine ⟨?_, G.out.imm, G.out.le, fun b hb => G.out.old b (by simp; omega), Nat.le_refl _⟩
    refine ((Below.refl _ _).alloc (Nat.le_refl _) _).trans ((k1.out.mono (by omega)).trans ⟨G.out.grown.os, G.out.grown.tape, G.out.grown.output, by have := G.out.grown.size; simp at this; omega, fun k hk => ?_⟩)
    rw [G.out.grown.block k (by simp; omega) (fun e => by simp [Value.ownBlock] at e; omega), Below.heap_alloc _ _ _ (by omega)]
  have hsz : (flatAt t (-1) 0).length = t.size := flatAt_length _ _ _
  refine ⟨_, _, rfl, S.fr, _, ?_, G.out.enc.mono fun _ _ r => r.mono (Hp.le_fr G.out.imm)⟩
  have := G.out.own.sl (by rw [hsz]; omega)
  rw [Nat.zero_add, List.nil_append] at this
  exact this
end Go.Proofs.Ytfifbadepebpeaa

/- The reference's Same of alignments. -/
namespace Go.Proofs.Ytfifbadepebpeaa
open Go.RowKit

theorem Rws.openI {h : Hp} {v : Value} {ls : List (List Int)} (hv : Rws h v ls) : ∃ a cap, v = .slice a ls.length cap ∧ ls.length ≤ 140737488355328 ∧
    (0 < ls.length → ∃ b off, a = some ⟨b, off, none⟩ ∧ ∀ w, Imm h w → b < w.heap.size ∧ ∀ k (hk : k < ls.length), ∃ ad cap', w.cell? ⟨b, off + k, none⟩ = some (.slice ad ls[k].length cap') ∧ Ints h (.slice ad ls[k].length cap') ls[k]) := by
  obtain ⟨cs, s, hr⟩ := hv
  obtain ⟨a, cap, rfl, hn⟩ := s.shape
  refine ⟨a, cap, rfl, hn, fun h0 => ?_⟩
  have hs := s
  obtain ⟨a', cap', he, h1, h2, h3⟩ := hs
  simp only [Value.slice.injEq, true_and] at he
  obtain ⟨rfl, rfl⟩ := he
  rcases h3 with h3 | ⟨b, off, c, rfl, hb, hc⟩
  · omega
  refine ⟨b, off, rfl, fun w hi => ⟨blk_lt (hi b c hb), fun k hk => ?_⟩⟩
  obtain ⟨b', off', hab, hb', hc'⟩ := s.cells hi h0
  simp only [Option.some.injEq, Addr.mk.injEq, and_true] at hab
  obtain ⟨rfl, rfl⟩ := hab
  obtain ⟨a1, ⟨ad, cap', rfl, hi'⟩, h3⟩ := hr.at 1 RowC.len k hk
  refine ⟨ad, cap', hc' _ _ ?_, hi'⟩
  have := h3 0 (by omega)
  simpa using this

end Go.Proofs.Ytfifbadepebpeaa

/- The reference's Proper. -/
namespace Go.Proofs.Ytfifbadepebpeaa
open Go.RowKit

set_option maxHeartbeats 1000000 in
theorem rproper_any (h : Hp) (w : World) (hi : Imm h w) (vd va vc : Value) (drop add : List Int) (cost : List (List Int)) (hd : Ints h vd drop) (ha : Ints h va add) (hc : Rws h vc cost) :
    Calls Try.prog 60 #[vd, va, vc] w fun e w' => e = .returned (.bool (properB drop add cost)) ∧ w = w' := by
  have Hd := Lib.hid hd
  have Ha := Lib.hid ha
  have HI := Lib.hid hi
  obtain ⟨ad, cd, rfl, hdn, -⟩ := hd.open
  obtain ⟨aa, ca, rfl, han, -⟩ := ha.open
  obtain ⟨ac, cc, rfl, hcn, hcc⟩ := hc.open
  replace hcc := Lib.hid (hcc w hi)
  clear hd ha hc hi
  by_cases h1 : 400 < drop.length
  · go_enter Try.func60, Try.ntmps60
    go_wp2_with fail
    go_ret
    exact ⟨by simp [properB]; omega, rfl⟩
  by_cases h2 : 400 < add.length
  · go_enter Try.func60, Try.ntmps60
    go_wp2_with fail
    go_ret
    exact ⟨by simp [properB]; omega, rfl⟩
  by_cases h3 : cost.length = drop.length
  case neg =>
    have h3' : ((cost.length : Int) != (drop.length : Int)) = true := bneT h3
    go_enter Try.func60, Try.ntmps60
    go_wp2_with fail
    go_ret
    exact ⟨by simp [properB, h3], rfl⟩
  have h3' : ((cost.length : Int) != (drop.length : Int)) = false := bneF h3
  have H3 := Lib.hid h3
  clear h3
  generalize hwd : withinB 0 1048576 drop = wd
  generalize hwa : withinB 0 1048576 add = wa
  have Hwd := Lib.hid hwd
  have Hwa := Lib.hid hwa
  clear hwd hwa
  cases wd
  · go_enter Try.func60, Try.ntmps60
    go_wp2_with fail
    refine (small_any h w HI.out _ drop _ Hd.out).mono ?_
    rintro e w' ⟨rfl, rfl⟩
    rw [Hwd.out]
    go_wp2_with fail
    go_ret
    exact ⟨by simp [properB, Hwd.out], rfl⟩
  cases wa
  · go_enter Try.func60, Try.ntmps60
    go_wp2_with fail
    refine (small_any h w HI.out _ drop _ Hd.out).mono ?_
    rintro e w' ⟨rfl, rfl⟩
    rw [Hwd.out]
    go_wp2_with fail
    refine (small_any h w HI.out _ add _ Ha.out).mono ?_
    rintro e w' ⟨rfl, rfl⟩
    rw [Hwa.out]
    go_wp2_with fail
    go_ret
    exact ⟨by simp [properB, Hwa.out], rfl⟩
  go_enter Try.func60, Try.ntmps60
  go_wp2_with fail
  refine (small_any h w HI.out _ drop _ Hd.out).mono ?_
  rintro e w' ⟨rfl, rfl⟩
  rw [Hwd.out]
  go_wp2_with fail
  refine (small_any h w HI.out _ add _ Ha.out).mono ?_
  rintro e w' ⟨rfl, rfl⟩
  rw [Hwa.out]
  go_wp2_with fail
  go_loop [6, 7, 33, 34, 35, 36, 37, 38, 39, 40, 41, 42, 43, 44, 45, 46, 47, 48, 49, 50, 51, 52, 53, 54] (fun _ i _ _ _ _ _ _ _ _ _ _ _ _ _ _ _ _ _ _ _ _ _ _ => ∃ k : Nat, k ≤ cost.length ∧ i = .int .i64 k ∧ Hid (rowsB add.length (cost.take k) = true)) (fun _ i _ _ _ _ _ _ _ _ _ _ _ _ _ _ _ _ _ _ _ _ _ _ => cost.length - (intOf i).toNat)
  case atStart => exact ⟨0, Nat.zero_le _, rfl, rfl⟩
  case round =>
    obtain ⟨k, hk, rfl, hw⟩ := hrel
    by_cases hlt : k < cost.length
    · obtain ⟨b, off, rfl, -, hc⟩ := hcc.out (by omega)
      obtain ⟨ar, cr, hcell, hrow⟩ := hc k hlt
      have Hrow := Lib.hid hrow
      have H1 := Lib.hid (rowsB_take add.length cost k hlt)
      have H2 := Lib.hid (rowsB_false add.length cost k hlt)
      have hrl := hrow.1.len.1
      clear hc hrow
      by_cases h4 : cost[k].length = add.length
      · have h4' : ((cost[k].length : Int) != (add.length : Int)) = false := bneF h4
        have H4 := Lib.hid h4
        clear h4
        generalize hwr : withinB (-1) 1048576 cost[k] = wr
        have Hwr := Lib.hid hwr
        clear hwr
        cases wr
        · go_wp2_with fail
          refine (small_any h w HI.out _ _ _ Hrow.out).mono ?_
          rintro e w' ⟨rfl, rfl⟩
          rw [Hwr.out]
          go_wp2_with fail
          go_ret
          exact ⟨by simp [properB, H2.out (by rw [Hwr.out]; simp)], rfl⟩
        · go_wp2_with fail
          refine (small_any h w HI.out _ _ _ Hrow.out).mono ?_
          rintro e w' ⟨rfl, rfl⟩
          rw [Hwr.out]
          go_wp2_with fail
          go_round
          case rel => exact ⟨k + 1, by omega, by go_num, H1.out H4.out Hwr.out hw⟩
          case measure => simp [intOf]; omega
      · have h4' : ((cost[k].length : Int) != (add.length : Int)) = true := bneT h4
        go_wp2_with fail
        go_ret
        exact ⟨by simp [properB, H2.out (by simp [h4])], rfl⟩
    · go_wp2_with fail
      go_ret
      have : rowsB add.length cost = true := by have := hw.out; rwa [List.take_of_length_le (by omega)] at this
      exact ⟨by simp [properB, this, Hwd.out, Hwa.out, H3.out]; omega, rfl⟩
end Go.Proofs.Ytfifbadepebpeaa
