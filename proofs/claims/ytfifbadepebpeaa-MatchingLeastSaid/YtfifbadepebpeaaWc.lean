/- Sizes of trees; comparisons of pairs; small functions. -/
import Derived.Test.YtfifbadepebpeaaWb
import Derived.Test.YtfifbadepebpeaaBa
import Derived.Sort.Grow
namespace Go.Proofs.Ytfifbadepebpeaa
open Go.RowKit


set_option maxHeartbeats 1000000 in
theorem tsize_any (n : Nat) : ∀ (h : Hp) (w : World) (_ : Imm h w) (v : Value) (t : Tree) (_ : TreeV h v t) (_ : t.size ≤ n) (_ : t.size ≤ 1000000000),
    Calls Try.prog 50 #[v] w fun e w' => e = .returned (.int .i64 t.size) ∧ Below w.heap.size w w' := by
  induction n with
  | zero => intro h w hi v t ht hn; cases t; simp [Tree.size] at hn
  | succ n ih =>
    intro h w hi v t ht hn hn2
    obtain ⟨al, cl, ak, ck, xs, rfl, hk, hll, hkl, hs1, hs2, he⟩ := ht.open
    have hz := Tree.size_eq t
    have Hz := Lib.hid hz
    rw [hz] at hn hn2
    have IH := Lib.hid ih
    clear ih ht hz
    go_enter Try.func50, Try.ntmps50
    go_wp2
    go_loopw [3, 5, 9, 10, 11, 12, 13, 14, 15, 16, 17] (fun c _ i _ _ _ _ _ _ _ _ wr => ∃ j : Nat, j ≤ t.kids.length ∧ i = .int .i64 j ∧ c = .int .i64 (1 + sizes (t.kids.take j)) ∧ Below w.heap.size w wr) (fun _ _ i _ _ _ _ _ _ _ _ _ => t.kids.length - (intOf i).toNat)
    case atStart => exact ⟨0, Nat.zero_le _, rfl, rfl, (Below.refl _ _).alloc (Nat.le_refl _) _⟩
    case round =>
      obtain ⟨j, hj, rfl, rfl, hB⟩ := hrel
      have hs1 := sizes_take_le t.kids j
      by_cases hlt : j < t.kids.length
      · have hi' := hi.below hB
        obtain ⟨b, off, al', cl', ak', ck', rfl, -, d0, d1, d2, d3, ht⟩ := trees_at hs2 he hi' j hlt
        have hs := Lib.hid (sizes_take t.kids j hlt)
        have hs2 := sizes_take_le t.kids (j + 1)
        rw [hs.out] at hs2
        go_wp2_with fail
        refine (IH.out h _ ?_ _ _ ht (by omega) (by omega)).mono ?_
        · exact hi'.alloc _
        · rintro e w1 ⟨rfl, hB1⟩
          go_wp2_with fail
          go_roundw
          case rel => exact ⟨j + 1, by omega, by go_num, by rw [hs.out]; go_num, (hB.alloc hB.size _).trans (hB1.mono (by have := hB.size; simp; omega))⟩
          case measure => simp [intOf]; omega
      · go_wp2_with fail
        go_ret
        have : t.kids.take j = t.kids := List.take_of_length_le (by omega)
        exact ⟨by rw [Hz.out, this]; simp; omega, hB⟩

set_option maxHeartbeats 1000000 in
theorem rsize_any (n : Nat) : ∀ (h : Hp) (w : World) (_ : Imm h w) (v : Value) (t : Tree) (_ : TreeV h v t) (_ : t.size ≤ n) (_ : t.size ≤ 1000000000),
    Calls Try.prog 22 #[v] w fun e w' => e = .returned (.int .i64 t.size) ∧ Below w.heap.size w w' := by
  induction n with
  | zero => intro h w hi v t ht hn; cases t; simp [Tree.size] at hn
  | succ n ih =>
    intro h w hi v t ht hn hn2
    obtain ⟨al, cl, ak, ck, xs, rfl, hk, hll, hkl, hs1, hs2, he⟩ := ht.open
    have hz := Tree.size_eq t
    have Hz := Lib.hid hz
    rw [hz] at hn hn2
    have IH := Lib.hid ih
    clear ih ht hz
    go_enter Try.func22, Try.ntmps22
    go_wp2
    go_loopw [3, 4, 5, 6, 7, 8, 9, 10, 11, 12, 13, 14, 15, 16, 17, 18, 19] (fun c i _ _ _ _ _ _ _ _ _ _ _ _ _ _ _ wr => ∃ j : Nat, j ≤ t.kids.length ∧ i = .int .i64 j ∧ c = .int .i64 (1 + sizes (t.kids.take j)) ∧ Below (w.heap.size + 1) (w.alloc (Obj.cells #[.int .i64 t.kind, .string t.text, .slice al t.leads.length cl, .slice ak t.kids.length ck] 25)) wr) (fun _ i _ _ _ _ _ _ _ _ _ _ _ _ _ _ _ _ => t.kids.length - (intOf i).toNat)
    case atStart => exact ⟨0, Nat.zero_le _, rfl, rfl, Below.refl _ _⟩
    case round =>
      obtain ⟨j, hj, rfl, rfl, hB⟩ := hrel
      have hs1 := sizes_take_le t.kids j
      have hbox : wr.cell? ⟨w.heap.size, 3, none⟩ = some (.slice ak t.kids.length ck) := by
        rw [hB.cell (by simp)]; simp
      have hB0 : Below w.heap.size w wr := ((Below.refl w.heap.size w).alloc (Nat.le_refl _) _).trans (hB.mono (by omega))
      by_cases hlt : j < t.kids.length
      · have hi' := hi.below hB0
        obtain ⟨b, off, al', cl', ak', ck', rfl, -, d0, d1, d2, d3, ht⟩ := trees_at hs2 he hi' j hlt
        have hs := Lib.hid (sizes_take t.kids j hlt)
        have hs2 := sizes_take_le t.kids (j + 1)
        rw [hs.out] at hs2
        have HB := Lib.hid hB
        clear hB
        go_wp2_with fail
        refine (IH.out h _ hi' _ _ ht (by omega) (by omega)).mono ?_
        rintro e w1 ⟨rfl, hB1⟩
        go_wp2_with fail
        go_roundw
        case rel => exact ⟨j + 1, by omega, by go_num, by rw [hs.out]; go_num, HB.out.trans (hB1.mono (by have := HB.out.size; simpa using this))⟩
        case measure => simp [intOf]; omega
      · clear hB
        go_wp2_with fail
        go_ret
        have : t.kids.take j = t.kids := List.take_of_length_le (by omega)
        exact ⟨by rw [Hz.out, this]; simp; omega, hB0⟩

def differP (a b : ByteArray) : Int := if a = b then 0 else 1

theorem bytes_inj {a b : ByteArray} (h : a.toList = b.toList) : a = b := by
  rw [ByteArray.toList_eq, ByteArray.toList_eq] at h
  obtain ⟨⟨x⟩⟩ := a
  obtain ⟨⟨y⟩⟩ := b
  simp only at h
  rw [h]
theorem strT {a b : ByteArray} (h : a = b) : (a.toList == b.toList) = true := by simp [h]
theorem strF {a b : ByteArray} (h : a ≠ b) : (a.toList == b.toList) = false := by
  rw [beq_eq_false_iff_ne]; intro e; exact h (bytes_inj e)

set_option maxHeartbeats 400000 in
theorem differ_any (w : World) (k1 k2 p1 p2 s1 s2 : Int) (t1 t2 : ByteArray) (a1 a2 : Option Addr) (n1 n2 c1 c2 : Nat) :
    Calls Try.prog 55 #[.agg #[.int .i64 k1, .string t1, .int .i64 p1, .slice a1 n1 c1, .int .i64 s1], .agg #[.int .i64 k2, .string t2, .int .i64 p2, .slice a2 n2 c2, .int .i64 s2]] w
      fun e w' => e = .returned (.int .i64 (differP t1 t2)) ∧ Below w.heap.size w w' := by
  by_cases h : t1 = t2
  · have g := strT h
    have H := Lib.hid h
    clear h
    go_enter Try.func55, Try.ntmps55
    go_wp2
    go_ret
    exact ⟨by rw [differP, if_pos H.out]; rfl, ((Below.refl _ _).alloc (Nat.le_refl _) _).alloc (by simp) _⟩
  · have g := strF h
    have H : Hid (t1 ≠ t2) := h
    clear h
    go_enter Try.func55, Try.ntmps55
    go_wp2
    go_ret
    exact ⟨by rw [differP, if_neg H.out]; rfl, ((Below.refl _ _).alloc (Nat.le_refl _) _).alloc (by simp) _⟩

theorem isnan_any (w : World) (x : Int) : Calls Try.prog 86 #[.int .i64 x] w fun e w' => e = .returned (.bool false) ∧ w = w' := by
  have g : (x != x) = false := by simp
  go_enter Try.func86, Try.ntmps86
  go_wp2
  go_ret
  exact ⟨rfl, rfl⟩

def cmpP (x y : Int) : Int := if x < y then -1 else if y < x then 1 else 0
set_option maxHeartbeats 400000 in
theorem cmpcompare_any (w : World) (x y : Int) : Calls Try.prog 67 #[.int .i64 x, .int .i64 y] w fun e w' => e = .returned (.int .i64 (cmpP x y)) ∧ w = w' := by
  by_cases h1 : x < y
  · go_enter Try.func67, Try.ntmps67
    go_wp2_with (go_at_call 86; refine (isnan_any _ _).mono ?_; rintro e w' ⟨rfl, rfl⟩)
    go_ret
    exact ⟨by rw [cmpP, if_pos h1]; rfl, rfl⟩
  · have h1' : y ≤ x := by omega
    by_cases h2 : y < x
    · go_enter Try.func67, Try.ntmps67
      go_wp2_with (go_at_call 86; refine (isnan_any _ _).mono ?_; rintro e w' ⟨rfl, rfl⟩)
      go_ret
      exact ⟨by rw [cmpP, if_neg (by omega), if_pos h2]; rfl, rfl⟩
    · have h2' : x ≤ y := by omega
      go_enter Try.func67, Try.ntmps67
      go_wp2_with (go_at_call 86; refine (isnan_any _ _).mono ?_; rintro e w' ⟨rfl, rfl⟩)
      go_ret
      exact ⟨by rw [cmpP, if_neg (by omega), if_neg (by omega)]; rfl, rfl⟩

/-- The first number that is not 0, or 0. -/
def orP : List Int → Int
  | [] => 0
  | x :: l => if x = 0 then orP l else x
theorem orP_drop (l : List Int) (k : Nat) (hk : k < l.length) : orP (l.drop k) = if l[k] = 0 then orP (l.drop (k + 1)) else l[k] := by
  rw [List.drop_eq_getElem_cons hk, orP]

set_option maxHeartbeats 400000 in
theorem cmpor_any (w : World) (l : List Int) (b : Nat) (cap : Nat) (hl : l.length ≤ 140737488355328) (hc : ∀ k (hk : k < l.length), w.cell? ⟨b, k, none⟩ = some (.int .i64 l[k])) :
    Calls Try.prog 66 #[.slice (some ⟨b, 0, none⟩) l.length cap] w fun e w' => e = .returned (.int .i64 (orP l)) ∧ w = w' := by
  have HC := Lib.hid hc
  clear hc
  go_enter Try.func66, Try.ntmps66
  go_wp2
  go_loop [2, 5, 8, 9, 10, 11, 12, 13, 14, 15, 16] (fun _ _ i _ _ _ _ _ _ _ _ => ∃ k : Nat, k ≤ l.length ∧ i = .int .i64 k ∧ Hid (orP (l.drop k) = orP l)) (fun _ _ i _ _ _ _ _ _ _ _ => l.length - (intOf i).toNat)
  case atStart => exact ⟨0, Nat.zero_le _, rfl, rfl⟩
  case round =>
    obtain ⟨k, hk, rfl, hw⟩ := hrel
    by_cases hlt : k < l.length
    · have hcell := HC.out k hlt
      have H1 : Hid (orP l = if l[k] = 0 then orP (l.drop (k + 1)) else l[k]) := by unfold Hid; rw [← hw.out]; exact orP_drop l k hlt
      generalize l[k] = x at *
      by_cases h1 : x = 0
      · subst h1
        go_wp2
        go_round
        case rel => exact ⟨k + 1, by omega, by go_num, by unfold Hid; rw [H1.out]; simp⟩
        case measure => simp [intOf]; omega
      · have g := ibneT h1
        have H2 : Hid (x ≠ 0) := h1
        clear h1
        go_wp2
        go_ret
        exact ⟨by rw [H1.out, if_neg H2.out]; rfl, rfl⟩
    · go_wp2
      go_ret
      have := hw.out
      rw [List.drop_of_length_le (by omega)] at this
      exact ⟨by rw [← this]; rfl, rfl⟩

def orderP (p q : Int × Int) : Int := orP [cmpP p.1 q.1, cmpP p.2 q.2]

theorem cmpcompare_still (w : World) (x y : Int) : Calls Try.prog 67 #[.int .i64 x, .int .i64 y] w fun e w' => e = .returned (.int .i64 (cmpP x y)) ∧ w' = w :=
  (cmpcompare_any w x y).mono fun _ _ ⟨a, b⟩ => ⟨a, b.symm⟩

set_option maxRecDepth 100000 in
set_option maxHeartbeats 1000000 in
theorem order_any (w : World) (p q : Int × Int) :
    Calls Try.prog 52 #[.agg #[.int .i64 p.1, .int .i64 p.2], .agg #[.int .i64 q.1, .int .i64 q.2]] w
      fun e w' => e = .returned (.int .i64 (orderP p q)) ∧ ∃ n os, w' = Sort.grow (w.drewN n) os := by
  go_enter Try.func52, Try.ntmps52
  go_wp2_with fail
  refine wp_region_still_tail 10 (by kernel_rfl) (by kernel_rfl) ?_
  simp only [List.take_succ_cons, List.take_zero, List.drop_succ_cons, List.drop_zero]
  change wpStill _ _ (World.drew _) (fun a' => wpList _ _ _ _ a' (World.drew _)) _ _
  iterate 4 still_step
  still_call (cmpcompare_still _ _ _)
  iterate 4 still_step
  still_call (cmpcompare_still _ _ _)
  refine wpStill_nil ?_
  go_wp2_with fail
  refine (cmpor_any _ [cmpP p.1 q.1, cmpP p.2 q.2] _ _ (by simp) ?_).mono ?_
  · intro k hk
    match k, hk with
    | 0, _ => simp; rw [World.cell?_alloc_at _ _ _ _ (by simp)]; rfl
    | 1, _ => simp; rw [World.cell?_alloc_at _ _ _ _ (by simp)]; rfl
  rintro e w' ⟨rfl, rfl⟩
  go_wp2_with fail
  go_ret
  exact ⟨rfl, 1, _, by rw [Sort.alloc_eq_grow, Sort.alloc_eq_grow, Sort.alloc_eq_grow, Sort.grow_grow, Sort.grow_grow]; rfl⟩
end Go.Proofs.Ytfifbadepebpeaa
