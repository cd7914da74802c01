/- Expr: the ways with kids that are known in number. -/
import Derived.Test.YtfifbadepebpeaaDe
namespace Go.Proofs.Ytfifbadepebpeaa
open Go.RowKit

set_option maxRecDepth 100000 in
set_option maxHeartbeats 4000000 in
theorem exprS0 (m : Nat) (hm : m ≤ 100) (h : Hp) (w : World) (hi : Imm h w) (g : Nat) (L : List Int) (n : Nat) (d : Dic h w g L n) (hr : nextP L n 14 = 0) :
    Calls Try.prog 48 #[.pointer (some ⟨g, 0, none⟩), .int .i64 ((m + 1 : Nat) : Int)] w (TRes g L h w fun t => t.size ≤ 1) := by
  have HI := Lib.hid hi
  have D := Lib.hid d
  have HR := Lib.hid hr
  have hgl := d.lt
  clear hi d hr
  have e1 : ((m + 1 : Nat) : Int) - 1 = (m : Int) := by omega
  have e2 : ¬ ((m + 1 : Nat) : Int) < 1 := by omega
  have e3 : (m : Int) + 1 - 1 = (m : Int) := by omega
  go_enter Try.func48, Try.ntmps48
  go_wp2_with fail
  have B0 := Lib.hid (Bx.new HI.out #[.int .i64 0, .string ⟨#[]⟩, .slice none 0 0, .slice none 0 0] 25)
  have S0 := Lib.hid ((DSt.refl HI.out D.out).alloc (Obj.cells #[.int .i64 0, .string ⟨#[]⟩, .slice none 0 0, .slice none 0 0] 25))
  refine (next_any h _ S0.out.imm g L n (D.out.alloc _) 14 (by omega) (by omega)).mono ?_
  rintro e w1 ⟨rfl, S1⟩
  rw [HR.out]
  have B1 := Lib.hid (B0.out.call S1 (by omega))
  have SN1 := Lib.hid (S0.out.call S1)
  obtain ⟨n1, D1⟩ := SN1.out.dic
  have D1 := Lib.hid D1
  have hz1 : w.heap.size < w1.heap.size := B1.out.has.lt
  clear S1
  go_wp2_with fail
  refine (pick_any h _ (SN1.out.imm.alloc _) g L n1 (D1.out.alloc _) w1.heap.size 3 3 #[.string ⟨#[120]⟩, .string ⟨#[121]⟩, .string ⟨#[122]⟩] (Has.new w1 _ _) (by omega) (by omega) (by omega) (fun i hi => strs_ok [.string ⟨#[120]⟩, .string ⟨#[121]⟩, .string ⟨#[122]⟩] rfl i hi)).mono ?_
  rintro e w2 ⟨s2, rfl, S2⟩
  have B2 := Lib.hid ((B1.out.alloc _).call S2 (by omega))
  have SN2 := Lib.hid ((SN1.out.alloc _).call S2)
  obtain ⟨n2, D2⟩ := SN2.out.dic
  have D2 := Lib.hid D2
  have hz2 : w.heap.size < w2.heap.size := B2.out.has.lt
  clear S2
  have ⟨⟨k0, k1, k2, k3⟩, z0, z1, z2, z3⟩ := B2.out.four
  go_wp2_with fail
  refine bodyPost_ret (v := .agg #[.int .i64 12, .string s2, .slice none 0 0, .slice none 0 0]) (by simp [results, Try.results48, go_sem, k0, k1, k2, k3]) rfl ?_
  exact ⟨_, rfl, h, .node 12 s2 [] [], SN2.out.set4 (Nat.le_refl _) B2.out.no _ _ _ _, leaf_tree _ _ (by unfold I64; omega) _, leaf_le (by omega)⟩

set_option maxRecDepth 100000 in
set_option maxHeartbeats 4000000 in
theorem exprS1 (m : Nat) (hm : m ≤ 100) (h : Hp) (w : World) (hi : Imm h w) (g : Nat) (L : List Int) (n : Nat) (d : Dic h w g L n) (hr : nextP L n 14 = 1) :
    Calls Try.prog 48 #[.pointer (some ⟨g, 0, none⟩), .int .i64 ((m + 1 : Nat) : Int)] w (TRes g L h w fun t => t.size ≤ 1) := by
  have HI := Lib.hid hi
  have D := Lib.hid d
  have HR := Lib.hid hr
  have hgl := d.lt
  clear hi d hr
  have e1 : ((m + 1 : Nat) : Int) - 1 = (m : Int) := by omega
  have e2 : ¬ ((m + 1 : Nat) : Int) < 1 := by omega
  have e3 : (m : Int) + 1 - 1 = (m : Int) := by omega
  go_enter Try.func48, Try.ntmps48
  go_wp2_with fail
  have B0 := Lib.hid (Bx.new HI.out #[.int .i64 0, .string ⟨#[]⟩, .slice none 0 0, .slice none 0 0] 25)
  have S0 := Lib.hid ((DSt.refl HI.out D.out).alloc (Obj.cells #[.int .i64 0, .string ⟨#[]⟩, .slice none 0 0, .slice none 0 0] 25))
  refine (next_any h _ S0.out.imm g L n (D.out.alloc _) 14 (by omega) (by omega)).mono ?_
  rintro e w1 ⟨rfl, S1⟩
  rw [HR.out]
  have B1 := Lib.hid (B0.out.call S1 (by omega))
  have SN1 := Lib.hid (S0.out.call S1)
  obtain ⟨n1, D1⟩ := SN1.out.dic
  have D1 := Lib.hid D1
  have hz1 : w.heap.size < w1.heap.size := B1.out.has.lt
  clear S1
  go_wp2_with fail
  refine (pick_any h _ (SN1.out.imm.alloc _) g L n1 (D1.out.alloc _) w1.heap.size 3 3 #[.string ⟨#[120]⟩, .string ⟨#[121]⟩, .string ⟨#[122]⟩] (Has.new w1 _ _) (by omega) (by omega) (by omega) (fun i hi => strs_ok [.string ⟨#[120]⟩, .string ⟨#[121]⟩, .string ⟨#[122]⟩] rfl i hi)).mono ?_
  rintro e w2 ⟨s2, rfl, S2⟩
  have B2 := Lib.hid ((B1.out.alloc _).call S2 (by omega))
  have SN2 := Lib.hid ((SN1.out.alloc _).call S2)
  obtain ⟨n2, D2⟩ := SN2.out.dic
  have D2 := Lib.hid D2
  have hz2 : w.heap.size < w2.heap.size := B2.out.has.lt
  clear S2
  have ⟨⟨k0, k1, k2, k3⟩, z0, z1, z2, z3⟩ := B2.out.four
  go_wp2_with fail
  refine bodyPost_ret (v := .agg #[.int .i64 12, .string s2, .slice none 0 0, .slice none 0 0]) (by simp [results, Try.results48, go_sem, k0, k1, k2, k3]) rfl ?_
  exact ⟨_, rfl, h, .node 12 s2 [] [], SN2.out.set4 (Nat.le_refl _) B2.out.no _ _ _ _, leaf_tree _ _ (by unfold I64; omega) _, leaf_le (by omega)⟩

set_option maxRecDepth 100000 in
set_option maxHeartbeats 4000000 in
theorem exprS2 (m : Nat) (hm : m ≤ 100) (h : Hp) (w : World) (hi : Imm h w) (g : Nat) (L : List Int) (n : Nat) (d : Dic h w g L n) (hr : nextP L n 14 = 2) :
    Calls Try.prog 48 #[.pointer (some ⟨g, 0, none⟩), .int .i64 ((m + 1 : Nat) : Int)] w (TRes g L h w fun t => t.size ≤ 1) := by
  have HI := Lib.hid hi
  have D := Lib.hid d
  have HR := Lib.hid hr
  have hgl := d.lt
  clear hi d hr
  have e1 : ((m + 1 : Nat) : Int) - 1 = (m : Int) := by omega
  have e2 : ¬ ((m + 1 : Nat) : Int) < 1 := by omega
  have e3 : (m : Int) + 1 - 1 = (m : Int) := by omega
  go_enter Try.func48, Try.ntmps48
  go_wp2_with fail
  have B0 := Lib.hid (Bx.new HI.out #[.int .i64 0, .string ⟨#[]⟩, .slice none 0 0, .slice none 0 0] 25)
  have S0 := Lib.hid ((DSt.refl HI.out D.out).alloc (Obj.cells #[.int .i64 0, .string ⟨#[]⟩, .slice none 0 0, .slice none 0 0] 25))
  refine (next_any h _ S0.out.imm g L n (D.out.alloc _) 14 (by omega) (by omega)).mono ?_
  rintro e w1 ⟨rfl, S1⟩
  rw [HR.out]
  have B1 := Lib.hid (B0.out.call S1 (by omega))
  have SN1 := Lib.hid (S0.out.call S1)
  obtain ⟨n1, D1⟩ := SN1.out.dic
  have D1 := Lib.hid D1
  have hz1 : w.heap.size < w1.heap.size := B1.out.has.lt
  clear S1
  go_wp2_with fail
  refine (pick_any h _ (SN1.out.imm.alloc _) g L n1 (D1.out.alloc _) w1.heap.size 4 4 #[.string ⟨#[48]⟩, .string ⟨#[49]⟩, .string ⟨#[50]⟩, .string ⟨#[49, 48]⟩] (Has.new w1 _ _) (by omega) (by omega) (by omega) (fun i hi => strs_ok [.string ⟨#[48]⟩, .string ⟨#[49]⟩, .string ⟨#[50]⟩, .string ⟨#[49, 48]⟩] rfl i hi)).mono ?_
  rintro e w2 ⟨s2, rfl, S2⟩
  have B2 := Lib.hid ((B1.out.alloc _).call S2 (by omega))
  have SN2 := Lib.hid ((SN1.out.alloc _).call S2)
  obtain ⟨n2, D2⟩ := SN2.out.dic
  have D2 := Lib.hid D2
  have hz2 : w.heap.size < w2.heap.size := B2.out.has.lt
  clear S2
  have ⟨⟨k0, k1, k2, k3⟩, z0, z1, z2, z3⟩ := B2.out.four
  go_wp2_with fail
  refine bodyPost_ret (v := .agg #[.int .i64 10, .string s2, .slice none 0 0, .slice none 0 0]) (by simp [results, Try.results48, go_sem, k0, k1, k2, k3]) rfl ?_
  exact ⟨_, rfl, h, .node 10 s2 [] [], SN2.out.set4 (Nat.le_refl _) B2.out.no _ _ _ _, leaf_tree _ _ (by unfold I64; omega) _, leaf_le (by omega)⟩

set_option maxRecDepth 100000 in
set_option maxHeartbeats 4000000 in
theorem exprS3 (m : Nat) (hm : m ≤ 100) (h : Hp) (w : World) (hi : Imm h w) (g : Nat) (L : List Int) (n : Nat) (d : Dic h w g L n) (hr : nextP L n 14 = 3) :
    Calls Try.prog 48 #[.pointer (some ⟨g, 0, none⟩), .int .i64 ((m + 1 : Nat) : Int)] w (TRes g L h w fun t => t.size ≤ 1) := by
  have HI := Lib.hid hi
  have D := Lib.hid d
  have HR := Lib.hid hr
  have hgl := d.lt
  clear hi d hr
  have e1 : ((m + 1 : Nat) : Int) - 1 = (m : Int) := by omega
  have e2 : ¬ ((m + 1 : Nat) : Int) < 1 := by omega
  have e3 : (m : Int) + 1 - 1 = (m : Int) := by omega
  go_enter Try.func48, Try.ntmps48
  go_wp2_with fail
  have B0 := Lib.hid (Bx.new HI.out #[.int .i64 0, .string ⟨#[]⟩, .slice none 0 0, .slice none 0 0] 25)
  have S0 := Lib.hid ((DSt.refl HI.out D.out).alloc (Obj.cells #[.int .i64 0, .string ⟨#[]⟩, .slice none 0 0, .slice none 0 0] 25))
  refine (next_any h _ S0.out.imm g L n (D.out.alloc _) 14 (by omega) (by omega)).mono ?_
  rintro e w1 ⟨rfl, S1⟩
  rw [HR.out]
  have B1 := Lib.hid (B0.out.call S1 (by omega))
  have SN1 := Lib.hid (S0.out.call S1)
  obtain ⟨n1, D1⟩ := SN1.out.dic
  have D1 := Lib.hid D1
  have hz1 : w.heap.size < w1.heap.size := B1.out.has.lt
  clear S1
  go_wp2_with fail
  refine (pick_any h _ (SN1.out.imm.alloc _) g L n1 (D1.out.alloc _) w1.heap.size 3 3 #[.string ⟨#[34, 34]⟩, .string ⟨#[34, 97, 34]⟩, .string ⟨#[34, 35, 32, 98, 34]⟩] (Has.new w1 _ _) (by omega) (by omega) (by omega) (fun i hi => strs_ok [.string ⟨#[34, 34]⟩, .string ⟨#[34, 97, 34]⟩, .string ⟨#[34, 35, 32, 98, 34]⟩] rfl i hi)).mono ?_
  rintro e w2 ⟨s2, rfl, S2⟩
  have B2 := Lib.hid ((B1.out.alloc _).call S2 (by omega))
  have SN2 := Lib.hid ((SN1.out.alloc _).call S2)
  obtain ⟨n2, D2⟩ := SN2.out.dic
  have D2 := Lib.hid D2
  have hz2 : w.heap.size < w2.heap.size := B2.out.has.lt
  clear S2
  have ⟨⟨k0, k1, k2, k3⟩, z0, z1, z2, z3⟩ := B2.out.four
  go_wp2_with fail
  refine bodyPost_ret (v := .agg #[.int .i64 11, .string s2, .slice none 0 0, .slice none 0 0]) (by simp [results, Try.results48, go_sem, k0, k1, k2, k3]) rfl ?_
  exact ⟨_, rfl, h, .node 11 s2 [] [], SN2.out.set4 (Nat.le_refl _) B2.out.no _ _ _ _, leaf_tree _ _ (by unfold I64; omega) _, leaf_le (by omega)⟩

set_option maxRecDepth 100000 in
set_option maxHeartbeats 4000000 in
theorem exprS4 (m : Nat) (hm : m ≤ 100) (h : Hp) (w : World) (hi : Imm h w) (g : Nat) (L : List Int) (n : Nat) (d : Dic h w g L n) (hr : nextP L n 14 = 4) :
    Calls Try.prog 48 #[.pointer (some ⟨g, 0, none⟩), .int .i64 ((m + 1 : Nat) : Int)] w (TRes g L h w fun t => t.size ≤ 1) := by
  have HI := Lib.hid hi
  have D := Lib.hid d
  have HR := Lib.hid hr
  have hgl := d.lt
  clear hi d hr
  have e1 : ((m + 1 : Nat) : Int) - 1 = (m : Int) := by omega
  have e2 : ¬ ((m + 1 : Nat) : Int) < 1 := by omega
  have e3 : (m : Int) + 1 - 1 = (m : Int) := by omega
  go_enter Try.func48, Try.ntmps48
  go_wp2_with fail
  have B0 := Lib.hid (Bx.new HI.out #[.int .i64 0, .string ⟨#[]⟩, .slice none 0 0, .slice none 0 0] 25)
  have S0 := Lib.hid ((DSt.refl HI.out D.out).alloc (Obj.cells #[.int .i64 0, .string ⟨#[]⟩, .slice none 0 0, .slice none 0 0] 25))
  refine (next_any h _ S0.out.imm g L n (D.out.alloc _) 14 (by omega) (by omega)).mono ?_
  rintro e w1 ⟨rfl, S1⟩
  rw [HR.out]
  have B1 := Lib.hid (B0.out.call S1 (by omega))
  have SN1 := Lib.hid (S0.out.call S1)
  obtain ⟨n1, D1⟩ := SN1.out.dic
  have D1 := Lib.hid D1
  have hz1 : w.heap.size < w1.heap.size := B1.out.has.lt
  clear S1
  go_wp2_with fail
  refine (next_any h _ SN1.out.imm g L n1 D1.out 2 (by omega) (by omega)).mono ?_
  rintro e w2 ⟨rfl, S2⟩
  have bd2 := nextP_bd L n1 2 (by omega)
  generalize nextP L n1 2 = r2 at *
  have B2 := Lib.hid (B1.out.call S2 (by omega))
  have SN2 := Lib.hid (SN1.out.call S2)
  obtain ⟨n2, D2⟩ := SN2.out.dic
  have D2 := Lib.hid D2
  have hz2 : w.heap.size < w2.heap.size := B2.out.has.lt
  clear S2
  have ⟨⟨k0, k1, k2, k3⟩, z0, z1, z2, z3⟩ := B2.out.four
  go_wp2_with fail
  refine bodyPost_ret (v := .agg #[.int .i64 (13 + r2), .string ⟨#[]⟩, .slice none 0 0, .slice none 0 0]) (by simp [results, Try.results48, go_sem, k0, k1, k2, k3]) rfl ?_
  exact ⟨_, rfl, h, .node (13 + r2) ⟨#[]⟩ [] [], SN2.out.set4 (Nat.le_refl _) B2.out.no _ _ _ _, leaf_tree _ _ (by unfold I64; omega) _, leaf_le (by omega)⟩

set_option maxRecDepth 100000 in
set_option maxHeartbeats 4000000 in
theorem exprS5 (m : Nat) (hm : m ≤ 100) (h : Hp) (w : World) (hi : Imm h w) (g : Nat) (L : List Int) (n : Nat) (d : Dic h w g L n) (hr : nextP L n 14 = 5) :
    Calls Try.prog 48 #[.pointer (some ⟨g, 0, none⟩), .int .i64 ((m + 1 : Nat) : Int)] w (TRes g L h w fun t => t.size ≤ 1) := by
  have HI := Lib.hid hi
  have D := Lib.hid d
  have HR := Lib.hid hr
  have hgl := d.lt
  clear hi d hr
  have e1 : ((m + 1 : Nat) : Int) - 1 = (m : Int) := by omega
  have e2 : ¬ ((m + 1 : Nat) : Int) < 1 := by omega
  have e3 : (m : Int) + 1 - 1 = (m : Int) := by omega
  go_enter Try.func48, Try.ntmps48
  go_wp2_with fail
  have B0 := Lib.hid (Bx.new HI.out #[.int .i64 0, .string ⟨#[]⟩, .slice none 0 0, .slice none 0 0] 25)
  have S0 := Lib.hid ((DSt.refl HI.out D.out).alloc (Obj.cells #[.int .i64 0, .string ⟨#[]⟩, .slice none 0 0, .slice none 0 0] 25))
  refine (next_any h _ S0.out.imm g L n (D.out.alloc _) 14 (by omega) (by omega)).mono ?_
  rintro e w1 ⟨rfl, S1⟩
  rw [HR.out]
  have B1 := Lib.hid (B0.out.call S1 (by omega))
  have SN1 := Lib.hid (S0.out.call S1)
  obtain ⟨n1, D1⟩ := SN1.out.dic
  have D1 := Lib.hid D1
  have hz1 : w.heap.size < w1.heap.size := B1.out.has.lt
  clear S1
  go_wp2_with fail
  refine (next_any h _ SN1.out.imm g L n1 D1.out 3 (by omega) (by omega)).mono ?_
  rintro e w2 ⟨rfl, S2⟩
  have bd2 := nextP_bd L n1 3 (by omega)
  generalize nextP L n1 3 = r2 at *
  have B2 := Lib.hid (B1.out.call S2 (by omega))
  have SN2 := Lib.hid (SN1.out.call S2)
  obtain ⟨n2, D2⟩ := SN2.out.dic
  have D2 := Lib.hid D2
  have hz2 : w.heap.size < w2.heap.size := B2.out.has.lt
  clear S2
  have hc : r2 = 0 ∨ r2 = 1 ∨ r2 = 2 := by omega
  rcases hc with rfl | rfl | rfl
  · have ⟨⟨k0, k1, k2, k3⟩, z0, z1, z2, z3⟩ := B2.out.four
    go_wp2_with fail
    refine bodyPost_ret (v := .agg #[.int .i64 15, .string ⟨#[]⟩, .slice none 0 0, .slice none 0 0]) (by simp [results, Try.results48, go_sem, k0, k1, k2, k3]) rfl ?_
    exact ⟨_, rfl, h, .node 15 ⟨#[]⟩ [] [], SN2.out.set4 (Nat.le_refl _) B2.out.no _ _ _ _, leaf_tree _ _ (by unfold I64; omega) _, leaf_le (by omega)⟩
  · have ⟨⟨k0, k1, k2, k3⟩, z0, z1, z2, z3⟩ := B2.out.four
    go_wp2_with fail
    refine bodyPost_ret (v := .agg #[.int .i64 10, .string ⟨#[51]⟩, .slice none 0 0, .slice none 0 0]) (by simp [results, Try.results48, go_sem, k0, k1, k2, k3]) rfl ?_
    exact ⟨_, rfl, h, .node 10 ⟨#[51]⟩ [] [], SN2.out.set4 (Nat.le_refl _) B2.out.no _ _ _ _, leaf_tree _ _ (by unfold I64; omega) _, leaf_le (by omega)⟩
  · have ⟨⟨k0, k1, k2, k3⟩, z0, z1, z2, z3⟩ := B2.out.four
    go_wp2_with fail
    refine bodyPost_ret (v := .agg #[.int .i64 10, .string ⟨#[51]⟩, .slice none 0 0, .slice none 0 0]) (by simp [results, Try.results48, go_sem, k0, k1, k2, k3]) rfl ?_
    exact ⟨_, rfl, h, .node 10 ⟨#[51]⟩ [] [], SN2.out.set4 (Nat.le_refl _) B2.out.no _ _ _ _, leaf_tree _ _ (by unfold I64; omega) _, leaf_le (by omega)⟩

set_option maxRecDepth 100000 in
set_option maxHeartbeats 4000000 in
theorem exprS9 (m B : Nat) (hm : m ≤ 100) (E : ExprC m B) (h : Hp) (w : World) (hi : Imm h w) (g : Nat) (L : List Int) (n : Nat) (d : Dic h w g L n) (hr : nextP L n 14 = 9) :
    Calls Try.prog 48 #[.pointer (some ⟨g, 0, none⟩), .int .i64 ((m + 1 : Nat) : Int)] w (TRes g L h w fun t => t.size ≤ 3 * B + 6) := by
  have HI := Lib.hid hi
  have D := Lib.hid d
  have HR := Lib.hid hr
  have hgl := d.lt
  clear hi d hr
  have e1 : ((m + 1 : Nat) : Int) - 1 = (m : Int) := by omega
  have e2 : ¬ ((m + 1 : Nat) : Int) < 1 := by omega
  have e3 : (m : Int) + 1 - 1 = (m : Int) := by omega
  have HE := Lib.hid E
  clear E
  go_enter Try.func48, Try.ntmps48
  go_wp2_with fail
  have B0 := Lib.hid (Bx.new HI.out #[.int .i64 0, .string ⟨#[]⟩, .slice none 0 0, .slice none 0 0] 25)
  have S0 := Lib.hid ((DSt.refl HI.out D.out).alloc (Obj.cells #[.int .i64 0, .string ⟨#[]⟩, .slice none 0 0, .slice none 0 0] 25))
  refine (next_any h _ S0.out.imm g L n (D.out.alloc _) 14 (by omega) (by omega)).mono ?_
  rintro e w1 ⟨rfl, S1⟩
  rw [HR.out]
  have B1 := Lib.hid (B0.out.call S1 (by omega))
  have SN1 := Lib.hid (S0.out.call S1)
  obtain ⟨n1, D1⟩ := SN1.out.dic
  have D1 := Lib.hid D1
  have hz1 : w.heap.size < w1.heap.size := B1.out.has.lt
  clear S1
  go_wp2_with fail
  refine (HE.out h _ SN1.out.imm g L n1 D1.out).mono ?_
  rintro e w2 ⟨v2, rfl, h2, t2, S2, T2, Z2⟩
  obtain ⟨al2, cl2, ak2, ck2, -, rfl, -, -, -, -, -, -⟩ := T2.open
  have B2 := Lib.hid (B1.out.call S2 (by omega))
  have SN2 := Lib.hid (SN1.out.call S2)
  obtain ⟨n2, D2⟩ := SN2.out.dic
  have D2 := Lib.hid D2
  have E2 := Lib.hid (enc_of T2)
  have hz2 : w.heap.size < w2.heap.size := B2.out.has.lt
  clear S2 T2
  go_wp2_with fail
  refine (HE.out h2 _ SN2.out.imm g L n2 D2.out).mono ?_
  rintro e w3 ⟨v3, rfl, h3, t3, S3, T3, Z3⟩
  obtain ⟨al3, cl3, ak3, ck3, -, rfl, -, -, -, -, -, -⟩ := T3.open
  have B3 := Lib.hid (B2.out.call S3 (by omega))
  have SN3 := Lib.hid (SN2.out.call S3)
  obtain ⟨n3, D3⟩ := SN3.out.dic
  have D3 := Lib.hid D3
  have E3 := Lib.hid (enc_of T3)
  have hz3 : w.heap.size < w3.heap.size := B3.out.has.lt
  replace E2 := Lib.hid (E2.out.mono S3.le)
  clear S3 T3
  go_wp2_with fail
  refine (HE.out h3 _ SN3.out.imm g L n3 D3.out).mono ?_
  rintro e w4 ⟨v4, rfl, h4, t4, S4, T4, Z4⟩
  obtain ⟨al4, cl4, ak4, ck4, -, rfl, -, -, -, -, -, -⟩ := T4.open
  have B4 := Lib.hid (B3.out.call S4 (by omega))
  have SN4 := Lib.hid (SN3.out.call S4)
  obtain ⟨n4, D4⟩ := SN4.out.dic
  have D4 := Lib.hid D4
  have E4 := Lib.hid (enc_of T4)
  have hz4 : w.heap.size < w4.heap.size := B4.out.has.lt
  replace E2 := Lib.hid (E2.out.mono S4.le)
  replace E3 := Lib.hid (E3.out.mono S4.le)
  clear S4 T4
  have ⟨⟨k0, k1, k2, k3⟩, z0, z1, z2, z3⟩ := B4.out.four
  have hy : w.heap.size < w4.heap.size + 1 := by omega
  go_wp2_with fail
  refine bodyPost_ret (v := .agg #[.int .i64 19, .string ⟨#[]⟩, .slice none 0 0, .slice (some ⟨w4.heap.size, 0, none⟩) 3 3]) (by simp [results, Try.results48, go_sem, k0, k1, k2, k3, hz4]) rfl ?_
  have SL := (SN4.out.set4 (Nat.le_refl _) B4.out.no (.int .i64 19) (.string ⟨#[]⟩) (.slice none 0 0) (.slice (some ⟨w4.heap.size, 0, none⟩) 3 3)).lay [.int .i64 t2.kind, .string t2.text, .slice al2 t2.leads.length cl2, .slice ak2 t2.kids.length ck2, .int .i64 t3.kind, .string t3.text, .slice al3 t3.leads.length cl3, .slice ak3 t3.kids.length ck3, .int .i64 t4.kind, .string t4.text, .slice al4 t4.leads.length cl4, .slice ak4 t4.kids.length ck4] 25 w4.heap.size (by simp [World.setCell])
  have hle : h4.le (h4.add w4.heap.size ([.int .i64 t2.kind, .string t2.text, .slice al2 t2.leads.length cl2, .slice ak2 t2.kids.length ck2, .int .i64 t3.kind, .string t3.text, .slice al3 t3.leads.length cl3, .slice ak3 t3.kids.length ck3, .int .i64 t4.kind, .string t4.text, .slice al4 t4.leads.length cl4, .slice ak4 t4.kids.length ck4] : List Value).toArray) := Hp.le_add _ SN4.out.imm.size_none
  exact ⟨_, rfl, _, .node 19 ⟨#[]⟩ [] [t2, t3, t4], SL, kids_tree (add_self _ _ _) ((EncL.one (E2.out.mono hle)).append ((EncL.one (E3.out.mono hle)).append (EncL.one (E4.out.mono hle)))) 3 rfl (by simp) _ (by unfold I64; omega) _, by show Tree.size _ ≤ _; simp only [Tree.size, sizes]; omega⟩

set_option maxRecDepth 100000 in
set_option maxHeartbeats 4000000 in
theorem exprS10 (m B : Nat) (hm : m ≤ 100) (E : ExprC m B) (h : Hp) (w : World) (hi : Imm h w) (g : Nat) (L : List Int) (n : Nat) (d : Dic h w g L n) (hr : nextP L n 14 = 10) :
    Calls Try.prog 48 #[.pointer (some ⟨g, 0, none⟩), .int .i64 ((m + 1 : Nat) : Int)] w (TRes g L h w fun t => t.size ≤ 3 * B + 6) := by
  have HI := Lib.hid hi
  have D := Lib.hid d
  have HR := Lib.hid hr
  have hgl := d.lt
  clear hi d hr
  have e1 : ((m + 1 : Nat) : Int) - 1 = (m : Int) := by omega
  have e2 : ¬ ((m + 1 : Nat) : Int) < 1 := by omega
  have e3 : (m : Int) + 1 - 1 = (m : Int) := by omega
  have HE := Lib.hid E
  clear E
  go_enter Try.func48, Try.ntmps48
  go_wp2_with fail
  have B0 := Lib.hid (Bx.new HI.out #[.int .i64 0, .string ⟨#[]⟩, .slice none 0 0, .slice none 0 0] 25)
  have S0 := Lib.hid ((DSt.refl HI.out D.out).alloc (Obj.cells #[.int .i64 0, .string ⟨#[]⟩, .slice none 0 0, .slice none 0 0] 25))
  refine (next_any h _ S0.out.imm g L n (D.out.alloc _) 14 (by omega) (by omega)).mono ?_
  rintro e w1 ⟨rfl, S1⟩
  rw [HR.out]
  have B1 := Lib.hid (B0.out.call S1 (by omega))
  have SN1 := Lib.hid (S0.out.call S1)
  obtain ⟨n1, D1⟩ := SN1.out.dic
  have D1 := Lib.hid D1
  have hz1 : w.heap.size < w1.heap.size := B1.out.has.lt
  clear S1
  go_wp2_with fail
  refine (pick_any h _ (SN1.out.imm.alloc _) g L n1 (D1.out.alloc _) w1.heap.size 3 3 #[.string ⟨#[120]⟩, .string ⟨#[121]⟩, .string ⟨#[122]⟩] (Has.new w1 _ _) (by omega) (by omega) (by omega) (fun i hi => strs_ok [.string ⟨#[120]⟩, .string ⟨#[121]⟩, .string ⟨#[122]⟩] rfl i hi)).mono ?_
  rintro e w2 ⟨s2, rfl, S2⟩
  have B2 := Lib.hid ((B1.out.alloc _).call S2 (by omega))
  have SN2 := Lib.hid ((SN1.out.alloc _).call S2)
  obtain ⟨n2, D2⟩ := SN2.out.dic
  have D2 := Lib.hid D2
  have hz2 : w.heap.size < w2.heap.size := B2.out.has.lt
  clear S2
  go_wp2_with fail
  refine (HE.out h _ SN2.out.imm g L n2 D2.out).mono ?_
  rintro e w3 ⟨v3, rfl, h3, t3, S3, T3, Z3⟩
  obtain ⟨al3, cl3, ak3, ck3, -, rfl, -, -, -, -, -, -⟩ := T3.open
  have B3 := Lib.hid (B2.out.call S3 (by omega))
  have SN3 := Lib.hid (SN2.out.call S3)
  obtain ⟨n3, D3⟩ := SN3.out.dic
  have D3 := Lib.hid D3
  have E3 := Lib.hid (enc_of T3)
  have hz3 : w.heap.size < w3.heap.size := B3.out.has.lt
  clear S3 T3
  go_wp2_with fail
  refine (HE.out h3 _ SN3.out.imm g L n3 D3.out).mono ?_
  rintro e w4 ⟨v4, rfl, h4, t4, S4, T4, Z4⟩
  obtain ⟨al4, cl4, ak4, ck4, -, rfl, -, -, -, -, -, -⟩ := T4.open
  have B4 := Lib.hid (B3.out.call S4 (by omega))
  have SN4 := Lib.hid (SN3.out.call S4)
  obtain ⟨n4, D4⟩ := SN4.out.dic
  have D4 := Lib.hid D4
  have E4 := Lib.hid (enc_of T4)
  have hz4 : w.heap.size < w4.heap.size := B4.out.has.lt
  replace E3 := Lib.hid (E3.out.mono S4.le)
  clear S4 T4
  have ⟨⟨k0, k1, k2, k3⟩, z0, z1, z2, z3⟩ := B4.out.four
  have hy : w.heap.size < w4.heap.size + 1 := by omega
  go_wp2_with fail
  refine bodyPost_ret (v := .agg #[.int .i64 20, .string s2, .slice none 0 0, .slice (some ⟨w4.heap.size, 0, none⟩) 2 2]) (by simp [results, Try.results48, go_sem, k0, k1, k2, k3, hz4]) rfl ?_
  have SL := (SN4.out.set4 (Nat.le_refl _) B4.out.no (.int .i64 20) (.string s2) (.slice none 0 0) (.slice (some ⟨w4.heap.size, 0, none⟩) 2 2)).lay [.int .i64 t3.kind, .string t3.text, .slice al3 t3.leads.length cl3, .slice ak3 t3.kids.length ck3, .int .i64 t4.kind, .string t4.text, .slice al4 t4.leads.length cl4, .slice ak4 t4.kids.length ck4] 25 w4.heap.size (by simp [World.setCell])
  have hle : h4.le (h4.add w4.heap.size ([.int .i64 t3.kind, .string t3.text, .slice al3 t3.leads.length cl3, .slice ak3 t3.kids.length ck3, .int .i64 t4.kind, .string t4.text, .slice al4 t4.leads.length cl4, .slice ak4 t4.kids.length ck4] : List Value).toArray) := Hp.le_add _ SN4.out.imm.size_none
  exact ⟨_, rfl, _, .node 20 s2 [] [t3, t4], SL, kids_tree (add_self _ _ _) ((EncL.one (E3.out.mono hle)).append (EncL.one (E4.out.mono hle))) 2 rfl (by simp) _ (by unfold I64; omega) _, by show Tree.size _ ≤ _; simp only [Tree.size, sizes]; omega⟩

set_option maxRecDepth 100000 in
set_option maxHeartbeats 4000000 in
theorem exprS11 (m B : Nat) (hm : m ≤ 100) (E : ExprC m B) (h : Hp) (w : World) (hi : Imm h w) (g : Nat) (L : List Int) (n : Nat) (d : Dic h w g L n) (hr : nextP L n 14 = 11) :
    Calls Try.prog 48 #[.pointer (some ⟨g, 0, none⟩), .int .i64 ((m + 1 : Nat) : Int)] w (TRes g L h w fun t => t.size ≤ 3 * B + 6) := by
  have HI := Lib.hid hi
  have D := Lib.hid d
  have HR := Lib.hid hr
  have hgl := d.lt
  clear hi d hr
  have e1 : ((m + 1 : Nat) : Int) - 1 = (m : Int) := by omega
  have e2 : ¬ ((m + 1 : Nat) : Int) < 1 := by omega
  have e3 : (m : Int) + 1 - 1 = (m : Int) := by omega
  have HE := Lib.hid E
  clear E
  go_enter Try.func48, Try.ntmps48
  go_wp2_with fail
  have B0 := Lib.hid (Bx.new HI.out #[.int .i64 0, .string ⟨#[]⟩, .slice none 0 0, .slice none 0 0] 25)
  have S0 := Lib.hid ((DSt.refl HI.out D.out).alloc (Obj.cells #[.int .i64 0, .string ⟨#[]⟩, .slice none 0 0, .slice none 0 0] 25))
  refine (next_any h _ S0.out.imm g L n (D.out.alloc _) 14 (by omega) (by omega)).mono ?_
  rintro e w1 ⟨rfl, S1⟩
  rw [HR.out]
  have B1 := Lib.hid (B0.out.call S1 (by omega))
  have SN1 := Lib.hid (S0.out.call S1)
  obtain ⟨n1, D1⟩ := SN1.out.dic
  have D1 := Lib.hid D1
  have hz1 : w.heap.size < w1.heap.size := B1.out.has.lt
  clear S1
  go_wp2_with fail
  refine (pick_any h _ (SN1.out.imm.alloc _) g L n1 (D1.out.alloc _) w1.heap.size 3 3 #[.string ⟨#[120]⟩, .string ⟨#[121]⟩, .string ⟨#[122]⟩] (Has.new w1 _ _) (by omega) (by omega) (by omega) (fun i hi => strs_ok [.string ⟨#[120]⟩, .string ⟨#[121]⟩, .string ⟨#[122]⟩] rfl i hi)).mono ?_
  rintro e w2 ⟨s2, rfl, S2⟩
  have B2 := Lib.hid ((B1.out.alloc _).call S2 (by omega))
  have SN2 := Lib.hid ((SN1.out.alloc _).call S2)
  obtain ⟨n2, D2⟩ := SN2.out.dic
  have D2 := Lib.hid D2
  have hz2 : w.heap.size < w2.heap.size := B2.out.has.lt
  clear S2
  go_wp2_with fail
  refine (HE.out h _ SN2.out.imm g L n2 D2.out).mono ?_
  rintro e w3 ⟨v3, rfl, h3, t3, S3, T3, Z3⟩
  obtain ⟨al3, cl3, ak3, ck3, -, rfl, -, -, -, -, -, -⟩ := T3.open
  have B3 := Lib.hid (B2.out.call S3 (by omega))
  have SN3 := Lib.hid (SN2.out.call S3)
  obtain ⟨n3, D3⟩ := SN3.out.dic
  have D3 := Lib.hid D3
  have E3 := Lib.hid (enc_of T3)
  have hz3 : w.heap.size < w3.heap.size := B3.out.has.lt
  clear S3 T3
  go_wp2_with fail
  refine (HE.out h3 _ SN3.out.imm g L n3 D3.out).mono ?_
  rintro e w4 ⟨v4, rfl, h4, t4, S4, T4, Z4⟩
  obtain ⟨al4, cl4, ak4, ck4, -, rfl, -, -, -, -, -, -⟩ := T4.open
  have B4 := Lib.hid (B3.out.call S4 (by omega))
  have SN4 := Lib.hid (SN3.out.call S4)
  obtain ⟨n4, D4⟩ := SN4.out.dic
  have D4 := Lib.hid D4
  have E4 := Lib.hid (enc_of T4)
  have hz4 : w.heap.size < w4.heap.size := B4.out.has.lt
  replace E3 := Lib.hid (E3.out.mono S4.le)
  clear S4 T4
  have ⟨⟨k0, k1, k2, k3⟩, z0, z1, z2, z3⟩ := B4.out.four
  have hy : w.heap.size < w4.heap.size + 1 := by omega
  go_wp2_with fail
  refine bodyPost_ret (v := .agg #[.int .i64 20, .string s2, .slice none 0 0, .slice (some ⟨w4.heap.size, 0, none⟩) 2 2]) (by simp [results, Try.results48, go_sem, k0, k1, k2, k3, hz4]) rfl ?_
  have SL := (SN4.out.set4 (Nat.le_refl _) B4.out.no (.int .i64 20) (.string s2) (.slice none 0 0) (.slice (some ⟨w4.heap.size, 0, none⟩) 2 2)).lay [.int .i64 t3.kind, .string t3.text, .slice al3 t3.leads.length cl3, .slice ak3 t3.kids.length ck3, .int .i64 t4.kind, .string t4.text, .slice al4 t4.leads.length cl4, .slice ak4 t4.kids.length ck4] 25 w4.heap.size (by simp [World.setCell])
  have hle : h4.le (h4.add w4.heap.size ([.int .i64 t3.kind, .string t3.text, .slice al3 t3.leads.length cl3, .slice ak3 t3.kids.length ck3, .int .i64 t4.kind, .string t4.text, .slice al4 t4.leads.length cl4, .slice ak4 t4.kids.length ck4] : List Value).toArray) := Hp.le_add _ SN4.out.imm.size_none
  exact ⟨_, rfl, _, .node 20 s2 [] [t3, t4], SL, kids_tree (add_self _ _ _) ((EncL.one (E3.out.mono hle)).append (EncL.one (E4.out.mono hle))) 2 rfl (by simp) _ (by unfold I64; omega) _, by show Tree.size _ ≤ _; simp only [Tree.size, sizes]; omega⟩

set_option maxRecDepth 100000 in
set_option maxHeartbeats 4000000 in
theorem exprS13 (m B : Nat) (hm : m ≤ 100) (E : ExprC m B) (h : Hp) (w : World) (hi : Imm h w) (g : Nat) (L : List Int) (n : Nat) (d : Dic h w g L n) (hr : nextP L n 14 = 13) :
    Calls Try.prog 48 #[.pointer (some ⟨g, 0, none⟩), .int .i64 ((m + 1 : Nat) : Int)] w (TRes g L h w fun t => t.size ≤ 3 * B + 6) := by
  have HI := Lib.hid hi
  have D := Lib.hid d
  have HR := Lib.hid hr
  have hgl := d.lt
  clear hi d hr
  have e1 : ((m + 1 : Nat) : Int) - 1 = (m : Int) := by omega
  have e2 : ¬ ((m + 1 : Nat) : Int) < 1 := by omega
  have e3 : (m : Int) + 1 - 1 = (m : Int) := by omega
  have HE := Lib.hid E
  clear E
  go_enter Try.func48, Try.ntmps48
  go_wp2_with fail
  have B0 := Lib.hid (Bx.new HI.out #[.int .i64 0, .string ⟨#[]⟩, .slice none 0 0, .slice none 0 0] 25)
  have S0 := Lib.hid ((DSt.refl HI.out D.out).alloc (Obj.cells #[.int .i64 0, .string ⟨#[]⟩, .slice none 0 0, .slice none 0 0] 25))
  refine (next_any h _ S0.out.imm g L n (D.out.alloc _) 14 (by omega) (by omega)).mono ?_
  rintro e w1 ⟨rfl, S1⟩
  rw [HR.out]
  have B1 := Lib.hid (B0.out.call S1 (by omega))
  have SN1 := Lib.hid (S0.out.call S1)
  obtain ⟨n1, D1⟩ := SN1.out.dic
  have D1 := Lib.hid D1
  have hz1 : w.heap.size < w1.heap.size := B1.out.has.lt
  clear S1
  go_wp2_with fail
  refine (HE.out h _ SN1.out.imm g L n1 D1.out).mono ?_
  rintro e w2 ⟨v2, rfl, h2, t2, S2, T2, Z2⟩
  obtain ⟨al2, cl2, ak2, ck2, -, rfl, -, -, -, -, -, -⟩ := T2.open
  have B2 := Lib.hid (B1.out.call S2 (by omega))
  have SN2 := Lib.hid (SN1.out.call S2)
  obtain ⟨n2, D2⟩ := SN2.out.dic
  have D2 := Lib.hid D2
  have E2 := Lib.hid (enc_of T2)
  have hz2 : w.heap.size < w2.heap.size := B2.out.has.lt
  clear S2 T2
  have ⟨⟨k0, k1, k2, k3⟩, z0, z1, z2, z3⟩ := B2.out.four
  have hy : w.heap.size < w2.heap.size + 1 := by omega
  go_wp2_with fail
  refine bodyPost_ret (v := .agg #[.int .i64 22, .string ⟨#[]⟩, .slice none 0 0, .slice (some ⟨w2.heap.size, 0, none⟩) 1 1]) (by simp [results, Try.results48, go_sem, k0, k1, k2, k3, hz2]) rfl ?_
  have SL := (SN2.out.set4 (Nat.le_refl _) B2.out.no (.int .i64 22) (.string ⟨#[]⟩) (.slice none 0 0) (.slice (some ⟨w2.heap.size, 0, none⟩) 1 1)).lay [.int .i64 t2.kind, .string t2.text, .slice al2 t2.leads.length cl2, .slice ak2 t2.kids.length ck2] 25 w2.heap.size (by simp [World.setCell])
  have hle : h2.le (h2.add w2.heap.size ([.int .i64 t2.kind, .string t2.text, .slice al2 t2.leads.length cl2, .slice ak2 t2.kids.length ck2] : List Value).toArray) := Hp.le_add _ SN2.out.imm.size_none
  exact ⟨_, rfl, _, .node 22 ⟨#[]⟩ [] [t2], SL, kids_tree (add_self _ _ _) (EncL.one (E2.out.mono hle)) 1 rfl (by simp) _ (by unfold I64; omega) _, by show Tree.size _ ≤ _; simp only [Tree.size, sizes]; omega⟩

end Go.Proofs.Ytfifbadepebpeaa
