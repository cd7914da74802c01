/- Expr: the ways without kids. -/
import Derived.Test.YtfifbadepebpeaaBe
namespace Go.Proofs.Ytfifbadepebpeaa
open Go.RowKit

set_option maxRecDepth 100000 in
set_option maxHeartbeats 4000000 in
theorem exprZ0 (h : Hp) (w : World) (hi : Imm h w) (g : Nat) (L : List Int) (n : Nat) (d : Dic h w g L n) (hr : nextP L n 14 = 0) :
    Calls Try.prog 48 #[.pointer (some ⟨g, 0, none⟩), .int .i64 0] w (TRes g L h w fun t => t.size ≤ 1) := by
  have HI := Lib.hid hi
  have D := Lib.hid d
  have HR := Lib.hid hr
  have hgl := d.lt
  clear hi d hr
  go_enter Try.func48, Try.ntmps48
  go_wp2_with fail
  have B0 := Lib.hid (Bx.new HI.out #[.int .i64 0, .string ⟨#[]⟩, .slice none 0 0, .slice none 0 0] 25)
  have S0 := Lib.hid ((DSt.refl HI.out D.out).alloc (Obj.cells #[.int .i64 0, .string ⟨#[]⟩, .slice none 0 0, .slice none 0 0] 25))
  refine (next_any h _ S0.out.imm g L n (D.out.alloc _) 14 (by omega) (by omega)).mono ?_
  rintro e w1 ⟨rfl, S1⟩
  rw [HR.out]
  have B1 := Lib.hid (B0.out.call S1 (by omega))
  have SN1 := Lib.hid (S0.out.call S1)
  obtain ⟨n1, D1⟩ := SN1.out.dic
  have D1 := Lib.hid D1
  have hz1 : w.heap.size < w1.heap.size := B1.out.has.lt
  clear S1
  go_wp2_with fail
  refine (pick_any h _ (SN1.out.imm.alloc _) g L n1 (D1.out.alloc _) w1.heap.size 3 3 #[.string ⟨#[120]⟩, .string ⟨#[121]⟩, .string ⟨#[122]⟩] (Has.new w1 _ _) (by omega) (by omega) (by omega) (fun i hi => strs_ok [.string ⟨#[120]⟩, .string ⟨#[121]⟩, .string ⟨#[122]⟩] rfl i hi)).mono ?_
  rintro e w2 ⟨s2, rfl, S2⟩
  have B2 := Lib.hid ((B1.out.alloc _).call S2 (by omega))
  have SN2 := Lib.hid ((SN1.out.alloc _).call S2)
  obtain ⟨n2, D2⟩ := SN2.out.dic
  have D2 := Lib.hid D2
  have hz2 : w.heap.size < w2.heap.size := B2.out.has.lt
  clear S2
  have ⟨⟨k0, k1, k2, k3⟩, z0, z1, z2, z3⟩ := B2.out.four
  go_wp2_with fail
  refine bodyPost_ret (v := .agg #[.int .i64 12, .string s2, .slice none 0 0, .slice none 0 0]) (by simp [results, Try.results48, go_sem, k0, k1, k2, k3]) rfl ?_
  exact ⟨_, rfl, h, .node 12 s2 [] [], SN2.out.set4 (Nat.le_refl _) B2.out.no _ _ _ _, leaf_tree _ _ (by unfold I64; omega) _, leaf_le (by omega)⟩

set_option maxRecDepth 100000 in
set_option maxHeartbeats 4000000 in
theorem exprZ1 (h : Hp) (w : World) (hi : Imm h w) (g : Nat) (L : List Int) (n : Nat) (d : Dic h w g L n) (hr : nextP L n 14 = 1) :
    Calls Try.prog 48 #[.pointer (some ⟨g, 0, none⟩), .int .i64 0] w (TRes g L h w fun t => t.size ≤ 1) := by
  have HI := Lib.hid hi
  have D := Lib.hid d
  have HR := Lib.hid hr
  have hgl := d.lt
  clear hi d hr
  go_enter Try.func48, Try.ntmps48
  go_wp2_with fail
  have B0 := Lib.hid (Bx.new HI.out #[.int .i64 0, .string ⟨#[]⟩, .slice none 0 0, .slice none 0 0] 25)
  have S0 := Lib.hid ((DSt.refl HI.out D.out).alloc (Obj.cells #[.int .i64 0, .string ⟨#[]⟩, .slice none 0 0, .slice none 0 0] 25))
  refine (next_any h _ S0.out.imm g L n (D.out.alloc _) 14 (by omega) (by omega)).mono ?_
  rintro e w1 ⟨rfl, S1⟩
  rw [HR.out]
  have B1 := Lib.hid (B0.out.call S1 (by omega))
  have SN1 := Lib.hid (S0.out.call S1)
  obtain ⟨n1, D1⟩ := SN1.out.dic
  have D1 := Lib.hid D1
  have hz1 : w.heap.size < w1.heap.size := B1.out.has.lt
  clear S1
  go_wp2_with fail
  refine (pick_any h _ (SN1.out.imm.alloc _) g L n1 (D1.out.alloc _) w1.heap.size 3 3 #[.string ⟨#[120]⟩, .string ⟨#[121]⟩, .string ⟨#[122]⟩] (Has.new w1 _ _) (by omega) (by omega) (by omega) (fun i hi => strs_ok [.string ⟨#[120]⟩, .string ⟨#[121]⟩, .string ⟨#[122]⟩] rfl i hi)).mono ?_
  rintro e w2 ⟨s2, rfl, S2⟩
  have B2 := Lib.hid ((B1.out.alloc _).call S2 (by omega))
  have SN2 := Lib.hid ((SN1.out.alloc _).call S2)
  obtain ⟨n2, D2⟩ := SN2.out.dic
  have D2 := Lib.hid D2
  have hz2 : w.heap.size < w2.heap.size := B2.out.has.lt
  clear S2
  have ⟨⟨k0, k1, k2, k3⟩, z0, z1, z2, z3⟩ := B2.out.four
  go_wp2_with fail
  refine bodyPost_ret (v := .agg #[.int .i64 12, .string s2, .slice none 0 0, .slice none 0 0]) (by simp [results, Try.results48, go_sem, k0, k1, k2, k3]) rfl ?_
  exact ⟨_, rfl, h, .node 12 s2 [] [], SN2.out.set4 (Nat.le_refl _) B2.out.no _ _ _ _, leaf_tree _ _ (by unfold I64; omega) _, leaf_le (by omega)⟩

set_option maxRecDepth 100000 in
set_option maxHeartbeats 4000000 in
theorem exprZ2 (h : Hp) (w : World) (hi : Imm h w) (g : Nat) (L : List Int) (n : Nat) (d : Dic h w g L n) (hr : nextP L n 14 = 2) :
    Calls Try.prog 48 #[.pointer (some ⟨g, 0, none⟩), .int .i64 0] w (TRes g L h w fun t => t.size ≤ 1) := by
  have HI := Lib.hid hi
  have D := Lib.hid d
  have HR := Lib.hid hr
  have hgl := d.lt
  clear hi d hr
  go_enter Try.func48, Try.ntmps48
  go_wp2_with fail
  have B0 := Lib.hid (Bx.new HI.out #[.int .i64 0, .string ⟨#[]⟩, .slice none 0 0, .slice none 0 0] 25)
  have S0 := Lib.hid ((DSt.refl HI.out D.out).alloc (Obj.cells #[.int .i64 0, .string ⟨#[]⟩, .slice none 0 0, .slice none 0 0] 25))
  refine (next_any h _ S0.out.imm g L n (D.out.alloc _) 14 (by omega) (by omega)).mono ?_
  rintro e w1 ⟨rfl, S1⟩
  rw [HR.out]
  have B1 := Lib.hid (B0.out.call S1 (by omega))
  have SN1 := Lib.hid (S0.out.call S1)
  obtain ⟨n1, D1⟩ := SN1.out.dic
  have D1 := Lib.hid D1
  have hz1 : w.heap.size < w1.heap.size := B1.out.has.lt
  clear S1
  go_wp2_with fail
  refine (pick_any h _ (SN1.out.imm.alloc _) g L n1 (D1.out.alloc _) w1.heap.size 4 4 #[.string ⟨#[48]⟩, .string ⟨#[49]⟩, .string ⟨#[50]⟩, .string ⟨#[49, 48]⟩] (Has.new w1 _ _) (by omega) (by omega) (by omega) (fun i hi => strs_ok [.string ⟨#[48]⟩, .string ⟨#[49]⟩, .string ⟨#[50]⟩, .string ⟨#[49, 48]⟩] rfl i hi)).mono ?_
  rintro e w2 ⟨s2, rfl, S2⟩
  have B2 := Lib.hid ((B1.out.alloc _).call S2 (by omega))
  have SN2 := Lib.hid ((SN1.out.alloc _).call S2)
  obtain ⟨n2, D2⟩ := SN2.out.dic
  have D2 := Lib.hid D2
  have hz2 : w.heap.size < w2.heap.size := B2.out.has.lt
  clear S2
  have ⟨⟨k0, k1, k2, k3⟩, z0, z1, z2, z3⟩ := B2.out.four
  go_wp2_with fail
  refine bodyPost_ret (v := .agg #[.int .i64 10, .string s2, .slice none 0 0, .slice none 0 0]) (by simp [results, Try.results48, go_sem, k0, k1, k2, k3]) rfl ?_
  exact ⟨_, rfl, h, .node 10 s2 [] [], SN2.out.set4 (Nat.le_refl _) B2.out.no _ _ _ _, leaf_tree _ _ (by unfold I64; omega) _, leaf_le (by omega)⟩

set_option maxRecDepth 100000 in
set_option maxHeartbeats 4000000 in
theorem exprZ3 (h : Hp) (w : World) (hi : Imm h w) (g : Nat) (L : List Int) (n : Nat) (d : Dic h w g L n) (hr : nextP L n 14 = 3) :
    Calls Try.prog 48 #[.pointer (some ⟨g, 0, none⟩), .int .i64 0] w (TRes g L h w fun t => t.size ≤ 1) := by
  have HI := Lib.hid hi
  have D := Lib.hid d
  have HR := Lib.hid hr
  have hgl := d.lt
  clear hi d hr
  go_enter Try.func48, Try.ntmps48
  go_wp2_with fail
  have B0 := Lib.hid (Bx.new HI.out #[.int .i64 0, .string ⟨#[]⟩, .slice none 0 0, .slice none 0 0] 25)
  have S0 := Lib.hid ((DSt.refl HI.out D.out).alloc (Obj.cells #[.int .i64 0, .string ⟨#[]⟩, .slice none 0 0, .slice none 0 0] 25))
  refine (next_any h _ S0.out.imm g L n (D.out.alloc _) 14 (by omega) (by omega)).mono ?_
  rintro e w1 ⟨rfl, S1⟩
  rw [HR.out]
  have B1 := Lib.hid (B0.out.call S1 (by omega))
  have SN1 := Lib.hid (S0.out.call S1)
  obtain ⟨n1, D1⟩ := SN1.out.dic
  have D1 := Lib.hid D1
  have hz1 : w.heap.size < w1.heap.size := B1.out.has.lt
  clear S1
  go_wp2_with fail
  refine (pick_any h _ (SN1.out.imm.alloc _) g L n1 (D1.out.alloc _) w1.heap.size 3 3 #[.string ⟨#[34, 34]⟩, .string ⟨#[34, 97, 34]⟩, .string ⟨#[34, 35, 32, 98, 34]⟩] (Has.new w1 _ _) (by omega) (by omega) (by omega) (fun i hi => strs_ok [.string ⟨#[34, 34]⟩, .string ⟨#[34, 97, 34]⟩, .string ⟨#[34, 35, 32, 98, 34]⟩] rfl i hi)).mono ?_
  rintro e w2 ⟨s2, rfl, S2⟩
  have B2 := Lib.hid ((B1.out.alloc _).call S2 (by omega))
  have SN2 := Lib.hid ((SN1.out.alloc _).call S2)
  obtain ⟨n2, D2⟩ := SN2.out.dic
  have D2 := Lib.hid D2
  have hz2 : w.heap.size < w2.heap.size := B2.out.has.lt
  clear S2
  have ⟨⟨k0, k1, k2, k3⟩, z0, z1, z2, z3⟩ := B2.out.four
  go_wp2_with fail
  refine bodyPost_ret (v := .agg #[.int .i64 11, .string s2, .slice none 0 0, .slice none 0 0]) (by simp [results, Try.results48, go_sem, k0, k1, k2, k3]) rfl ?_
  exact ⟨_, rfl, h, .node 11 s2 [] [], SN2.out.set4 (Nat.le_refl _) B2.out.no _ _ _ _, leaf_tree _ _ (by unfold I64; omega) _, leaf_le (by omega)⟩

set_option maxRecDepth 100000 in
set_option maxHeartbeats 4000000 in
theorem exprZ4 (h : Hp) (w : World) (hi : Imm h w) (g : Nat) (L : List Int) (n : Nat) (d : Dic h w g L n) (hr : nextP L n 14 = 4) :
    Calls Try.prog 48 #[.pointer (some ⟨g, 0, none⟩), .int .i64 0] w (TRes g L h w fun t => t.size ≤ 1) := by
  have HI := Lib.hid hi
  have D := Lib.hid d
  have HR := Lib.hid hr
  have hgl := d.lt
  clear hi d hr
  go_enter Try.func48, Try.ntmps48
  go_wp2_with fail
  have B0 := Lib.hid (Bx.new HI.out #[.int .i64 0, .string ⟨#[]⟩, .slice none 0 0, .slice none 0 0] 25)
  have S0 := Lib.hid ((DSt.refl HI.out D.out).alloc (Obj.cells #[.int .i64 0, .string ⟨#[]⟩, .slice none 0 0, .slice none 0 0] 25))
  refine (next_any h _ S0.out.imm g L n (D.out.alloc _) 14 (by omega) (by omega)).mono ?_
  rintro e w1 ⟨rfl, S1⟩
  rw [HR.out]
  have B1 := Lib.hid (B0.out.call S1 (by omega))
  have SN1 := Lib.hid (S0.out.call S1)
  obtain ⟨n1, D1⟩ := SN1.out.dic
  have D1 := Lib.hid D1
  have hz1 : w.heap.size < w1.heap.size := B1.out.has.lt
  clear S1
  go_wp2_with fail
  refine (next_any h _ SN1.out.imm g L n1 D1.out 2 (by omega) (by omega)).mono ?_
  rintro e w2 ⟨rfl, S2⟩
  have bd2 := nextP_bd L n1 2 (by omega)
  generalize nextP L n1 2 = r2 at *
  have B2 := Lib.hid (B1.out.call S2 (by omega))
  have SN2 := Lib.hid (SN1.out.call S2)
  obtain ⟨n2, D2⟩ := SN2.out.dic
  have D2 := Lib.hid D2
  have hz2 : w.heap.size < w2.heap.size := B2.out.has.lt
  clear S2
  have ⟨⟨k0, k1, k2, k3⟩, z0, z1, z2, z3⟩ := B2.out.four
  go_wp2_with fail
  refine bodyPost_ret (v := .agg #[.int .i64 (13 + r2), .string ⟨#[]⟩, .slice none 0 0, .slice none 0 0]) (by simp [results, Try.results48, go_sem, k0, k1, k2, k3]) rfl ?_
  exact ⟨_, rfl, h, .node (13 + r2) ⟨#[]⟩ [] [], SN2.out.set4 (Nat.le_refl _) B2.out.no _ _ _ _, leaf_tree _ _ (by unfold I64; omega) _, leaf_le (by omega)⟩

set_option maxRecDepth 100000 in
set_option maxHeartbeats 4000000 in
theorem exprZ5 (h : Hp) (w : World) (hi : Imm h w) (g : Nat) (L : List Int) (n : Nat) (d : Dic h w g L n) (hr : nextP L n 14 = 5) :
    Calls Try.prog 48 #[.pointer (some ⟨g, 0, none⟩), .int .i64 0] w (TRes g L h w fun t => t.size ≤ 1) := by
  have HI := Lib.hid hi
  have D := Lib.hid d
  have HR := Lib.hid hr
  have hgl := d.lt
  clear hi d hr
  go_enter Try.func48, Try.ntmps48
  go_wp2_with fail
  have B0 := Lib.hid (Bx.new HI.out #[.int .i64 0, .string ⟨#[]⟩, .slice none 0 0, .slice none 0 0] 25)
  have S0 := Lib.hid ((DSt.refl HI.out D.out).alloc (Obj.cells #[.int .i64 0, .string ⟨#[]⟩, .slice none 0 0, .slice none 0 0] 25))
  refine (next_any h _ S0.out.imm g L n (D.out.alloc _) 14 (by omega) (by omega)).mono ?_
  rintro e w1 ⟨rfl, S1⟩
  rw [HR.out]
  have B1 := Lib.hid (B0.out.call S1 (by omega))
  have SN1 := Lib.hid (S0.out.call S1)
  obtain ⟨n1, D1⟩ := SN1.out.dic
  have D1 := Lib.hid D1
  have hz1 : w.heap.size < w1.heap.size := B1.out.has.lt
  clear S1
  go_wp2_with fail
  refine (next_any h _ SN1.out.imm g L n1 D1.out 3 (by omega) (by omega)).mono ?_
  rintro e w2 ⟨rfl, S2⟩
  have bd2 := nextP_bd L n1 3 (by omega)
  generalize nextP L n1 3 = r2 at *
  have B2 := Lib.hid (B1.out.call S2 (by omega))
  have SN2 := Lib.hid (SN1.out.call S2)
  obtain ⟨n2, D2⟩ := SN2.out.dic
  have D2 := Lib.hid D2
  have hz2 : w.heap.size < w2.heap.size := B2.out.has.lt
  clear S2
  have hc : r2 = 0 ∨ r2 = 1 ∨ r2 = 2 := by omega
  rcases hc with rfl | rfl | rfl
  · have ⟨⟨k0, k1, k2, k3⟩, z0, z1, z2, z3⟩ := B2.out.four
    go_wp2_with fail
    refine bodyPost_ret (v := .agg #[.int .i64 15, .string ⟨#[]⟩, .slice none 0 0, .slice none 0 0]) (by simp [results, Try.results48, go_sem, k0, k1, k2, k3]) rfl ?_
    exact ⟨_, rfl, h, .node 15 ⟨#[]⟩ [] [], SN2.out.set4 (Nat.le_refl _) B2.out.no _ _ _ _, leaf_tree _ _ (by unfold I64; omega) _, leaf_le (by omega)⟩
  · have ⟨⟨k0, k1, k2, k3⟩, z0, z1, z2, z3⟩ := B2.out.four
    go_wp2_with fail
    refine bodyPost_ret (v := .agg #[.int .i64 10, .string ⟨#[51]⟩, .slice none 0 0, .slice none 0 0]) (by simp [results, Try.results48, go_sem, k0, k1, k2, k3]) rfl ?_
    exact ⟨_, rfl, h, .node 10 ⟨#[51]⟩ [] [], SN2.out.set4 (Nat.le_refl _) B2.out.no _ _ _ _, leaf_tree _ _ (by unfold I64; omega) _, leaf_le (by omega)⟩
  · have ⟨⟨k0, k1, k2, k3⟩, z0, z1, z2, z3⟩ := B2.out.four
    go_wp2_with fail
    refine bodyPost_ret (v := .agg #[.int .i64 10, .string ⟨#[51]⟩, .slice none 0 0, .slice none 0 0]) (by simp [results, Try.results48, go_sem, k0, k1, k2, k3]) rfl ?_
    exact ⟨_, rfl, h, .node 10 ⟨#[51]⟩ [] [], SN2.out.set4 (Nat.le_refl _) B2.out.no _ _ _ _, leaf_tree _ _ (by unfold I64; omega) _, leaf_le (by omega)⟩

set_option maxRecDepth 100000 in
set_option maxHeartbeats 4000000 in
theorem exprZ6 (h : Hp) (w : World) (hi : Imm h w) (g : Nat) (L : List Int) (n : Nat) (d : Dic h w g L n) (hr : nextP L n 14 = 6) :
    Calls Try.prog 48 #[.pointer (some ⟨g, 0, none⟩), .int .i64 0] w (TRes g L h w fun t => t.size ≤ 1) := by
  have HI := Lib.hid hi
  have D := Lib.hid d
  have HR := Lib.hid hr
  have hgl := d.lt
  clear hi d hr
  go_enter Try.func48, Try.ntmps48
  go_wp2_with fail
  have B0 := Lib.hid (Bx.new HI.out #[.int .i64 0, .string ⟨#[]⟩, .slice none 0 0, .slice none 0 0] 25)
  have S0 := Lib.hid ((DSt.refl HI.out D.out).alloc (Obj.cells #[.int .i64 0, .string ⟨#[]⟩, .slice none 0 0, .slice none 0 0] 25))
  refine (next_any h _ S0.out.imm g L n (D.out.alloc _) 14 (by omega) (by omega)).mono ?_
  rintro e w1 ⟨rfl, S1⟩
  rw [HR.out]
  have B1 := Lib.hid (B0.out.call S1 (by omega))
  have SN1 := Lib.hid (S0.out.call S1)
  obtain ⟨n1, D1⟩ := SN1.out.dic
  have D1 := Lib.hid D1
  have hz1 : w.heap.size < w1.heap.size := B1.out.has.lt
  clear S1
  go_wp2_with fail
  refine (pick_any h _ (SN1.out.imm.alloc _) g L n1 (D1.out.alloc _) w1.heap.size 3 3 #[.string ⟨#[120]⟩, .string ⟨#[121]⟩, .string ⟨#[122]⟩] (Has.new w1 _ _) (by omega) (by omega) (by omega) (fun i hi => strs_ok [.string ⟨#[120]⟩, .string ⟨#[121]⟩, .string ⟨#[122]⟩] rfl i hi)).mono ?_
  rintro e w2 ⟨s2, rfl, S2⟩
  have B2 := Lib.hid ((B1.out.alloc _).call S2 (by omega))
  have SN2 := Lib.hid ((SN1.out.alloc _).call S2)
  obtain ⟨n2, D2⟩ := SN2.out.dic
  have D2 := Lib.hid D2
  have hz2 : w.heap.size < w2.heap.size := B2.out.has.lt
  clear S2
  have ⟨⟨k0, k1, k2, k3⟩, z0, z1, z2, z3⟩ := B2.out.four
  go_wp2_with fail
  refine bodyPost_ret (v := .agg #[.int .i64 12, .string s2, .slice none 0 0, .slice none 0 0]) (by simp [results, Try.results48, go_sem, k0, k1, k2, k3]) rfl ?_
  exact ⟨_, rfl, h, .node 12 s2 [] [], SN2.out.set4 (Nat.le_refl _) B2.out.no _ _ _ _, leaf_tree _ _ (by unfold I64; omega) _, leaf_le (by omega)⟩

set_option maxRecDepth 100000 in
set_option maxHeartbeats 4000000 in
theorem exprZ7 (h : Hp) (w : World) (hi : Imm h w) (g : Nat) (L : List Int) (n : Nat) (d : Dic h w g L n) (hr : nextP L n 14 = 7) :
    Calls Try.prog 48 #[.pointer (some ⟨g, 0, none⟩), .int .i64 0] w (TRes g L h w fun t => t.size ≤ 1) := by
  have HI := Lib.hid hi
  have D := Lib.hid d
  have HR := Lib.hid hr
  have hgl := d.lt
  clear hi d hr
  go_enter Try.func48, Try.ntmps48
  go_wp2_with fail
  have B0 := Lib.hid (Bx.new HI.out #[.int .i64 0, .string ⟨#[]⟩, .slice none 0 0, .slice none 0 0] 25)
  have S0 := Lib.hid ((DSt.refl HI.out D.out).alloc (Obj.cells #[.int .i64 0, .string ⟨#[]⟩, .slice none 0 0, .slice none 0 0] 25))
  refine (next_any h _ S0.out.imm g L n (D.out.alloc _) 14 (by omega) (by omega)).mono ?_
  rintro e w1 ⟨rfl, S1⟩
  rw [HR.out]
  have B1 := Lib.hid (B0.out.call S1 (by omega))
  have SN1 := Lib.hid (S0.out.call S1)
  obtain ⟨n1, D1⟩ := SN1.out.dic
  have D1 := Lib.hid D1
  have hz1 : w.heap.size < w1.heap.size := B1.out.has.lt
  clear S1
  go_wp2_with fail
  refine (pick_any h _ (SN1.out.imm.alloc _) g L n1 (D1.out.alloc _) w1.heap.size 3 3 #[.string ⟨#[120]⟩, .string ⟨#[121]⟩, .string ⟨#[122]⟩] (Has.new w1 _ _) (by omega) (by omega) (by omega) (fun i hi => strs_ok [.string ⟨#[120]⟩, .string ⟨#[121]⟩, .string ⟨#[122]⟩] rfl i hi)).mono ?_
  rintro e w2 ⟨s2, rfl, S2⟩
  have B2 := Lib.hid ((B1.out.alloc _).call S2 (by omega))
  have SN2 := Lib.hid ((SN1.out.alloc _).call S2)
  obtain ⟨n2, D2⟩ := SN2.out.dic
  have D2 := Lib.hid D2
  have hz2 : w.heap.size < w2.heap.size := B2.out.has.lt
  clear S2
  have ⟨⟨k0, k1, k2, k3⟩, z0, z1, z2, z3⟩ := B2.out.four
  go_wp2_with fail
  refine bodyPost_ret (v := .agg #[.int .i64 12, .string s2, .slice none 0 0, .slice none 0 0]) (by simp [results, Try.results48, go_sem, k0, k1, k2, k3]) rfl ?_
  exact ⟨_, rfl, h, .node 12 s2 [] [], SN2.out.set4 (Nat.le_refl _) B2.out.no _ _ _ _, leaf_tree _ _ (by unfold I64; omega) _, leaf_le (by omega)⟩

set_option maxRecDepth 100000 in
set_option maxHeartbeats 4000000 in
theorem exprZ8 (h : Hp) (w : World) (hi : Imm h w) (g : Nat) (L : List Int) (n : Nat) (d : Dic h w g L n) (hr : nextP L n 14 = 8) :
    Calls Try.prog 48 #[.pointer (some ⟨g, 0, none⟩), .int .i64 0] w (TRes g L h w fun t => t.size ≤ 1) := by
  have HI := Lib.hid hi
  have D := Lib.hid d
  have HR := Lib.hid hr
  have hgl := d.lt
  clear hi d hr
  go_enter Try.func48, Try.ntmps48
  go_wp2_with fail
  have B0 := Lib.hid (Bx.new HI.out #[.int .i64 0, .string ⟨#[]⟩, .slice none 0 0, .slice none 0 0] 25)
  have S0 := Lib.hid ((DSt.refl HI.out D.out).alloc (Obj.cells #[.int .i64 0, .string ⟨#[]⟩, .slice none 0 0, .slice none 0 0] 25))
  refine (next_any h _ S0.out.imm g L n (D.out.alloc _) 14 (by omega) (by omega)).mono ?_
  rintro e w1 ⟨rfl, S1⟩
  rw [HR.out]
  have B1 := Lib.hid (B0.out.call S1 (by omega))
  have SN1 := Lib.hid (S0.out.call S1)
  obtain ⟨n1, D1⟩ := SN1.out.dic
  have D1 := Lib.hid D1
  have hz1 : w.heap.size < w1.heap.size := B1.out.has.lt
  clear S1
  go_wp2_with fail
  refine (pick_any h _ (SN1.out.imm.alloc _) g L n1 (D1.out.alloc _) w1.heap.size 4 4 #[.string ⟨#[48]⟩, .string ⟨#[49]⟩, .string ⟨#[50]⟩, .string ⟨#[49, 48]⟩] (Has.new w1 _ _) (by omega) (by omega) (by omega) (fun i hi => strs_ok [.string ⟨#[48]⟩, .string ⟨#[49]⟩, .string ⟨#[50]⟩, .string ⟨#[49, 48]⟩] rfl i hi)).mono ?_
  rintro e w2 ⟨s2, rfl, S2⟩
  have B2 := Lib.hid ((B1.out.alloc _).call S2 (by omega))
  have SN2 := Lib.hid ((SN1.out.alloc _).call S2)
  obtain ⟨n2, D2⟩ := SN2.out.dic
  have D2 := Lib.hid D2
  have hz2 : w.heap.size < w2.heap.size := B2.out.has.lt
  clear S2
  have ⟨⟨k0, k1, k2, k3⟩, z0, z1, z2, z3⟩ := B2.out.four
  go_wp2_with fail
  refine bodyPost_ret (v := .agg #[.int .i64 10, .string s2, .slice none 0 0, .slice none 0 0]) (by simp [results, Try.results48, go_sem, k0, k1, k2, k3]) rfl ?_
  exact ⟨_, rfl, h, .node 10 s2 [] [], SN2.out.set4 (Nat.le_refl _) B2.out.no _ _ _ _, leaf_tree _ _ (by unfold I64; omega) _, leaf_le (by omega)⟩

set_option maxRecDepth 100000 in
set_option maxHeartbeats 4000000 in
theorem exprZ9 (h : Hp) (w : World) (hi : Imm h w) (g : Nat) (L : List Int) (n : Nat) (d : Dic h w g L n) (hr : nextP L n 14 = 9) :
    Calls Try.prog 48 #[.pointer (some ⟨g, 0, none⟩), .int .i64 0] w (TRes g L h w fun t => t.size ≤ 1) := by
  have HI := Lib.hid hi
  have D := Lib.hid d
  have HR := Lib.hid hr
  have hgl := d.lt
  clear hi d hr
  go_enter Try.func48, Try.ntmps48
  go_wp2_with fail
  have B0 := Lib.hid (Bx.new HI.out #[.int .i64 0, .string ⟨#[]⟩, .slice none 0 0, .slice none 0 0] 25)
  have S0 := Lib.hid ((DSt.refl HI.out D.out).alloc (Obj.cells #[.int .i64 0, .string ⟨#[]⟩, .slice none 0 0, .slice none 0 0] 25))
  refine (next_any h _ S0.out.imm g L n (D.out.alloc _) 14 (by omega) (by omega)).mono ?_
  rintro e w1 ⟨rfl, S1⟩
  rw [HR.out]
  have B1 := Lib.hid (B0.out.call S1 (by omega))
  have SN1 := Lib.hid (S0.out.call S1)
  obtain ⟨n1, D1⟩ := SN1.out.dic
  have D1 := Lib.hid D1
  have hz1 : w.heap.size < w1.heap.size := B1.out.has.lt
  clear S1
  go_wp2_with fail
  refine (pick_any h _ (SN1.out.imm.alloc _) g L n1 (D1.out.alloc _) w1.heap.size 3 3 #[.string ⟨#[34, 34]⟩, .string ⟨#[34, 97, 34]⟩, .string ⟨#[34, 35, 32, 98, 34]⟩] (Has.new w1 _ _) (by omega) (by omega) (by omega) (fun i hi => strs_ok [.string ⟨#[34, 34]⟩, .string ⟨#[34, 97, 34]⟩, .string ⟨#[34, 35, 32, 98, 34]⟩] rfl i hi)).mono ?_
  rintro e w2 ⟨s2, rfl, S2⟩
  have B2 := Lib.hid ((B1.out.alloc _).call S2 (by omega))
  have SN2 := Lib.hid ((SN1.out.alloc _).call S2)
  obtain ⟨n2, D2⟩ := SN2.out.dic
  have D2 := Lib.hid D2
  have hz2 : w.heap.size < w2.heap.size := B2.out.has.lt
  clear S2
  have ⟨⟨k0, k1, k2, k3⟩, z0, z1, z2, z3⟩ := B2.out.four
  go_wp2_with fail
  refine bodyPost_ret (v := .agg #[.int .i64 11, .string s2, .slice none 0 0, .slice none 0 0]) (by simp [results, Try.results48, go_sem, k0, k1, k2, k3]) rfl ?_
  exact ⟨_, rfl, h, .node 11 s2 [] [], SN2.out.set4 (Nat.le_refl _) B2.out.no _ _ _ _, leaf_tree _ _ (by unfold I64; omega) _, leaf_le (by omega)⟩

set_option maxRecDepth 100000 in
set_option maxHeartbeats 4000000 in
theorem exprZ10 (h : Hp) (w : World) (hi : Imm h w) (g : Nat) (L : List Int) (n : Nat) (d : Dic h w g L n) (hr : nextP L n 14 = 10) :
    Calls Try.prog 48 #[.pointer (some ⟨g, 0, none⟩), .int .i64 0] w (TRes g L h w fun t => t.size ≤ 1) := by
  have HI := Lib.hid hi
  have D := Lib.hid d
  have HR := Lib.hid hr
  have hgl := d.lt
  clear hi d hr
  go_enter Try.func48, Try.ntmps48
  go_wp2_with fail
  have B0 := Lib.hid (Bx.new HI.out #[.int .i64 0, .string ⟨#[]⟩, .slice none 0 0, .slice none 0 0] 25)
  have S0 := Lib.hid ((DSt.refl HI.out D.out).alloc (Obj.cells #[.int .i64 0, .string ⟨#[]⟩, .slice none 0 0, .slice none 0 0] 25))
  refine (next_any h _ S0.out.imm g L n (D.out.alloc _) 14 (by omega) (by omega)).mono ?_
  rintro e w1 ⟨rfl, S1⟩
  rw [HR.out]
  have B1 := Lib.hid (B0.out.call S1 (by omega))
  have SN1 := Lib.hid (S0.out.call S1)
  obtain ⟨n1, D1⟩ := SN1.out.dic
  have D1 := Lib.hid D1
  have hz1 : w.heap.size < w1.heap.size := B1.out.has.lt
  clear S1
  go_wp2_with fail
  refine (next_any h _ SN1.out.imm g L n1 D1.out 2 (by omega) (by omega)).mono ?_
  rintro e w2 ⟨rfl, S2⟩
  have bd2 := nextP_bd L n1 2 (by omega)
  generalize nextP L n1 2 = r2 at *
  have B2 := Lib.hid (B1.out.call S2 (by omega))
  have SN2 := Lib.hid (SN1.out.call S2)
  obtain ⟨n2, D2⟩ := SN2.out.dic
  have D2 := Lib.hid D2
  have hz2 : w.heap.size < w2.heap.size := B2.out.has.lt
  clear S2
  have ⟨⟨k0, k1, k2, k3⟩, z0, z1, z2, z3⟩ := B2.out.four
  go_wp2_with fail
  refine bodyPost_ret (v := .agg #[.int .i64 (13 + r2), .string ⟨#[]⟩, .slice none 0 0, .slice none 0 0]) (by simp [results, Try.results48, go_sem, k0, k1, k2, k3]) rfl ?_
  exact ⟨_, rfl, h, .node (13 + r2) ⟨#[]⟩ [] [], SN2.out.set4 (Nat.le_refl _) B2.out.no _ _ _ _, leaf_tree _ _ (by unfold I64; omega) _, leaf_le (by omega)⟩

set_option maxRecDepth 100000 in
set_option maxHeartbeats 4000000 in
theorem exprZ11 (h : Hp) (w : World) (hi : Imm h w) (g : Nat) (L : List Int) (n : Nat) (d : Dic h w g L n) (hr : nextP L n 14 = 11) :
    Calls Try.prog 48 #[.pointer (some ⟨g, 0, none⟩), .int .i64 0] w (TRes g L h w fun t => t.size ≤ 1) := by
  have HI := Lib.hid hi
  have D := Lib.hid d
  have HR := Lib.hid hr
  have hgl := d.lt
  clear hi d hr
  go_enter Try.func48, Try.ntmps48
  go_wp2_with fail
  have B0 := Lib.hid (Bx.new HI.out #[.int .i64 0, .string ⟨#[]⟩, .slice none 0 0, .slice none 0 0] 25)
  have S0 := Lib.hid ((DSt.refl HI.out D.out).alloc (Obj.cells #[.int .i64 0, .string ⟨#[]⟩, .slice none 0 0, .slice none 0 0] 25))
  refine (next_any h _ S0.out.imm g L n (D.out.alloc _) 14 (by omega) (by omega)).mono ?_
  rintro e w1 ⟨rfl, S1⟩
  rw [HR.out]
  have B1 := Lib.hid (B0.out.call S1 (by omega))
  have SN1 := Lib.hid (S0.out.call S1)
  obtain ⟨n1, D1⟩ := SN1.out.dic
  have D1 := Lib.hid D1
  have hz1 : w.heap.size < w1.heap.size := B1.out.has.lt
  clear S1
  go_wp2_with fail
  refine (next_any h _ SN1.out.imm g L n1 D1.out 3 (by omega) (by omega)).mono ?_
  rintro e w2 ⟨rfl, S2⟩
  have bd2 := nextP_bd L n1 3 (by omega)
  generalize nextP L n1 3 = r2 at *
  have B2 := Lib.hid (B1.out.call S2 (by omega))
  have SN2 := Lib.hid (SN1.out.call S2)
  obtain ⟨n2, D2⟩ := SN2.out.dic
  have D2 := Lib.hid D2
  have hz2 : w.heap.size < w2.heap.size := B2.out.has.lt
  clear S2
  have hc : r2 = 0 ∨ r2 = 1 ∨ r2 = 2 := by omega
  rcases hc with rfl | rfl | rfl
  · have ⟨⟨k0, k1, k2, k3⟩, z0, z1, z2, z3⟩ := B2.out.four
    go_wp2_with fail
    refine bodyPost_ret (v := .agg #[.int .i64 15, .string ⟨#[]⟩, .slice none 0 0, .slice none 0 0]) (by simp [results, Try.results48, go_sem, k0, k1, k2, k3]) rfl ?_
    exact ⟨_, rfl, h, .node 15 ⟨#[]⟩ [] [], SN2.out.set4 (Nat.le_refl _) B2.out.no _ _ _ _, leaf_tree _ _ (by unfold I64; omega) _, leaf_le (by omega)⟩
  · have ⟨⟨k0, k1, k2, k3⟩, z0, z1, z2, z3⟩ := B2.out.four
    go_wp2_with fail
    refine bodyPost_ret (v := .agg #[.int .i64 10, .string ⟨#[51]⟩, .slice none 0 0, .slice none 0 0]) (by simp [results, Try.results48, go_sem, k0, k1, k2, k3]) rfl ?_
    exact ⟨_, rfl, h, .node 10 ⟨#[51]⟩ [] [], SN2.out.set4 (Nat.le_refl _) B2.out.no _ _ _ _, leaf_tree _ _ (by unfold I64; omega) _, leaf_le (by omega)⟩
  · have ⟨⟨k0, k1, k2, k3⟩, z0, z1, z2, z3⟩ := B2.out.four
    go_wp2_with fail
    refine bodyPost_ret (v := .agg #[.int .i64 10, .string ⟨#[51]⟩, .slice none 0 0, .slice none 0 0]) (by simp [results, Try.results48, go_sem, k0, k1, k2, k3]) rfl ?_
    exact ⟨_, rfl, h, .node 10 ⟨#[51]⟩ [] [], SN2.out.set4 (Nat.le_refl _) B2.out.no _ _ _ _, leaf_tree _ _ (by unfold I64; omega) _, leaf_le (by omega)⟩

set_option maxRecDepth 100000 in
set_option maxHeartbeats 4000000 in
theorem exprZ12 (h : Hp) (w : World) (hi : Imm h w) (g : Nat) (L : List Int) (n : Nat) (d : Dic h w g L n) (hr : nextP L n 14 = 12) :
    Calls Try.prog 48 #[.pointer (some ⟨g, 0, none⟩), .int .i64 0] w (TRes g L h w fun t => t.size ≤ 1) := by
  have HI := Lib.hid hi
  have D := Lib.hid d
  have HR := Lib.hid hr
  have hgl := d.lt
  clear hi d hr
  go_enter Try.func48, Try.ntmps48
  go_wp2_with fail
  have B0 := Lib.hid (Bx.new HI.out #[.int .i64 0, .string ⟨#[]⟩, .slice none 0 0, .slice none 0 0] 25)
  have S0 := Lib.hid ((DSt.refl HI.out D.out).alloc (Obj.cells #[.int .i64 0, .string ⟨#[]⟩, .slice none 0 0, .slice none 0 0] 25))
  refine (next_any h _ S0.out.imm g L n (D.out.alloc _) 14 (by omega) (by omega)).mono ?_
  rintro e w1 ⟨rfl, S1⟩
  rw [HR.out]
  have B1 := Lib.hid (B0.out.call S1 (by omega))
  have SN1 := Lib.hid (S0.out.call S1)
  obtain ⟨n1, D1⟩ := SN1.out.dic
  have D1 := Lib.hid D1
  have hz1 : w.heap.size < w1.heap.size := B1.out.has.lt
  clear S1
  go_wp2_with fail
  refine (pick_any h _ (SN1.out.imm.alloc _) g L n1 (D1.out.alloc _) w1.heap.size 3 3 #[.string ⟨#[120]⟩, .string ⟨#[121]⟩, .string ⟨#[122]⟩] (Has.new w1 _ _) (by omega) (by omega) (by omega) (fun i hi => strs_ok [.string ⟨#[120]⟩, .string ⟨#[121]⟩, .string ⟨#[122]⟩] rfl i hi)).mono ?_
  rintro e w2 ⟨s2, rfl, S2⟩
  have B2 := Lib.hid ((B1.out.alloc _).call S2 (by omega))
  have SN2 := Lib.hid ((SN1.out.alloc _).call S2)
  obtain ⟨n2, D2⟩ := SN2.out.dic
  have D2 := Lib.hid D2
  have hz2 : w.heap.size < w2.heap.size := B2.out.has.lt
  clear S2
  have ⟨⟨k0, k1, k2, k3⟩, z0, z1, z2, z3⟩ := B2.out.four
  go_wp2_with fail
  refine bodyPost_ret (v := .agg #[.int .i64 12, .string s2, .slice none 0 0, .slice none 0 0]) (by simp [results, Try.results48, go_sem, k0, k1, k2, k3]) rfl ?_
  exact ⟨_, rfl, h, .node 12 s2 [] [], SN2.out.set4 (Nat.le_refl _) B2.out.no _ _ _ _, leaf_tree _ _ (by unfold I64; omega) _, leaf_le (by omega)⟩

set_option maxRecDepth 100000 in
set_option maxHeartbeats 4000000 in
theorem exprZ13 (h : Hp) (w : World) (hi : Imm h w) (g : Nat) (L : List Int) (n : Nat) (d : Dic h w g L n) (hr : nextP L n 14 = 13) :
    Calls Try.prog 48 #[.pointer (some ⟨g, 0, none⟩), .int .i64 0] w (TRes g L h w fun t => t.size ≤ 1) := by
  have HI := Lib.hid hi
  have D := Lib.hid d
  have HR := Lib.hid hr
  have hgl := d.lt
  clear hi d hr
  go_enter Try.func48, Try.ntmps48
  go_wp2_with fail
  have B0 := Lib.hid (Bx.new HI.out #[.int .i64 0, .string ⟨#[]⟩, .slice none 0 0, .slice none 0 0] 25)
  have S0 := Lib.hid ((DSt.refl HI.out D.out).alloc (Obj.cells #[.int .i64 0, .string ⟨#[]⟩, .slice none 0 0, .slice none 0 0] 25))
  refine (next_any h _ S0.out.imm g L n (D.out.alloc _) 14 (by omega) (by omega)).mono ?_
  rintro e w1 ⟨rfl, S1⟩
  rw [HR.out]
  have B1 := Lib.hid (B0.out.call S1 (by omega))
  have SN1 := Lib.hid (S0.out.call S1)
  obtain ⟨n1, D1⟩ := SN1.out.dic
  have D1 := Lib.hid D1
  have hz1 : w.heap.size < w1.heap.size := B1.out.has.lt
  clear S1
  go_wp2_with fail
  refine (pick_any h _ (SN1.out.imm.alloc _) g L n1 (D1.out.alloc _) w1.heap.size 3 3 #[.string ⟨#[120]⟩, .string ⟨#[121]⟩, .string ⟨#[122]⟩] (Has.new w1 _ _) (by omega) (by omega) (by omega) (fun i hi => strs_ok [.string ⟨#[120]⟩, .string ⟨#[121]⟩, .string ⟨#[122]⟩] rfl i hi)).mono ?_
  rintro e w2 ⟨s2, rfl, S2⟩
  have B2 := Lib.hid ((B1.out.alloc _).call S2 (by omega))
  have SN2 := Lib.hid ((SN1.out.alloc _).call S2)
  obtain ⟨n2, D2⟩ := SN2.out.dic
  have D2 := Lib.hid D2
  have hz2 : w.heap.size < w2.heap.size := B2.out.has.lt
  clear S2
  have ⟨⟨k0, k1, k2, k3⟩, z0, z1, z2, z3⟩ := B2.out.four
  go_wp2_with fail
  refine bodyPost_ret (v := .agg #[.int .i64 12, .string s2, .slice none 0 0, .slice none 0 0]) (by simp [results, Try.results48, go_sem, k0, k1, k2, k3]) rfl ?_
  exact ⟨_, rfl, h, .node 12 s2 [] [], SN2.out.set4 (Nat.le_refl _) B2.out.no _ _ _ _, leaf_tree _ _ (by unfold I64; omega) _, leaf_le (by omega)⟩

theorem exprC0 : ExprC 0 1 := by
  intro h w hi g L n d
  have bd := nextP_bd L n 14 (by omega)
  have hr : nextP L n 14 = 0 ∨ nextP L n 14 = 1 ∨ nextP L n 14 = 2 ∨ nextP L n 14 = 3 ∨ nextP L n 14 = 4 ∨ nextP L n 14 = 5 ∨ nextP L n 14 = 6 ∨ nextP L n 14 = 7 ∨ nextP L n 14 = 8 ∨ nextP L n 14 = 9 ∨ nextP L n 14 = 10 ∨ nextP L n 14 = 11 ∨ nextP L n 14 = 12 ∨ nextP L n 14 = 13 := by omega
  rcases hr with hr | hr | hr | hr | hr | hr | hr | hr | hr | hr | hr | hr | hr | hr
  · exact exprZ0 h w hi g L n d hr
  · exact exprZ1 h w hi g L n d hr
  · exact exprZ2 h w hi g L n d hr
  · exact exprZ3 h w hi g L n d hr
  · exact exprZ4 h w hi g L n d hr
  · exact exprZ5 h w hi g L n d hr
  · exact exprZ6 h w hi g L n d hr
  · exact exprZ7 h w hi g L n d hr
  · exact exprZ8 h w hi g L n d hr
  · exact exprZ9 h w hi g L n d hr
  · exact exprZ10 h w hi g L n d hr
  · exact exprZ11 h w hi g L n d hr
  · exact exprZ12 h w hi g L n d hr
  · exact exprZ13 h w hi g L n d hr
end Go.Proofs.Ytfifbadepebpeaa
