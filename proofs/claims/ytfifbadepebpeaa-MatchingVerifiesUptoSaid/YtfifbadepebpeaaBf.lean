/- Expr: the way of a binary expression. -/
import Derived.Test.YtfifbadepebpeaaDe
import Derived.Deep.DrawnRows
import Derived.Deep.AppendLies
import Derived.Deep.RegionLaw
import Derived.Test.YtfifbadepebpeaaBp
namespace Go.Proofs.Ytfifbadepebpeaa
open Go.RowKit
attribute [local go_sem ↓] Go.wp_at_zero Go.wp_at_succ

theorem Has.set1 {w : World} {b : Nat} {c : Array Value} (x : Has w b c) (i : Nat) (hi : i < c.size) (v : Value) : Has (w.setCell ⟨b, i, none⟩ v) b (c.setIfInBounds i v) := by
  refine ⟨by simpa [World.setCell] using x.lt, fun o => ?_, fun o => by have := x.fz o; simp [this]⟩
  by_cases e : o = i
  · subst e
    rw [World.cell?_setCell_same _ _ _ ((x.cl o).trans (Array.getElem?_eq_getElem hi))]
    simp [hi]
  · rw [World.cell?_setCell_other _ _ _ _ (by simp), x.cl o]
    rw [Array.getElem?_setIfInBounds_ne (fun h => e h.symm)]
theorem Bx.set4 {h : Hp} {w : World} {b : Nat} {a0 a1 a2 a3 : Value} (x : Bx h w b #[a0, a1, a2, a3]) (v0 v1 v2 v3 : Value) :
    Bx h ((((w.setCell ⟨b, 0, none⟩ v0).setCell ⟨b, 1, none⟩ v1).setCell ⟨b, 2, none⟩ v2).setCell ⟨b, 3, none⟩ v3) b #[v0, v1, v2, v3] := by
  have := (((x.has.set1 0 (by simp) v0).set1 1 (by simp) v1).set1 2 (by simp) v2).set1 3 (by simp) v3
  exact ⟨by simpa using this, x.no⟩
theorem Bx.ne4 {h : Hp} {w : World} {b b' : Nat} {c : Array Value} (x : Bx h w b c) (hb : b' ≠ b) (v0 v1 v2 v3 : Value) :
    Bx h ((((w.setCell ⟨b', 0, none⟩ v0).setCell ⟨b', 1, none⟩ v1).setCell ⟨b', 2, none⟩ v2).setCell ⟨b', 3, none⟩ v3) b c :=
  ⟨(((x.has.ne hb 0 v0).ne hb 1 v1).ne hb 2 v2).ne hb 3 v3, x.no⟩
theorem Bx.drew {h : Hp} {w : World} {b : Nat} {c : Array Value} (x : Bx h w b c) : Bx h w.drew b c := ⟨x.has.drew, x.no⟩

theorem bin_step {g : Nat} {L : List Int} {h h6 : Hp} {w w6 : World} {b : Nat} {t3 t6 : Tree} {al3 ak3 al6 ak6 : Option Addr} {cl3 ck3 cl6 ck6 : Nat} {Z : Array Value} {u0 u1 u2 u3 : Value} (SN : DSt g L h w h6 w6) (B : Bx h6 w6 w.heap.size Z) (C6 : Bx h6 w6 b #[u0, u1, u2, u3])
    (E3 : EncTree h6 t3 [.int .i64 t3.kind, .string t3.text, .slice al3 t3.leads.length cl3, .slice ak3 t3.kids.length ck3]) (E6 : EncTree h6 t6 [.int .i64 t6.kind, .string t6.text, .slice al6 t6.leads.length cl6, .slice ak6 t6.kids.length ck6]) (hb : w.heap.size ≤ b) (hne : b ≠ w.heap.size) (s5 : ByteArray) :
    ∃ h7, DSt g L h w h7 (((((w6.setCell ⟨b, 0, none⟩ (.int .i64 21)).setCell ⟨b, 1, none⟩ (.string s5)).setCell ⟨b, 2, none⟩ (.slice none 0 0)).setCell ⟨b, 3, none⟩ (.slice (some ⟨w6.heap.size, 0, none⟩) 2 2)).alloc (Obj.cells #[.int .i64 t3.kind, .string t3.text, .slice al3 t3.leads.length cl3, .slice ak3 t3.kids.length ck3, .int .i64 t6.kind, .string t6.text, .slice al6 t6.leads.length cl6, .slice ak6 t6.kids.length ck6] 25)) ∧
      Bx h7 (((((w6.setCell ⟨b, 0, none⟩ (.int .i64 21)).setCell ⟨b, 1, none⟩ (.string s5)).setCell ⟨b, 2, none⟩ (.slice none 0 0)).setCell ⟨b, 3, none⟩ (.slice (some ⟨w6.heap.size, 0, none⟩) 2 2)).alloc (Obj.cells #[.int .i64 t3.kind, .string t3.text, .slice al3 t3.leads.length cl3, .slice ak3 t3.kids.length ck3, .int .i64 t6.kind, .string t6.text, .slice al6 t6.leads.length cl6, .slice ak6 t6.kids.length ck6] 25)) w.heap.size Z ∧
      Bx h7 (((((w6.setCell ⟨b, 0, none⟩ (.int .i64 21)).setCell ⟨b, 1, none⟩ (.string s5)).setCell ⟨b, 2, none⟩ (.slice none 0 0)).setCell ⟨b, 3, none⟩ (.slice (some ⟨w6.heap.size, 0, none⟩) 2 2)).alloc (Obj.cells #[.int .i64 t3.kind, .string t3.text, .slice al3 t3.leads.length cl3, .slice ak3 t3.kids.length ck3, .int .i64 t6.kind, .string t6.text, .slice al6 t6.leads.length cl6, .slice ak6 t6.kids.length ck6] 25)) b #[.int .i64 21, .string s5, .slice none 0 0, .slice (some ⟨w6.heap.size, 0, none⟩) 2 2] ∧
      EncTree h7 (.node 21 s5 [] [t3, t6]) [.int .i64 21, .string s5, .slice none 0 0, .slice (some ⟨w6.heap.size, 0, none⟩) 2 2] := by
  have hle : h6.le (h6.add w6.heap.size ([.int .i64 t3.kind, .string t3.text, .slice al3 t3.leads.length cl3, .slice ak3 t3.kids.length ck3, .int .i64 t6.kind, .string t6.text, .slice al6 t6.leads.length cl6, .slice ak6 t6.kids.length ck6] : List Value).toArray) := Hp.le_add _ SN.imm.size_none
  have l1 := B.has.lt
  have l2 := C6.has.lt
  exact ⟨_, (SN.set4 hb C6.no (.int .i64 21) (.string s5) (.slice none 0 0) (.slice (some ⟨w6.heap.size, 0, none⟩) 2 2)).lay [.int .i64 t3.kind, .string t3.text, .slice al3 t3.leads.length cl3, .slice ak3 t3.kids.length ck3, .int .i64 t6.kind, .string t6.text, .slice al6 t6.leads.length cl6, .slice ak6 t6.kids.length ck6] 25 w6.heap.size (by simp [World.setCell]),
    ((B.ne4 hne _ _ _ _).alloc _).add _ (by omega), ((C6.set4 _ _ _ _).alloc _).add _ (by omega),
    enc_of (kids_tree (add_self _ _ _) ((EncL.one (E3.mono hle)).append (EncL.one (E6.mono hle))) 2 rfl (by simp) _ (by unfold I64; omega) _)⟩

set_option maxRecDepth 100000 in
set_option maxHeartbeats 4000000 in
theorem exprS12 (m B : Nat) (hm : m ≤ 100) (E : ExprC m B) (h : Hp) (w : World) (hi : Imm h w) (g : Nat) (L : List Int) (n : Nat) (d : Dic h w g L n) (hr : nextP L n 14 = 12) :
    Calls Try.prog 48 #[.pointer (some ⟨g, 0, none⟩), .int .i64 ((m + 1 : Nat) : Int)] w (TRes g L h w fun t => t.size ≤ 3 * B + 6) := by
  have HI := Lib.hid hi
  have D := Lib.hid d
  have HR := Lib.hid hr
  have hgl := d.lt
  clear hi d hr
  have e1 : ((m + 1 : Nat) : Int) - 1 = (m : Int) := by omega
  have e2 : ¬ ((m + 1 : Nat) : Int) < 1 := by omega
  have e3 : (m : Int) + 1 - 1 = (m : Int) := by omega
  have HE := Lib.hid E
  clear E
  go_enter Try.func48, Try.ntmps48
  go_wp2_with fail
  have B0 := Lib.hid (Bx.new HI.out #[.int .i64 0, .string ⟨#[]⟩, .slice none 0 0, .slice none 0 0] 25)
  have S0 := Lib.hid ((DSt.refl HI.out D.out).alloc (Obj.cells #[.int .i64 0, .string ⟨#[]⟩, .slice none 0 0, .slice none 0 0] 25))
  refine (next_any h _ S0.out.imm g L n (D.out.alloc _) 14 (by omega) (by omega)).mono ?_
  rintro e w1 ⟨rfl, S1⟩
  rw [HR.out]
  have B1 := Lib.hid (B0.out.call S1 (by omega))
  have SN1 := Lib.hid (S0.out.call S1)
  obtain ⟨n1, D1⟩ := SN1.out.dic
  have D1 := Lib.hid D1
  have hz1 : w.heap.size < w1.heap.size := B1.out.has.lt
  clear S1
  go_wp2_with fail
  refine (pick_any h _ (SN1.out.imm.alloc _) g L n1 (D1.out.alloc _) w1.heap.size 5 5 #[.string ⟨#[43]⟩, .string ⟨#[45]⟩, .string ⟨#[42]⟩, .string ⟨#[60]⟩, .string ⟨#[61, 61]⟩] (Has.new w1 _ _) (by omega) (by omega) (by omega) (fun i hi => strs_ok [.string ⟨#[43]⟩, .string ⟨#[45]⟩, .string ⟨#[42]⟩, .string ⟨#[60]⟩, .string ⟨#[61, 61]⟩] rfl i hi)).mono ?_
  rintro e w2 ⟨s2, rfl, S2⟩
  have B2 := Lib.hid ((B1.out.alloc _).call S2 (by omega))
  have SN2 := Lib.hid ((SN1.out.alloc _).call S2)
  obtain ⟨n2, D2⟩ := SN2.out.dic
  have D2 := Lib.hid D2
  have hz2 : w.heap.size < w2.heap.size := B2.out.has.lt
  clear S2
  go_wp2_with fail
  refine (unit_of HE.out h _ SN2.out.imm g L n2 D2.out).mono ?_
  rintro e w3 ⟨v3, rfl, h3, t3, S3, T3, Z3⟩
  obtain ⟨al3, cl3, ak3, ck3, -, rfl, -, -, -, -, -, -⟩ := T3.open
  have B3 := Lib.hid (B2.out.call S3 (by omega))
  have SN3 := Lib.hid (SN2.out.call S3)
  obtain ⟨n3, D3⟩ := SN3.out.dic
  have D3 := Lib.hid D3
  have E3 := Lib.hid (enc_of T3)
  have hz3 : w.heap.size < w3.heap.size := B3.out.has.lt
  clear S3 T3
  go_wp2_with fail
  have C3 := Lib.hid (Bx.new SN3.out.imm #[.int .i64 t3.kind, .string t3.text, .slice al3 t3.leads.length cl3, .slice ak3 t3.kids.length ck3] 25)
  refine (next_any h3 _ (SN3.out.imm.alloc _) g L n3 (D3.out.alloc _) 3 (by omega) (by omega)).mono ?_
  rintro e w4 ⟨rfl, S4⟩
  have bd4 := nextP_bd L n3 3 (by omega)
  generalize nextP L n3 3 = r4 at *
  have B4 := Lib.hid ((B3.out.alloc _).call S4 (by omega))
  have C4 := Lib.hid (C3.out.call S4 (by have := SN3.out.lt; omega))
  have SN4 := Lib.hid ((SN3.out.alloc _).call S4)
  obtain ⟨n4, D4⟩ := SN4.out.dic
  have D4 := Lib.hid D4
  have hz4 : w.heap.size < w4.heap.size := B4.out.has.lt
  have hy4 : w3.heap.size < w4.heap.size := C4.out.has.lt
  clear S4
  have hc : r4 = 0 ∨ r4 = 1 ∨ r4 = 2 := by omega
  rcases hc with rfl | rfl | rfl
  · have ⟨⟨k0, k1, k2, k3⟩, z0, z1, z2, z3⟩ := B4.out.four
    have ⟨⟨c0, c1, c2, c3⟩, f0, f1, f2, f3⟩ := C4.out.four
    have hgn : w3.heap.size ≠ g := by have := SN3.out.lt; omega
    have hne1 : w.heap.size ≠ w3.heap.size := by omega
    have hne2 : w3.heap.size ≠ w.heap.size := by omega
    have hy4' : w3.heap.size < w4.heap.size + 1 := by omega
    go_wp2_with fail
    go_region_law (first | (go_simp; go_at_call 46; refine (pick_any h3 _ (by exact (SN4.out.imm.alloc _).drew) g L n4 (by exact (D4.out.alloc _).drew) w4.heap.size 2 2 #[.string ⟨#[43]⟩, .string ⟨#[42]⟩] (by exact (Has.new w4 _ _).drew) (by omega) (by omega) (by omega) (fun i hi => strs_ok [.string ⟨#[43]⟩, .string ⟨#[42]⟩] rfl i hi)).mono ?_; rintro e w5 ⟨s5, rfl, S5⟩; have B5 := Lib.hid (((B4.out.alloc _).drew).call S5 (by omega)); have C5 := Lib.hid (((C4.out.alloc _).drew).call S5 hgn); have SN5 := Lib.hid ((SN4.out.alloc _).drew.call S5); obtain ⟨n5, D5⟩ := SN5.out.dic; have D5 := Lib.hid D5; have hz5 : w.heap.size < w5.heap.size := B5.out.has.lt; have hy5 : w3.heap.size < w5.heap.size := C5.out.has.lt; have ⟨⟨x0, x1, x2, x3⟩, g0, g1, g2, g3⟩ := C5.out.four; clear S5) | (go_simp; go_at_call 63; refine (unit_of exprC0 h3 _ SN5.out.imm g L n5 D5.out).mono ?_; rintro e w6 ⟨v6, rfl, h6, t6, S6, T6, Z6⟩; obtain ⟨al6, cl6, ak6, ck6, -, rfl, -, -, -, -, -, -⟩ := T6.open; have B6 := Lib.hid (B5.out.call S6 (by omega)); have C6 := Lib.hid (C5.out.call S6 hgn); have SN6 := Lib.hid (SN5.out.call S6); have E6 := Lib.hid (enc_of T6); have EE3 := Lib.hid (E3.out.mono S6.le); have hz6 : w.heap.size < w6.heap.size := B6.out.has.lt; have hy6 : w3.heap.size < w6.heap.size := C6.out.has.lt; have hy6' : w3.heap.size < w6.heap.size + 1 := (by omega); have ⟨⟨u0, u1, u2, u3⟩, v0, v1, v2, v3⟩ := C6.out.four; clear S6 T6))
    all_goals
      obtain ⟨h7, SN7, B7, C7, EL7⟩ := bin_step (b := w3.heap.size) SN6.out B6.out C6.out EE3.out E6.out (by omega) hne2 s5
      have SN7 := Lib.hid SN7
      have B7 := Lib.hid B7
      have C7 := Lib.hid C7
      have EL7 := Lib.hid EL7
      generalize hW7 : (((((w6.setCell ⟨w3.heap.size, 0, none⟩ (.int .i64 21)).setCell ⟨w3.heap.size, 1, none⟩ (.string s5)).setCell ⟨w3.heap.size, 2, none⟩ (.slice none 0 0)).setCell ⟨w3.heap.size, 3, none⟩ (.slice (some ⟨w6.heap.size, 0, none⟩) 2 2)).alloc (Obj.cells #[.int .i64 t3.kind, .string t3.text, .slice al3 t3.leads.length cl3, .slice ak3 t3.kids.length ck3, .int .i64 t6.kind, .string t6.text, .slice al6 t6.leads.length cl6, .slice ak6 t6.kids.length ck6] 25)) = w7 at *
      have ZZ := Lib.hid hW7
      clear hW7
      obtain ⟨n7, D7⟩ := SN7.out.dic
      have D7 := Lib.hid D7
      have hz7 : w.heap.size < w7.heap.size := B7.out.has.lt
      have hy7 : w3.heap.size < w7.heap.size := C7.out.has.lt
      clear u0 u1 u2 u3 v0 v1 v2 v3 x0 x1 x2 x3 g0 g1 g2 g3 k0 k1 k2 k3 z0 z1 z2 z3 c0 c1 c2 c3 f0 f1 f2 f3
      have ⟨⟨k0, k1, k2, k3⟩, z0, z1, z2, z3⟩ := B7.out.four
      have ⟨⟨c0, c1, c2, c3⟩, f0, f1, f2, f3⟩ := C7.out.four
      go_wp2_with fail
      have wm : IntKind.i64.wrap (m : Int) = m := w64 (by omega)
      have hne1 : w.heap.size ≠ w3.heap.size := by omega
      have hne2 : w3.heap.size ≠ w.heap.size := by omega
      go_region_held3 (fun w' => w'.cell? ⟨w3.heap.size, 0, none⟩ = some (.int .i64 21) ∧ w'.cell? ⟨w3.heap.size, 1, none⟩ = some (.string s5) ∧ w'.cell? ⟨w3.heap.size, 2, none⟩ = some (.slice none 0 0) ∧ w'.cell? ⟨w3.heap.size, 3, none⟩ = some (.slice (some ⟨w6.heap.size, 0, none⟩) 2 2)) (first | go_keep | exact ⟨x0, x1, x2, x3⟩) (first | (go_at_call 63; refine (unit_of HE.out h7 _ (by exact SN7.out.imm.drew) g L n7 (by exact D7.out.drew)).mono ?_; rintro e w8 ⟨v8, rfl, h8, t8, S8, T8, Z8⟩; obtain ⟨al8, cl8, ak8, ck8, -, rfl, -, -, -, -, -, -⟩ := T8.open; have B8 := Lib.hid ((B7.out.call ((DSt.refl SN7.out.imm D7.out).drew.call S8) (by omega))); have C8 := Lib.hid ((C7.out.call ((DSt.refl SN7.out.imm D7.out).drew.call S8) (by have := SN3.out.lt; omega))); have SN8 := Lib.hid (SN7.out.drew.call S8); have E8 := Lib.hid (enc_of T8); have EL := Lib.hid (EL7.out.mono S8.le); have hz8 : w.heap.size < w8.heap.size := B8.out.has.lt; have hy8 : w3.heap.size < w8.heap.size := C8.out.has.lt; have ⟨⟨q0, q1, q2, q3⟩, y0, y1, y2, y3⟩ := B8.out.four; have ⟨⟨x0, x1, x2, x3⟩, g0, g1, g2, g3⟩ := C8.out.four; clear S8 T8))
      have hy : w.heap.size < w8.heap.size + 1 := by omega
      go_wp2_with fail
      refine bodyPost_ret (v := .agg #[.int .i64 21, .string s2, .slice none 0 0, .slice (some ⟨w8.heap.size, 0, none⟩) 2 2]) (by simp [results, Try.results48, go_sem, q0, q1, q2, q3, hz8]) rfl ?_
      have SL := (SN8.out.set4 (Nat.le_refl _) B8.out.no (.int .i64 21) (.string s2) (.slice none 0 0) (.slice (some ⟨w8.heap.size, 0, none⟩) 2 2)).lay [.int .i64 21, .string s5, .slice none 0 0, .slice (some ⟨w6.heap.size, 0, none⟩) 2 2, .int .i64 t8.kind, .string t8.text, .slice al8 t8.leads.length cl8, .slice ak8 t8.kids.length ck8] 25 w8.heap.size (by simp [World.setCell])
      have hle : h8.le (h8.add w8.heap.size ([.int .i64 21, .string s5, .slice none 0 0, .slice (some ⟨w6.heap.size, 0, none⟩) 2 2, .int .i64 t8.kind, .string t8.text, .slice al8 t8.leads.length cl8, .slice ak8 t8.kids.length ck8] : List Value).toArray) := Hp.le_add _ SN8.out.imm.size_none
      exact ⟨_, rfl, _, .node 21 s2 [] [(.node 21 s5 [] [t3, t6]), t8], SL, kids_tree (add_self _ _ _) ((EncL.one (EL.out.mono hle)).append (EncL.one (E8.out.mono hle))) 2 rfl (by simp) _ (by unfold I64; omega) _, by show Tree.size _ ≤ _; simp only [Tree.size, sizes]; omega⟩
  · have ⟨⟨k0, k1, k2, k3⟩, z0, z1, z2, z3⟩ := B4.out.four
    have ⟨⟨c0, c1, c2, c3⟩, f0, f1, f2, f3⟩ := C4.out.four
    go_wp2_with fail
    have wm : IntKind.i64.wrap (m : Int) = m := w64 (by omega)
    have hne1 : w.heap.size ≠ w3.heap.size := by omega
    have hne2 : w3.heap.size ≠ w.heap.size := by omega
    go_region_held3 (fun w' => w'.cell? ⟨w3.heap.size, 0, none⟩ = some (.int .i64 t3.kind) ∧ w'.cell? ⟨w3.heap.size, 1, none⟩ = some (.string t3.text) ∧ w'.cell? ⟨w3.heap.size, 2, none⟩ = some (.slice al3 t3.leads.length cl3) ∧ w'.cell? ⟨w3.heap.size, 3, none⟩ = some (.slice ak3 t3.kids.length ck3)) (first | go_keep | exact ⟨x0, x1, x2, x3⟩) (first | (go_at_call 63; refine (unit_of HE.out h3 _ (by exact SN4.out.imm.drew) g L n4 (by exact D4.out.drew)).mono ?_; rintro e w5 ⟨v5, rfl, h5, t5, S5, T5, Z5⟩; obtain ⟨al5, cl5, ak5, ck5, -, rfl, -, -, -, -, -, -⟩ := T5.open; have B5 := Lib.hid ((B4.out.call ((DSt.refl SN4.out.imm D4.out).drew.call S5) (by omega))); have C5 := Lib.hid ((C4.out.call ((DSt.refl SN4.out.imm D4.out).drew.call S5) (by have := SN3.out.lt; omega))); have SN5 := Lib.hid (SN4.out.drew.call S5); have E5 := Lib.hid (enc_of T5); have EL := Lib.hid (E3.out.mono S5.le); have hz5 : w.heap.size < w5.heap.size := B5.out.has.lt; have hy5 : w3.heap.size < w5.heap.size := C5.out.has.lt; have ⟨⟨q0, q1, q2, q3⟩, y0, y1, y2, y3⟩ := B5.out.four; have ⟨⟨x0, x1, x2, x3⟩, g0, g1, g2, g3⟩ := C5.out.four; clear S5 T5))
    have hy : w.heap.size < w5.heap.size + 1 := by omega
    go_wp2_with fail
    refine bodyPost_ret (v := .agg #[.int .i64 21, .string s2, .slice none 0 0, .slice (some ⟨w5.heap.size, 0, none⟩) 2 2]) (by simp [results, Try.results48, go_sem, q0, q1, q2, q3, hz5]) rfl ?_
    have SL := (SN5.out.set4 (Nat.le_refl _) B5.out.no (.int .i64 21) (.string s2) (.slice none 0 0) (.slice (some ⟨w5.heap.size, 0, none⟩) 2 2)).lay [.int .i64 t3.kind, .string t3.text, .slice al3 t3.leads.length cl3, .slice ak3 t3.kids.length ck3, .int .i64 t5.kind, .string t5.text, .slice al5 t5.leads.length cl5, .slice ak5 t5.kids.length ck5] 25 w5.heap.size (by simp [World.setCell])
    have hle : h5.le (h5.add w5.heap.size ([.int .i64 t3.kind, .string t3.text, .slice al3 t3.leads.length cl3, .slice ak3 t3.kids.length ck3, .int .i64 t5.kind, .string t5.text, .slice al5 t5.leads.length cl5, .slice ak5 t5.kids.length ck5] : List Value).toArray) := Hp.le_add _ SN5.out.imm.size_none
    exact ⟨_, rfl, _, .node 21 s2 [] [t3, t5], SL, kids_tree (add_self _ _ _) ((EncL.one (EL.out.mono hle)).append (EncL.one (E5.out.mono hle))) 2 rfl (by simp) _ (by unfold I64; omega) _, by show Tree.size _ ≤ _; simp only [Tree.size, sizes]; omega⟩
  · have ⟨⟨k0, k1, k2, k3⟩, z0, z1, z2, z3⟩ := B4.out.four
    have ⟨⟨c0, c1, c2, c3⟩, f0, f1, f2, f3⟩ := C4.out.four
    go_wp2_with fail
    have wm : IntKind.i64.wrap (m : Int) = m := w64 (by omega)
    have hne1 : w.heap.size ≠ w3.heap.size := by omega
    have hne2 : w3.heap.size ≠ w.heap.size := by omega
    go_region_held3 (fun w' => w'.cell? ⟨w3.heap.size, 0, none⟩ = some (.int .i64 t3.kind) ∧ w'.cell? ⟨w3.heap.size, 1, none⟩ = some (.string t3.text) ∧ w'.cell? ⟨w3.heap.size, 2, none⟩ = some (.slice al3 t3.leads.length cl3) ∧ w'.cell? ⟨w3.heap.size, 3, none⟩ = some (.slice ak3 t3.kids.length ck3)) (first | go_keep | exact ⟨x0, x1, x2, x3⟩) (first | (go_at_call 63; refine (unit_of HE.out h3 _ (by exact SN4.out.imm.drew) g L n4 (by exact D4.out.drew)).mono ?_; rintro e w5 ⟨v5, rfl, h5, t5, S5, T5, Z5⟩; obtain ⟨al5, cl5, ak5, ck5, -, rfl, -, -, -, -, -, -⟩ := T5.open; have B5 := Lib.hid ((B4.out.call ((DSt.refl SN4.out.imm D4.out).drew.call S5) (by omega))); have C5 := Lib.hid ((C4.out.call ((DSt.refl SN4.out.imm D4.out).drew.call S5) (by have := SN3.out.lt; omega))); have SN5 := Lib.hid (SN4.out.drew.call S5); have E5 := Lib.hid (enc_of T5); have EL := Lib.hid (E3.out.mono S5.le); have hz5 : w.heap.size < w5.heap.size := B5.out.has.lt; have hy5 : w3.heap.size < w5.heap.size := C5.out.has.lt; have ⟨⟨q0, q1, q2, q3⟩, y0, y1, y2, y3⟩ := B5.out.four; have ⟨⟨x0, x1, x2, x3⟩, g0, g1, g2, g3⟩ := C5.out.four; clear S5 T5))
    have hy : w.heap.size < w5.heap.size + 1 := by omega
    go_wp2_with fail
    refine bodyPost_ret (v := .agg #[.int .i64 21, .string s2, .slice none 0 0, .slice (some ⟨w5.heap.size, 0, none⟩) 2 2]) (by simp [results, Try.results48, go_sem, q0, q1, q2, q3, hz5]) rfl ?_
    have SL := (SN5.out.set4 (Nat.le_refl _) B5.out.no (.int .i64 21) (.string s2) (.slice none 0 0) (.slice (some ⟨w5.heap.size, 0, none⟩) 2 2)).lay [.int .i64 t3.kind, .string t3.text, .slice al3 t3.leads.length cl3, .slice ak3 t3.kids.length ck3, .int .i64 t5.kind, .string t5.text, .slice al5 t5.leads.length cl5, .slice ak5 t5.kids.length ck5] 25 w5.heap.size (by simp [World.setCell])
    have hle : h5.le (h5.add w5.heap.size ([.int .i64 t3.kind, .string t3.text, .slice al3 t3.leads.length cl3, .slice ak3 t3.kids.length ck3, .int .i64 t5.kind, .string t5.text, .slice al5 t5.leads.length cl5, .slice ak5 t5.kids.length ck5] : List Value).toArray) := Hp.le_add _ SN5.out.imm.size_none
    exact ⟨_, rfl, _, .node 21 s2 [] [t3, t5], SL, kids_tree (add_self _ _ _) ((EncL.one (EL.out.mono hle)).append (EncL.one (E5.out.mono hle))) 2 rfl (by simp) _ (by unfold I64; omega) _, by show Tree.size _ ≤ _; simp only [Tree.size, sizes]; omega⟩

end Go.Proofs.Ytfifbadepebpeaa

/- A tree whose kids are appended one by one. -/
namespace Go.Proofs.Ytfifbadepebpeaa
open Go.RowKit

structure KL (g : Nat) (L : List Int) (h : Hp) (w : World) (b : Nat) (k : Int) (s : ByteArray) (Z : Array Value) (ts : List Tree) (hj : Hp) (v : Value) (vs : List Value) (wr : World) : Prop where
  st : DSt g L h w hj wr
  own : Ow wr hj w.heap.size 25 4 v ts.length vs
  enc : EncL (EncTree hj) ts vs
  bx : Bx hj wr b #[.int .i64 k, .string s, .slice none 0 0, v]
  rb : Bx hj wr w.heap.size Z
  ne : v.ownBlock ≠ some b
  nz : v.ownBlock ≠ some w.heap.size
  lo : w.heap.size < b

section
variable {g : Nat} {L : List Int} {h hj hz : Hp} {w wr wz w3 : World} {b m : Nat} {k : Int} {s : ByteArray} {Z : Array Value} {ts tn : List Tree} {v v' : Value} {vs news : List Value}

theorem Ow.dst {B : Nat} {T : TypeId} {q n : Nat} (o : Ow wr hj B T q v n vs) (S : DSt g L hj wr hz wz) (hg : g < B) : Ow wz hz B T q v n vs :=
  o.keep (fun x hx => S.gr.block x (o.lt x hx).2 (fun e => by have := (o.lt x hx).1; have := Option.some.inj e; omega)) (fun x hx => S.old x (o.lt x hx).2)

theorem KL.own2 (K : KL g L h w b k s Z ts hj v vs wr) (S : DSt g L hj wr hz wz) : Ow wz hz w.heap.size 25 4 v ts.length vs := K.own.dst S K.st.lt
theorem KL.gb (K : KL g L h w b k s Z ts hj v vs wr) : b ≠ g ∧ w.heap.size ≠ g := by have := K.lo; have := K.st.lt; omega
theorem KL.bx2 (K : KL g L h w b k s Z ts hj v vs wr) (S : DSt g L hj wr hz wz) : Bx hz wz b #[.int .i64 k, .string s, .slice none 0 0, v] := K.bx.call S K.gb.1
theorem KL.rb2 (K : KL g L h w b k s Z ts hj v vs wr) (S : DSt g L hj wr hz wz) : Bx hz wz w.heap.size Z := K.rb.call S K.gb.2

theorem DSt.grown {row : Option Nat} (S : DSt g L h w hj wr) (hg : wr.grownBy wz row) (hr : ∀ q, row = some q → w.heap.size ≤ q ∧ hj q = none) : DSt g L h w hj wz := by
  obtain ⟨n, d⟩ := S.dic
  have hgl := S.lt
  refine ⟨grown_step S.gr hg (fun q hq => .inr (hr q hq).1), S.imm.keep fun x c hc => hg.block x (blk_lt (S.imm x c hc)) (fun e => by rw [(hr x e.symm).2] at hc; cases hc), S.le, S.old, hgl, n, ?_⟩
  exact d.keep (hg.block g d.lt (fun e => by have := (hr g e.symm).1; omega)) hg.size (Hp.le_refl _) d.free

theorem Bx.grown {row : Option Nat} {c : Array Value} (x : Bx hj wr b c) (hg : wr.grownBy w3 row) (hr : row ≠ some b) : Bx hj w3 b c :=
  ⟨⟨Nat.lt_of_lt_of_le x.has.lt hg.size, fun o => (hg.cellOf x.has.lt hr).1.trans (x.has.cl o), fun o => (hg.cellOf x.has.lt hr).2.trans (x.has.fz o)⟩, x.no⟩

theorem KL.next (K : KL g L h w b k s Z ts hj v vs wr) (S : DSt g L hj wr hz wz) (own3 : Ow w3 hz w.heap.size 25 4 v' (ts.length + m) (vs ++ news)) (gr3 : wz.grownBy w3 v.ownBlock) (bk3 : v'.ownBlock = v.ownBlock ∨ v'.ownBlock = some wz.heap.size)
    (en : EncL (EncTree hz) tn news) (hm : tn.length = m) : KL g L h w b k s Z (ts ++ tn) hz v' (vs ++ news) (w3.setCell ⟨b, 3, none⟩ v') := by
  subst hm
  have SS := K.st.call S
  have S3 : DSt g L h w hz w3 := SS.grown gr3 (fun q hq => ⟨(K.own.lt q hq).1, by rw [S.old q (K.own.lt q hq).2]; exact K.own.free q hq⟩)
  have bx3 := (K.bx2 S).grown gr3 K.ne
  have rb3 := (K.rb2 S).grown gr3 K.nz
  have l1 := (K.bx2 S).has.lt
  have l2 := (K.rb2 S).has.lt
  have lo := K.lo
  have ne' : v'.ownBlock ≠ some b := fun e => by
    rcases bk3 with h1 | h1
    · exact K.ne (by rw [← h1, e])
    · rw [h1] at e; have := Option.some.inj e; omega
  have nz' : v'.ownBlock ≠ some w.heap.size := fun e => by
    rcases bk3 with h1 | h1
    · exact K.nz (by rw [← h1, e])
    · rw [h1] at e; have := Option.some.inj e; omega
  refine ⟨S3.setCell (p := ⟨b, 3, none⟩) (by show w.heap.size ≤ b; omega) (K.bx2 S).no v', ?_, (K.enc.mono fun _ _ r => r.mono S.le).append en, ?_, ⟨rb3.has.ne (by omega) 3 v', rb3.no⟩, ne', nz', lo⟩
  · rw [List.length_append]
    exact own3.setCell (p := ⟨b, 3, none⟩) ne' v'
  · have := bx3.has.set1 3 (by simp) v'
    exact ⟨by simpa using this, bx3.no⟩

theorem KL.fin (K : KL g L h w b k s Z ts hj v vs wr) (hk : I64 k) (hl : ts.length ≤ 1000) (v0 v1 v2 v3 : Value) :
    ∃ h', DSt g L h w h' ((((wr.setCell ⟨w.heap.size, 0, none⟩ v0).setCell ⟨w.heap.size, 1, none⟩ v1).setCell ⟨w.heap.size, 2, none⟩ v2).setCell ⟨w.heap.size, 3, none⟩ v3) ∧ TreeV h' (.agg #[.int .i64 k, .string s, .slice none 0 0, v]) (.node k s [] ts) := by
  have S4 := K.st.set4 (Nat.le_refl _) K.rb.no v0 v1 v2 v3
  have o4 := (((K.own.setCell (p := ⟨w.heap.size, 0, none⟩) K.nz v0).setCell (p := ⟨w.heap.size, 1, none⟩) K.nz v1).setCell (p := ⟨w.heap.size, 2, none⟩) K.nz v2).setCell (p := ⟨w.heap.size, 3, none⟩) K.nz v3
  obtain ⟨h', i1, i2, i3, i4⟩ := o4.giveUp S4.imm (by omega)
  obtain ⟨a, c, rfl⟩ := K.own.shape
  obtain ⟨n, d⟩ := S4.dic
  have hgl := S4.lt
  refine ⟨h', ⟨S4.gr, i1, Hp.le_trans S4.le i2, fun x hx => ?_, hgl, n, d.keep rfl (Nat.le_refl _) i2 ?_⟩, [.int .i64 k, .string s, .slice none 0 0, .slice a ts.length c], rfl, ?_⟩
  · rw [i3 x (fun q hq e => by have := (K.own.lt q hq).1; omega)]
    exact S4.old x hx
  · rw [i3 g (fun q hq e => by have := (K.own.lt q hq).1; omega)]
    exact d.free
  · rw [EncTree]
    exact ⟨none, 0, a, c, vs, rfl, hk, Sl.nil _ _ _ _, i4, EncTrees.iff.2 (K.enc.mono fun _ _ r => r.mono i2)⟩

theorem KL.call (K : KL g L h w b k s Z ts hj v vs wr) (S : DSt g L hj wr hz wz) : KL g L h w b k s Z ts hz v vs wz :=
  ⟨K.st.call S, K.own2 S, K.enc.mono fun _ _ r => r.mono S.le, K.bx2 S, K.rb2 S, K.ne, K.nz, K.lo⟩

theorem KL.start (S : DSt g L h w hj wr) (R : Bx hj wr w.heap.size Z) (k : Int) (s : ByteArray) : KL g L h w wr.heap.size k s Z [] hj (.slice none 0 0) [] (wr.alloc (.cells #[.int .i64 k, .string s, .slice none 0 0, .slice none 0 0] 25)) :=
  ⟨S.alloc _, Ow.nil _ _ _ _ _, rfl, Bx.new S.imm _ _, R.alloc _, by simp [Value.ownBlock], by simp [Value.ownBlock], R.has.lt⟩
theorem sizes_app (a b : List Tree) : sizes (a ++ b) = sizes a + sizes b := by
  induction a with
  | nil => simp [sizes]
  | cons t a ih => rw [List.cons_append, sizes_cons, sizes_cons, ih]; omega
end
end Go.Proofs.Ytfifbadepebpeaa
