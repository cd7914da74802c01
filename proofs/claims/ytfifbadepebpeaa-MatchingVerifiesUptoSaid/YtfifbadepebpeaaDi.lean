/- Expr: calls and lists. -/
import Derived.Test.YtfifbadepebpeaaBf
import Derived.Deep.DrawnRows
import Derived.Deep.AppendLies
import Derived.Deep.RegionLaw
namespace Go.Proofs.Ytfifbadepebpeaa
open Go.RowKit
attribute [local go_sem ↓] Go.wp_at_zero Go.wp_at_succ

theorem arg_enc {h : Hp} {w : World} {t : Tree} {a b c d : Value} (hi : Imm h w) (e : EncTree h t [a, b, c, d]) :
    EncL (EncTree (h.add w.heap.size ([a, b, c, d] : List Value).toArray)) [.node 17 ⟨#[]⟩ [] [t]] [.int .i64 17, .string ⟨#[]⟩, .slice none 0 0, .slice (some ⟨w.heap.size, 0, none⟩) 1 1] :=
  EncL.one (enc_of (kids_tree (add_self _ _ _) (EncL.one (e.mono (Hp.le_add _ hi.size_none))) 1 rfl (by simp) _ (by unfold I64; omega) _))
theorem arg_sz {ts : List Tree} {t : Tree} {B : Nat} (h : sizes ts ≤ ts.length * (B + 1)) (ht : t.size ≤ B) : sizes (ts ++ [.node 17 ⟨#[]⟩ [] [t]]) ≤ (ts ++ [Tree.node 17 ⟨#[]⟩ [] [t]]).length * (B + 1) := by
  rw [sizes_app, List.length_append, Nat.add_mul]
  simp only [sizes, Tree.size, List.length_cons, List.length_nil]
  omega
theorem one_sz {ts : List Tree} {t : Tree} {B : Nat} (h : sizes ts ≤ ts.length * (B + 1)) (ht : t.size ≤ B) : sizes (ts ++ [t]) ≤ (ts ++ [t]).length * (B + 1) := by
  rw [sizes_app, List.length_append, Nat.add_mul]
  simp only [sizes, List.length_cons, List.length_nil]
  omega

set_option maxRecDepth 100000 in
set_option maxHeartbeats 4000000 in
theorem exprS6 (m B : Nat) (hm : m ≤ 100) (E : ExprC m B) (h : Hp) (w : World) (hi : Imm h w) (g : Nat) (L : List Int) (n : Nat) (d : Dic h w g L n) (hr : nextP L n 14 = 6) :
    Calls Try.prog 48 #[.pointer (some ⟨g, 0, none⟩), .int .i64 ((m + 1 : Nat) : Int)] w (TRes g L h w fun t => t.size ≤ 3 * B + 6) := by
  have HI := Lib.hid hi
  have D := Lib.hid d
  have HR := Lib.hid hr
  have hgl := d.lt
  clear hi d hr
  have e1 : ((m + 1 : Nat) : Int) - 1 = (m : Int) := by omega
  have e2 : ¬ ((m + 1 : Nat) : Int) < 1 := by omega
  have e3 : (m : Int) + 1 - 1 = (m : Int) := by omega
  have HE := Lib.hid E
  clear E
  go_enter Try.func48, Try.ntmps48
  go_wp2_with fail
  have B0 := Lib.hid (Bx.new HI.out #[.int .i64 0, .string ⟨#[]⟩, .slice none 0 0, .slice none 0 0] 25)
  have S0 := Lib.hid ((DSt.refl HI.out D.out).alloc (Obj.cells #[.int .i64 0, .string ⟨#[]⟩, .slice none 0 0, .slice none 0 0] 25))
  refine (next_any h _ S0.out.imm g L n (D.out.alloc _) 14 (by omega) (by omega)).mono ?_
  rintro e w1 ⟨rfl, S1⟩
  rw [HR.out]
  have B1 := Lib.hid (B0.out.call S1 (by omega))
  have SN1 := Lib.hid (S0.out.call S1)
  obtain ⟨n1, D1⟩ := SN1.out.dic
  have D1 := Lib.hid D1
  have hz1 : w.heap.size < w1.heap.size := B1.out.has.lt
  clear S1
  go_wp2_with fail
  refine (pick_any h _ (SN1.out.imm.alloc _) g L n1 (D1.out.alloc _) w1.heap.size 6 6 #[.string ⟨#[102]⟩, .string ⟨#[103]⟩, .string ⟨#[104]⟩, .string ⟨#[65, 46, 102]⟩, .string ⟨#[66, 46, 103]⟩, .string ⟨#[65, 46, 104]⟩] (Has.new w1 _ _) (by omega) (by omega) (by omega) (fun i hi => strs_ok [.string ⟨#[102]⟩, .string ⟨#[103]⟩, .string ⟨#[104]⟩, .string ⟨#[65, 46, 102]⟩, .string ⟨#[66, 46, 103]⟩, .string ⟨#[65, 46, 104]⟩] rfl i hi)).mono ?_
  rintro e w2 ⟨s2, rfl, S2⟩
  have B2 := Lib.hid ((B1.out.alloc _).call S2 (by omega))
  have SN2 := Lib.hid ((SN1.out.alloc _).call S2)
  obtain ⟨n2, D2⟩ := SN2.out.dic
  have D2 := Lib.hid D2
  have hz2 : w.heap.size < w2.heap.size := B2.out.has.lt
  clear S2
  go_wp2_with fail
  have K2 := Lib.hid (KL.start SN2.out B2.out 16 s2)
  refine (next_any h _ (SN2.out.imm.alloc _) g L n2 (D2.out.alloc _) 4 (by omega) (by omega)).mono ?_
  rintro e w3 ⟨rfl, S3⟩
  have bd3 := nextP_bd L n2 4 (by omega)
  generalize nextP L n2 4 = rr at *
  have K3 := Lib.hid (K2.out.call S3)
  clear S3
  clear K2
  generalize hbb : w2.heap.size = bb at *
  have HBB := Lib.hid hbb
  clear hbb
  obtain ⟨jj, rfl⟩ : ∃ jj : Nat, rr = (jj : Int) := ⟨rr.toNat, by omega⟩
  have hjj : jj ≤ 3 := by omega
  go_wp2_with fail
  go_loopw [7, 66, 67, 68, 69, 70, 71, 72, 73, 74, 75, 76, 77, 78, 79, 80] (fun kk _ _ _ _ _ _ _ _ _ _ _ _ _ _ _ wr => ∃ (j : Nat) (ts : List Tree) (hj : Hp) (v : Value) (vs : List Value), kk = .int .i64 j ∧ j + ts.length ≤ 3 ∧ sizes ts ≤ ts.length * (B + 1) ∧ KL g L h w bb 16 s2 #[.int .i64 0, .string ⟨#[]⟩, .slice none 0 0, .slice none 0 0] ts hj v vs wr) (fun kk _ _ _ _ _ _ _ _ _ _ _ _ _ _ _ _ => (intOf kk).toNat)
  case atStart => exact ⟨jj, [], _, _, _, rfl, by simp; omega, by simp [sizes], K3.out⟩
  case round =>
    obtain ⟨j, ts, hj, v, vs, rfl, hjl, hsz, K⟩ := hrel
    obtain ⟨av, cv, rfl⟩ := K.own.shape
    have K' := Lib.hid K
    have hzr : w.heap.size < wr.heap.size := K.rb.has.lt
    have hbr : bb < wr.heap.size := K.bx.has.lt
    have ⟨⟨c0, c1, c2, c3⟩, f0, f1, f2, f3⟩ := K.bx.four
    have ⟨⟨k0, k1, k2, k3⟩, z0, z1, z2, z3⟩ := K.rb.four
    have hlo := K.lo
    obtain ⟨nr, DR⟩ := K.st.dic
    have DR := Lib.hid DR
    have HSZ := Lib.hid hsz
    clear K hsz
    by_cases hlt : 0 < j
    · have g1 : decide (0 < j) = true := by simpa using hlt
      go_wp2_with fail
      have wm : IntKind.i64.wrap (m : Int) = m := w64 (by omega)
      go_region_law (first | (go_simp; go_at_call 48; refine (HE.out hj _ (by exact K'.out.st.imm.drew) g L nr (by exact DR.out.drew)).mono ?_; rintro e w6 ⟨v6, rfl, h6, t6, S6, T6, Z6⟩; obtain ⟨al6, cl6, ak6, ck6, -, rfl, -, -, -, -, -, -⟩ := T6.open; have SC := Lib.hid ((DSt.refl K'.out.st.imm DR.out).drew.call S6); have E6 := Lib.hid (enc_of T6); have hb6 : bb < w6.heap.size := (K'.out.bx2 SC.out).has.lt; have hb6' : bb < w6.heap.size + 1 := (by omega); have hb6'' : bb < w6.heap.size + 1 + 1 := (by omega); have ⟨⟨x0, x1, x2, x3⟩, q0, q1, q2, q3⟩ := (K'.out.bx2 SC.out).four; clear S6 T6) | (refine step_app el_trees (by rfl) _ _ (by rfl) (St.refl' (B := w.heap.size) (by exact ((SC.out.lay [.int .i64 t6.kind, .string t6.text, .slice al6 t6.leads.length cl6, .slice ak6 t6.kids.length ck6] 25 w6.heap.size rfl).alloc (Obj.cells #[.int .i64 17, .string ⟨#[]⟩, .slice none 0 0, .slice (some ⟨w6.heap.size, 0, none⟩) 1 1] 25)).imm) (by simp; omega)) _ ts.length vs (by rfl) (K'.out.own2 ((SC.out.lay [.int .i64 t6.kind, .string t6.text, .slice al6 t6.leads.length cl6, .slice ak6 t6.kids.length ck6] 25 w6.heap.size rfl).alloc (Obj.cells #[.int .i64 17, .string ⟨#[]⟩, .slice none 0 0, .slice (some ⟨w6.heap.size, 0, none⟩) 1 1] 25))) ⟨w6.heap.size + 1, 0, none⟩ 1 1 [.int .i64 17, .string ⟨#[]⟩, .slice none 0 0, .slice (some ⟨w6.heap.size, 0, none⟩) 1 1] (by rfl) (by rfl) (new_cells _ _ _ _ (by simp)) (one_cells _ rfl) (by omega) (by omega) ?_; intro gg cg w7 st7 own7 gr7 bk7; have BX7 := (K'.out.bx2 ((SC.out.lay [.int .i64 t6.kind, .string t6.text, .slice al6 t6.leads.length cl6, .slice ak6 t6.kids.length ck6] 25 w6.heap.size rfl).alloc (Obj.cells #[.int .i64 17, .string ⟨#[]⟩, .slice none 0 0, .slice (some ⟨w6.heap.size, 0, none⟩) 1 1] 25))).grown gr7 K'.out.ne; have y3 : w7.cell? ⟨bb, 3, none⟩ = some (.slice av ts.length cv) := BX7.has.cl 3; have yf : w7.frozen? ⟨bb, 3, none⟩ = false := BX7.has.fz 3; have KN := Lib.hid (K'.out.next ((SC.out.lay [.int .i64 t6.kind, .string t6.text, .slice al6 t6.leads.length cl6, .slice ak6 t6.kids.length ck6] 25 w6.heap.size rfl).alloc (Obj.cells #[.int .i64 17, .string ⟨#[]⟩, .slice none 0 0, .slice (some ⟨w6.heap.size, 0, none⟩) 1 1] 25)) own7 gr7 bk7 (tn := [.node 17 ⟨#[]⟩ [] [t6]]) (arg_enc SC.out.imm E6.out) rfl); have KS := Lib.hid (arg_sz HSZ.out Z6); clear st7 own7 gr7 bk7 BX7))
      all_goals
        go_wp2_with fail
        go_roundw
        case rel => exact ⟨j - 1, ts ++ _, _, _, _, by rw [show ((j - 1 : Nat) : Int) = (j : Int) - 1 by omega], by simp; omega, KS.out, KN.out⟩
        case measure => simp [intOf]; omega
    · obtain rfl : j = 0 := by omega
      go_wp2_with fail
      obtain ⟨h9, S9, T9⟩ := K'.out.fin (by unfold I64; omega) (by omega) (.int .i64 16) (.string s2) (.slice none 0 0) (.slice av ts.length cv)
      refine bodyPost_ret (v := .agg #[.int .i64 16, .string s2, .slice none 0 0, .slice av ts.length cv]) (by simp [results, Try.results48, go_sem, k0, k1, k2, k3]) rfl ?_
      have hq := HSZ.out
      have hq2 : ts.length * (B + 1) ≤ 3 * (B + 1) := Nat.mul_le_mul_right _ (by omega)
      exact ⟨_, rfl, h9, .node 16 s2 [] ts, S9, T9, by show Tree.size _ ≤ _; simp only [Tree.size]; omega⟩

set_option maxRecDepth 100000 in
set_option maxHeartbeats 4000000 in
theorem exprS7 (m B : Nat) (hm : m ≤ 100) (E : ExprC m B) (h : Hp) (w : World) (hi : Imm h w) (g : Nat) (L : List Int) (n : Nat) (d : Dic h w g L n) (hr : nextP L n 14 = 7) :
    Calls Try.prog 48 #[.pointer (some ⟨g, 0, none⟩), .int .i64 ((m + 1 : Nat) : Int)] w (TRes g L h w fun t => t.size ≤ 3 * B + 6) := by
  have HI := Lib.hid hi
  have D := Lib.hid d
  have HR := Lib.hid hr
  have hgl := d.lt
  clear hi d hr
  have e1 : ((m + 1 : Nat) : Int) - 1 = (m : Int) := by omega
  have e2 : ¬ ((m + 1 : Nat) : Int) < 1 := by omega
  have e3 : (m : Int) + 1 - 1 = (m : Int) := by omega
  have HE := Lib.hid E
  clear E
  go_enter Try.func48, Try.ntmps48
  go_wp2_with fail
  have B0 := Lib.hid (Bx.new HI.out #[.int .i64 0, .string ⟨#[]⟩, .slice none 0 0, .slice none 0 0] 25)
  have S0 := Lib.hid ((DSt.refl HI.out D.out).alloc (Obj.cells #[.int .i64 0, .string ⟨#[]⟩, .slice none 0 0, .slice none 0 0] 25))
  refine (next_any h _ S0.out.imm g L n (D.out.alloc _) 14 (by omega) (by omega)).mono ?_
  rintro e w1 ⟨rfl, S1⟩
  rw [HR.out]
  have B1 := Lib.hid (B0.out.call S1 (by omega))
  have SN1 := Lib.hid (S0.out.call S1)
  obtain ⟨n1, D1⟩ := SN1.out.dic
  have D1 := Lib.hid D1
  have hz1 : w.heap.size < w1.heap.size := B1.out.has.lt
  clear S1
  go_wp2_with fail
  refine (pick_any h _ (SN1.out.imm.alloc _) g L n1 (D1.out.alloc _) w1.heap.size 6 6 #[.string ⟨#[102]⟩, .string ⟨#[103]⟩, .string ⟨#[104]⟩, .string ⟨#[65, 46, 102]⟩, .string ⟨#[66, 46, 103]⟩, .string ⟨#[65, 46, 104]⟩] (Has.new w1 _ _) (by omega) (by omega) (by omega) (fun i hi => strs_ok [.string ⟨#[102]⟩, .string ⟨#[103]⟩, .string ⟨#[104]⟩, .string ⟨#[65, 46, 102]⟩, .string ⟨#[66, 46, 103]⟩, .string ⟨#[65, 46, 104]⟩] rfl i hi)).mono ?_
  rintro e w2 ⟨s2, rfl, S2⟩
  have B2 := Lib.hid ((B1.out.alloc _).call S2 (by omega))
  have SN2 := Lib.hid ((SN1.out.alloc _).call S2)
  obtain ⟨n2, D2⟩ := SN2.out.dic
  have D2 := Lib.hid D2
  have hz2 : w.heap.size < w2.heap.size := B2.out.has.lt
  clear S2
  go_wp2_with fail
  have K2 := Lib.hid (KL.start SN2.out B2.out 16 s2)
  refine (next_any h _ (SN2.out.imm.alloc _) g L n2 (D2.out.alloc _) 4 (by omega) (by omega)).mono ?_
  rintro e w3 ⟨rfl, S3⟩
  have bd3 := nextP_bd L n2 4 (by omega)
  generalize nextP L n2 4 = rr at *
  have K3 := Lib.hid (K2.out.call S3)
  clear S3
  clear K2
  generalize hbb : w2.heap.size = bb at *
  have HBB := Lib.hid hbb
  clear hbb
  obtain ⟨jj, rfl⟩ : ∃ jj : Nat, rr = (jj : Int) := ⟨rr.toNat, by omega⟩
  have hjj : jj ≤ 3 := by omega
  go_wp2_with fail
  go_loopw [7, 66, 67, 68, 69, 70, 71, 72, 73, 74, 75, 76, 77, 78, 79, 80] (fun kk _ _ _ _ _ _ _ _ _ _ _ _ _ _ _ wr => ∃ (j : Nat) (ts : List Tree) (hj : Hp) (v : Value) (vs : List Value), kk = .int .i64 j ∧ j + ts.length ≤ 3 ∧ sizes ts ≤ ts.length * (B + 1) ∧ KL g L h w bb 16 s2 #[.int .i64 0, .string ⟨#[]⟩, .slice none 0 0, .slice none 0 0] ts hj v vs wr) (fun kk _ _ _ _ _ _ _ _ _ _ _ _ _ _ _ _ => (intOf kk).toNat)
  case atStart => exact ⟨jj, [], _, _, _, rfl, by simp; omega, by simp [sizes], K3.out⟩
  case round =>
    obtain ⟨j, ts, hj, v, vs, rfl, hjl, hsz, K⟩ := hrel
    obtain ⟨av, cv, rfl⟩ := K.own.shape
    have K' := Lib.hid K
    have hzr : w.heap.size < wr.heap.size := K.rb.has.lt
    have hbr : bb < wr.heap.size := K.bx.has.lt
    have ⟨⟨c0, c1, c2, c3⟩, f0, f1, f2, f3⟩ := K.bx.four
    have ⟨⟨k0, k1, k2, k3⟩, z0, z1, z2, z3⟩ := K.rb.four
    have hlo := K.lo
    obtain ⟨nr, DR⟩ := K.st.dic
    have DR := Lib.hid DR
    have HSZ := Lib.hid hsz
    clear K hsz
    by_cases hlt : 0 < j
    · have g1 : decide (0 < j) = true := by simpa using hlt
      go_wp2_with fail
      have wm : IntKind.i64.wrap (m : Int) = m := w64 (by omega)
      go_region_law (first | (go_simp; go_at_call 48; refine (HE.out hj _ (by exact K'.out.st.imm.drew) g L nr (by exact DR.out.drew)).mono ?_; rintro e w6 ⟨v6, rfl, h6, t6, S6, T6, Z6⟩; obtain ⟨al6, cl6, ak6, ck6, -, rfl, -, -, -, -, -, -⟩ := T6.open; have SC := Lib.hid ((DSt.refl K'.out.st.imm DR.out).drew.call S6); have E6 := Lib.hid (enc_of T6); have hb6 : bb < w6.heap.size := (K'.out.bx2 SC.out).has.lt; have hb6' : bb < w6.heap.size + 1 := (by omega); have hb6'' : bb < w6.heap.size + 1 + 1 := (by omega); have ⟨⟨x0, x1, x2, x3⟩, q0, q1, q2, q3⟩ := (K'.out.bx2 SC.out).four; clear S6 T6) | (refine step_app el_trees (by rfl) _ _ (by rfl) (St.refl' (B := w.heap.size) (by exact ((SC.out.lay [.int .i64 t6.kind, .string t6.text, .slice al6 t6.leads.length cl6, .slice ak6 t6.kids.length ck6] 25 w6.heap.size rfl).alloc (Obj.cells #[.int .i64 17, .string ⟨#[]⟩, .slice none 0 0, .slice (some ⟨w6.heap.size, 0, none⟩) 1 1] 25)).imm) (by simp; omega)) _ ts.length vs (by rfl) (K'.out.own2 ((SC.out.lay [.int .i64 t6.kind, .string t6.text, .slice al6 t6.leads.length cl6, .slice ak6 t6.kids.length ck6] 25 w6.heap.size rfl).alloc (Obj.cells #[.int .i64 17, .string ⟨#[]⟩, .slice none 0 0, .slice (some ⟨w6.heap.size, 0, none⟩) 1 1] 25))) ⟨w6.heap.size + 1, 0, none⟩ 1 1 [.int .i64 17, .string ⟨#[]⟩, .slice none 0 0, .slice (some ⟨w6.heap.size, 0, none⟩) 1 1] (by rfl) (by rfl) (new_cells _ _ _ _ (by simp)) (one_cells _ rfl) (by omega) (by omega) ?_; intro gg cg w7 st7 own7 gr7 bk7; have BX7 := (K'.out.bx2 ((SC.out.lay [.int .i64 t6.kind, .string t6.text, .slice al6 t6.leads.length cl6, .slice ak6 t6.kids.length ck6] 25 w6.heap.size rfl).alloc (Obj.cells #[.int .i64 17, .string ⟨#[]⟩, .slice none 0 0, .slice (some ⟨w6.heap.size, 0, none⟩) 1 1] 25))).grown gr7 K'.out.ne; have y3 : w7.cell? ⟨bb, 3, none⟩ = some (.slice av ts.length cv) := BX7.has.cl 3; have yf : w7.frozen? ⟨bb, 3, none⟩ = false := BX7.has.fz 3; have KN := Lib.hid (K'.out.next ((SC.out.lay [.int .i64 t6.kind, .string t6.text, .slice al6 t6.leads.length cl6, .slice ak6 t6.kids.length ck6] 25 w6.heap.size rfl).alloc (Obj.cells #[.int .i64 17, .string ⟨#[]⟩, .slice none 0 0, .slice (some ⟨w6.heap.size, 0, none⟩) 1 1] 25)) own7 gr7 bk7 (tn := [.node 17 ⟨#[]⟩ [] [t6]]) (arg_enc SC.out.imm E6.out) rfl); have KS := Lib.hid (arg_sz HSZ.out Z6); clear st7 own7 gr7 bk7 BX7))
      all_goals
        go_wp2_with fail
        go_roundw
        case rel => exact ⟨j - 1, ts ++ _, _, _, _, by rw [show ((j - 1 : Nat) : Int) = (j : Int) - 1 by omega], by simp; omega, KS.out, KN.out⟩
        case measure => simp [intOf]; omega
    · obtain rfl : j = 0 := by omega
      go_wp2_with fail
      obtain ⟨h9, S9, T9⟩ := K'.out.fin (by unfold I64; omega) (by omega) (.int .i64 16) (.string s2) (.slice none 0 0) (.slice av ts.length cv)
      refine bodyPost_ret (v := .agg #[.int .i64 16, .string s2, .slice none 0 0, .slice av ts.length cv]) (by simp [results, Try.results48, go_sem, k0, k1, k2, k3]) rfl ?_
      have hq := HSZ.out
      have hq2 : ts.length * (B + 1) ≤ 3 * (B + 1) := Nat.mul_le_mul_right _ (by omega)
      exact ⟨_, rfl, h9, .node 16 s2 [] ts, S9, T9, by show Tree.size _ ≤ _; simp only [Tree.size]; omega⟩

set_option maxRecDepth 100000 in
set_option maxHeartbeats 4000000 in
theorem exprS8 (m B : Nat) (hm : m ≤ 100) (E : ExprC m B) (h : Hp) (w : World) (hi : Imm h w) (g : Nat) (L : List Int) (n : Nat) (d : Dic h w g L n) (hr : nextP L n 14 = 8) :
    Calls Try.prog 48 #[.pointer (some ⟨g, 0, none⟩), .int .i64 ((m + 1 : Nat) : Int)] w (TRes g L h w fun t => t.size ≤ 3 * B + 6) := by
  have HI := Lib.hid hi
  have D := Lib.hid d
  have HR := Lib.hid hr
  have hgl := d.lt
  clear hi d hr
  have e1 : ((m + 1 : Nat) : Int) - 1 = (m : Int) := by omega
  have e2 : ¬ ((m + 1 : Nat) : Int) < 1 := by omega
  have e3 : (m : Int) + 1 - 1 = (m : Int) := by omega
  have HE := Lib.hid E
  clear E
  go_enter Try.func48, Try.ntmps48
  go_wp2_with fail
  have B0 := Lib.hid (Bx.new HI.out #[.int .i64 0, .string ⟨#[]⟩, .slice none 0 0, .slice none 0 0] 25)
  have S0 := Lib.hid ((DSt.refl HI.out D.out).alloc (Obj.cells #[.int .i64 0, .string ⟨#[]⟩, .slice none 0 0, .slice none 0 0] 25))
  refine (next_any h _ S0.out.imm g L n (D.out.alloc _) 14 (by omega) (by omega)).mono ?_
  rintro e w1 ⟨rfl, S1⟩
  rw [HR.out]
  have B1 := Lib.hid (B0.out.call S1 (by omega))
  have SN1 := Lib.hid (S0.out.call S1)
  obtain ⟨n1, D1⟩ := SN1.out.dic
  have D1 := Lib.hid D1
  have hz1 : w.heap.size < w1.heap.size := B1.out.has.lt
  clear S1
  go_wp2_with fail
  have K1 := Lib.hid (KL.start SN1.out B1.out 18 ⟨#[]⟩)
  refine (next_any h _ (SN1.out.imm.alloc _) g L n1 (D1.out.alloc _) 3 (by omega) (by omega)).mono ?_
  rintro e w2 ⟨rfl, S2⟩
  have bd2 := nextP_bd L n1 3 (by omega)
  generalize nextP L n1 3 = rr at *
  have K2 := Lib.hid (K1.out.call S2)
  clear S2
  clear K1
  generalize hbb : w1.heap.size = bb at *
  have HBB := Lib.hid hbb
  clear hbb
  obtain ⟨jj, rfl⟩ : ∃ jj : Nat, rr = (jj : Int) - 1 := ⟨(rr + 1).toNat, by omega⟩
  have hjj : jj ≤ 3 := by omega
  go_wp2_with fail
  go_loopw [9, 88, 89, 90, 91, 92, 93, 94, 95, 96, 97, 98, 99, 100] (fun kk _ _ _ _ _ _ _ _ _ _ _ _ _ wr => ∃ (j : Nat) (ts : List Tree) (hj : Hp) (v : Value) (vs : List Value), kk = .int .i64 j ∧ j + ts.length ≤ 3 ∧ sizes ts ≤ ts.length * (B + 1) ∧ KL g L h w bb 18 ⟨#[]⟩ #[.int .i64 0, .string ⟨#[]⟩, .slice none 0 0, .slice none 0 0] ts hj v vs wr) (fun kk _ _ _ _ _ _ _ _ _ _ _ _ _ _ => (intOf kk).toNat)
  case atStart => exact ⟨jj, [], _, _, _, by rw [show (1 : Int) + ((jj : Int) - 1) = jj by omega], by simp; omega, by simp [sizes], K2.out⟩
  case round =>
    obtain ⟨j, ts, hj, v, vs, rfl, hjl, hsz, K⟩ := hrel
    obtain ⟨av, cv, rfl⟩ := K.own.shape
    have K' := Lib.hid K
    have hzr : w.heap.size < wr.heap.size := K.rb.has.lt
    have hbr : bb < wr.heap.size := K.bx.has.lt
    have ⟨⟨c0, c1, c2, c3⟩, f0, f1, f2, f3⟩ := K.bx.four
    have ⟨⟨k0, k1, k2, k3⟩, z0, z1, z2, z3⟩ := K.rb.four
    have hlo := K.lo
    obtain ⟨nr, DR⟩ := K.st.dic
    have DR := Lib.hid DR
    have HSZ := Lib.hid hsz
    clear K hsz
    by_cases hlt : 0 < j
    · have g1 : decide (0 < j) = true := by simpa using hlt
      go_wp2_with fail
      have wm : IntKind.i64.wrap (m : Int) = m := w64 (by omega)
      go_region_law (first | (go_simp; go_at_call 48; refine (HE.out hj _ (by exact K'.out.st.imm.drew) g L nr (by exact DR.out.drew)).mono ?_; rintro e w6 ⟨v6, rfl, h6, t6, S6, T6, Z6⟩; obtain ⟨al6, cl6, ak6, ck6, -, rfl, -, -, -, -, -, -⟩ := T6.open; have SC := Lib.hid ((DSt.refl K'.out.st.imm DR.out).drew.call S6); have E6 := Lib.hid (enc_of T6); have hb6 : bb < w6.heap.size := (K'.out.bx2 SC.out).has.lt; have hb6' : bb < w6.heap.size + 1 := (by omega); have hb6'' : bb < w6.heap.size + 1 + 1 := (by omega); have ⟨⟨x0, x1, x2, x3⟩, q0, q1, q2, q3⟩ := (K'.out.bx2 SC.out).four; clear S6 T6) | (refine step_app el_trees (by rfl) _ _ (by rfl) (St.refl' (B := w.heap.size) (by exact (SC.out.alloc (Obj.cells #[.int .i64 t6.kind, .string t6.text, .slice al6 t6.leads.length cl6, .slice ak6 t6.kids.length ck6] 25)).imm) (by simp; omega)) _ ts.length vs (by rfl) (K'.out.own2 (SC.out.alloc (Obj.cells #[.int .i64 t6.kind, .string t6.text, .slice al6 t6.leads.length cl6, .slice ak6 t6.kids.length ck6] 25))) ⟨w6.heap.size, 0, none⟩ 1 1 [.int .i64 t6.kind, .string t6.text, .slice al6 t6.leads.length cl6, .slice ak6 t6.kids.length ck6] (by rfl) (by rfl) (new_cells _ _ _ _ (by simp)) (one_cells _ rfl) (by omega) (by omega) ?_; intro gg cg w7 st7 own7 gr7 bk7; have BX7 := (K'.out.bx2 (SC.out.alloc (Obj.cells #[.int .i64 t6.kind, .string t6.text, .slice al6 t6.leads.length cl6, .slice ak6 t6.kids.length ck6] 25))).grown gr7 K'.out.ne; have y3 : w7.cell? ⟨bb, 3, none⟩ = some (.slice av ts.length cv) := BX7.has.cl 3; have yf : w7.frozen? ⟨bb, 3, none⟩ = false := BX7.has.fz 3; have KN := Lib.hid (K'.out.next (SC.out.alloc (Obj.cells #[.int .i64 t6.kind, .string t6.text, .slice al6 t6.leads.length cl6, .slice ak6 t6.kids.length ck6] 25)) own7 gr7 bk7 (tn := [t6]) (EncL.one E6.out) rfl); have KS := Lib.hid (one_sz HSZ.out Z6); clear st7 own7 gr7 bk7 BX7))
      all_goals
        go_wp2_with fail
        go_roundw
        case rel => exact ⟨j - 1, ts ++ _, _, _, _, by rw [show ((j - 1 : Nat) : Int) = (j : Int) - 1 by omega], by simp; omega, KS.out, KN.out⟩
        case measure => simp [intOf]; omega
    · obtain rfl : j = 0 := by omega
      go_wp2_with fail
      obtain ⟨h9, S9, T9⟩ := K'.out.fin (by unfold I64; omega) (by omega) (.int .i64 18) (.string ⟨#[]⟩) (.slice none 0 0) (.slice av ts.length cv)
      refine bodyPost_ret (v := .agg #[.int .i64 18, .string ⟨#[]⟩, .slice none 0 0, .slice av ts.length cv]) (by simp [results, Try.results48, go_sem, k0, k1, k2, k3]) rfl ?_
      have hq := HSZ.out
      have hq2 : ts.length * (B + 1) ≤ 3 * (B + 1) := Nat.mul_le_mul_right _ (by omega)
      exact ⟨_, rfl, h9, .node 18 ⟨#[]⟩ [] ts, S9, T9, by show Tree.size _ ≤ _; simp only [Tree.size]; omega⟩

end Go.Proofs.Ytfifbadepebpeaa
