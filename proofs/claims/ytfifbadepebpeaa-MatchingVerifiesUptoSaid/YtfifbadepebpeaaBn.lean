/- Expr at every depth; Def. -/
import Derived.Test.YtfifbadepebpeaaDi
import Derived.Test.YtfifbadepebpeaaDf
import Derived.Deep.DrawnRows
import Derived.Deep.AppendLies
import Derived.Deep.RegionLaw
import Derived.Test.YtfifbadepebpeaaBc
namespace Go.Proofs.Ytfifbadepebpeaa
open Go.RowKit
attribute [local go_sem ↓] Go.wp_at_zero Go.wp_at_succ

theorem TRes.mono {g : Nat} {L : List Int} {h : Hp} {w : World} {P Q : Tree → Prop} (hPQ : ∀ t, P t → Q t) {e : Ending} {w' : World} (r : TRes g L h w P e w') : TRes g L h w Q e w' := by
  obtain ⟨v, e1, h', t, a, b, c⟩ := r
  exact ⟨v, e1, h', t, a, b, hPQ t c⟩
def exprB : Nat → Nat
  | 0 => 1
  | m + 1 => 3 * exprB m + 6
theorem expr_any : ∀ (m : Nat), m ≤ 100 → ExprC m (exprB m)
  | 0, _ => exprC0
  | m + 1, hm => by
    have ih := expr_any m (by omega)
    intro h w hi g L n d
    have bd := nextP_bd L n 14 (by omega)
    have hr : nextP L n 14 = 0 ∨ nextP L n 14 = 1 ∨ nextP L n 14 = 2 ∨ nextP L n 14 = 3 ∨ nextP L n 14 = 4 ∨ nextP L n 14 = 5 ∨ nextP L n 14 = 6 ∨ nextP L n 14 = 7 ∨ nextP L n 14 = 8 ∨ nextP L n 14 = 9 ∨ nextP L n 14 = 10 ∨ nextP L n 14 = 11 ∨ nextP L n 14 = 12 ∨ nextP L n 14 = 13 := by omega
    rcases hr with hr | hr | hr | hr | hr | hr | hr | hr | hr | hr | hr | hr | hr | hr
    · exact (exprS0 m (by omega) h w hi g L n d hr).mono fun _ _ q => q.mono fun t ht => Nat.le_trans ht (by rw [exprB]; omega)
    · exact (exprS1 m (by omega) h w hi g L n d hr).mono fun _ _ q => q.mono fun t ht => Nat.le_trans ht (by rw [exprB]; omega)
    · exact (exprS2 m (by omega) h w hi g L n d hr).mono fun _ _ q => q.mono fun t ht => Nat.le_trans ht (by rw [exprB]; omega)
    · exact (exprS3 m (by omega) h w hi g L n d hr).mono fun _ _ q => q.mono fun t ht => Nat.le_trans ht (by rw [exprB]; omega)
    · exact (exprS4 m (by omega) h w hi g L n d hr).mono fun _ _ q => q.mono fun t ht => Nat.le_trans ht (by rw [exprB]; omega)
    · exact (exprS5 m (by omega) h w hi g L n d hr).mono fun _ _ q => q.mono fun t ht => Nat.le_trans ht (by rw [exprB]; omega)
    · exact exprS6 m (exprB m) (by omega) ih h w hi g L n d hr
    · exact exprS7 m (exprB m) (by omega) ih h w hi g L n d hr
    · exact exprS8 m (exprB m) (by omega) ih h w hi g L n d hr
    · exact exprS9 m (exprB m) (by omega) ih h w hi g L n d hr
    · exact exprS10 m (exprB m) (by omega) ih h w hi g L n d hr
    · exact exprS11 m (exprB m) (by omega) ih h w hi g L n d hr
    · exact exprS12 m (exprB m) (by omega) ih h w hi g L n d hr
    · exact exprS13 m (exprB m) (by omega) ih h w hi g L n d hr

theorem par_enc {h : Hp} {w : World} {t : Tree} {a b c d : Value} (hi : Imm h w) (e : EncTree h t [a, b, c, d]) (s : ByteArray) :
    EncL (EncTree (h.add w.heap.size ([a, b, c, d] : List Value).toArray)) [.node 4 s [] [t]] [.int .i64 4, .string s, .slice none 0 0, .slice (some ⟨w.heap.size, 0, none⟩) 1 1] :=
  EncL.one (enc_of (kids_tree (add_self _ _ _) (EncL.one (e.mono (Hp.le_add _ hi.size_none))) 1 rfl (by simp) _ (by unfold I64; omega) _))
theorem par_sz {ts : List Tree} {t : Tree} (h : sizes ts ≤ ts.length * 3) (ht : t.size ≤ 1 + 1) (s : ByteArray) : sizes (ts ++ [.node 4 s [] [t]]) ≤ (ts ++ [Tree.node 4 s [] [t]]).length * 3 := by
  rw [sizes_app, List.length_append, Nat.add_mul]
  simp only [sizes, Tree.size, List.length_cons, List.length_nil]
  omega

set_option maxRecDepth 100000 in
set_option maxHeartbeats 4000000 in
theorem defZ (h : Hp) (w : World) (hi : Imm h w) (g : Nat) (L : List Int) (n : Nat) (d : Dic h w g L n) (hr : nextP L n 5 = 0) :
    Calls Try.prog 20 #[.pointer (some ⟨g, 0, none⟩)] w (TRes g L h w fun t => t.size ≤ 120 ∧ (t.kind = 2 ∨ t.kind = 3)) := by
  have HI := Lib.hid hi
  have D := Lib.hid d
  have HR := Lib.hid hr
  have hgl := d.lt
  clear hi d hr
  go_enter Try.func20, Try.ntmps20
  go_wp2_with fail
  have B0 := Lib.hid (Bx.new HI.out #[.int .i64 0, .string ⟨#[]⟩, .slice none 0 0, .slice none 0 0] 25)
  have S0 := Lib.hid ((DSt.refl HI.out D.out).alloc (Obj.cells #[.int .i64 0, .string ⟨#[]⟩, .slice none 0 0, .slice none 0 0] 25))
  refine (next_any h _ S0.out.imm g L n (D.out.alloc _) 5 (by omega) (by omega)).mono ?_
  rintro e w1 ⟨rfl, S1⟩
  rw [HR.out]
  have B1 := Lib.hid (B0.out.call S1 (by omega))
  have SN1 := Lib.hid (S0.out.call S1)
  obtain ⟨n1, D1⟩ := SN1.out.dic
  have D1 := Lib.hid D1
  have hz1 : w.heap.size < w1.heap.size := B1.out.has.lt
  clear S1
  go_wp2_with fail
  refine (pick_any h _ (SN1.out.imm.alloc _) g L n1 (D1.out.alloc _) w1.heap.size 2 2 #[.string ⟨#[84]⟩, .string ⟨#[85]⟩] (Has.new w1 _ _) (by omega) (by omega) (by omega) (fun i hi => strs_ok [.string ⟨#[84]⟩, .string ⟨#[85]⟩] rfl i hi)).mono ?_
  rintro e w2 ⟨s2, rfl, S2⟩
  have B2 := Lib.hid ((B1.out.alloc _).call S2 (by omega))
  have SN2 := Lib.hid ((SN1.out.alloc _).call S2)
  obtain ⟨n2, D2⟩ := SN2.out.dic
  have D2 := Lib.hid D2
  have hz2 : w.heap.size < w2.heap.size := B2.out.has.lt
  clear S2
  go_wp2_with fail
  refine (typ_any 2 h _ SN2.out.imm g L n2 D2.out (by omega)).mono ?_
  rintro e w3 ⟨v3, rfl, h3, t3, S3, T3, Z3⟩
  obtain ⟨al3, cl3, ak3, ck3, -, rfl, -, -, -, -, -, -⟩ := T3.open
  have B3 := Lib.hid (B2.out.call S3 (by omega))
  have SN3 := Lib.hid (SN2.out.call S3)
  obtain ⟨n3, D3⟩ := SN3.out.dic
  have D3 := Lib.hid D3
  have E3 := Lib.hid (enc_of T3)
  have hz3 : w.heap.size < w3.heap.size := B3.out.has.lt
  clear S3 T3
  have ⟨⟨k0, k1, k2, k3⟩, z0, z1, z2, z3⟩ := B3.out.four
  have hy : w.heap.size < w3.heap.size + 1 := by omega
  go_wp2_with fail
  refine bodyPost_ret (v := .agg #[.int .i64 3, .string s2, .slice none 0 0, .slice (some ⟨w3.heap.size, 0, none⟩) 1 1]) (by simp [results, Try.results20, go_sem, k0, k1, k2, k3, hz3]) rfl ?_
  have SL := (SN3.out.set4 (Nat.le_refl _) B3.out.no (.int .i64 3) (.string s2) (.slice none 0 0) (.slice (some ⟨w3.heap.size, 0, none⟩) 1 1)).lay [.int .i64 t3.kind, .string t3.text, .slice al3 t3.leads.length cl3, .slice ak3 t3.kids.length ck3] 25 w3.heap.size (by simp [World.setCell])
  have hle : h3.le (h3.add w3.heap.size ([.int .i64 t3.kind, .string t3.text, .slice al3 t3.leads.length cl3, .slice ak3 t3.kids.length ck3] : List Value).toArray) := Hp.le_add _ SN3.out.imm.size_none
  exact ⟨_, rfl, _, .node 3 s2 [] [t3], SL, kids_tree (add_self _ _ _) (EncL.one (E3.out.mono hle)) 1 rfl (by simp) _ (by unfold I64; omega) _, ⟨by simp only [Tree.size, sizes]; omega, .inr rfl⟩⟩

set_option maxRecDepth 100000 in
set_option maxHeartbeats 4000000 in
theorem defS (h : Hp) (w : World) (hi : Imm h w) (g : Nat) (L : List Int) (n : Nat) (d : Dic h w g L n) (hr : nextP L n 5 ≠ 0) :
    Calls Try.prog 20 #[.pointer (some ⟨g, 0, none⟩)] w (TRes g L h w fun t => t.size ≤ 120 ∧ (t.kind = 2 ∨ t.kind = 3)) := by
  have HI := Lib.hid hi
  have D := Lib.hid d
  have HR := Lib.hid hr
  have hgl := d.lt
  clear hi d hr
  go_enter Try.func20, Try.ntmps20
  go_wp2_with fail
  have B0 := Lib.hid (Bx.new HI.out #[.int .i64 0, .string ⟨#[]⟩, .slice none 0 0, .slice none 0 0] 25)
  have S0 := Lib.hid ((DSt.refl HI.out D.out).alloc (Obj.cells #[.int .i64 0, .string ⟨#[]⟩, .slice none 0 0, .slice none 0 0] 25))
  refine (next_any h _ S0.out.imm g L n (D.out.alloc _) 5 (by omega) (by omega)).mono ?_
  rintro e w1 ⟨rfl, S1⟩
  have hr1 : (nextP L n 5 == 0) = false := ibeqF HR.out
  have B1 := Lib.hid (B0.out.call S1 (by omega))
  have SN1 := Lib.hid (S0.out.call S1)
  obtain ⟨n1, D1⟩ := SN1.out.dic
  have D1 := Lib.hid D1
  have hz1 : w.heap.size < w1.heap.size := B1.out.has.lt
  clear S1
  go_wp2_with fail
  refine (pick_any h _ (SN1.out.imm.alloc _) g L n1 (D1.out.alloc _) w1.heap.size 3 3 #[.string ⟨#[102]⟩, .string ⟨#[103]⟩, .string ⟨#[104]⟩] (Has.new w1 _ _) (by omega) (by omega) (by omega) (fun i hi => strs_ok [.string ⟨#[102]⟩, .string ⟨#[103]⟩, .string ⟨#[104]⟩] rfl i hi)).mono ?_
  rintro e w2 ⟨s2, rfl, S2⟩
  have B2 := Lib.hid ((B1.out.alloc _).call S2 (by omega))
  have SN2 := Lib.hid ((SN1.out.alloc _).call S2)
  obtain ⟨n2, D2⟩ := SN2.out.dic
  have D2 := Lib.hid D2
  have hz2 : w.heap.size < w2.heap.size := B2.out.has.lt
  clear S2
  go_wp2_with fail
  have K2 := Lib.hid (KL.start SN2.out B2.out 2 s2)
  refine (next_any h _ (SN2.out.imm.alloc _) g L n2 (D2.out.alloc _) 4 (by omega) (by omega)).mono ?_
  rintro e w3 ⟨rfl, S3⟩
  have bd3 := nextP_bd L n2 4 (by omega)
  generalize nextP L n2 4 = rr at *
  have K3 := Lib.hid (K2.out.call S3)
  clear S3
  clear K2
  generalize hbb : w2.heap.size = bb at *
  have HBB := Lib.hid hbb
  clear hbb
  obtain ⟨jj, rfl⟩ : ∃ jj : Nat, rr = (jj : Int) := ⟨rr.toNat, by omega⟩
  have hjj : jj ≤ 3 := by omega
  go_wp2_with fail
  go_loopw [4, 21, 22, 23, 24, 25, 26, 27, 28, 29, 30, 31, 32, 33, 34, 35, 36] (fun kk _ _ _ _ _ _ _ _ _ _ _ _ _ _ _ _ wr => ∃ (j : Nat) (ts : List Tree) (hj : Hp) (v : Value) (vs : List Value), kk = .int .i64 j ∧ j + ts.length ≤ 3 ∧ sizes ts ≤ ts.length * 3 ∧ KL g L h w bb 2 s2 #[.int .i64 0, .string ⟨#[]⟩, .slice none 0 0, .slice none 0 0] ts hj v vs wr) (fun kk _ _ _ _ _ _ _ _ _ _ _ _ _ _ _ _ _ => (intOf kk).toNat)
  case atStart => exact ⟨jj, [], _, _, _, rfl, by simp; omega, by simp [sizes], K3.out⟩
  case round =>
    obtain ⟨j, ts, hj, v, vs, rfl, hjl, hsz, K⟩ := hrel
    obtain ⟨av, cv, rfl⟩ := K.own.shape
    have K' := Lib.hid K
    have hzr : w.heap.size < wr.heap.size := K.rb.has.lt
    have hbr : bb < wr.heap.size := K.bx.has.lt
    have ⟨⟨c0, c1, c2, c3⟩, f0, f1, f2, f3⟩ := K.bx.four
    have ⟨⟨k0, k1, k2, k3⟩, z0, z1, z2, z3⟩ := K.rb.four
    have hlo := K.lo
    obtain ⟨nr, DR⟩ := K.st.dic
    have DR := Lib.hid DR
    have HSZ := Lib.hid hsz
    clear K hsz
    by_cases hlt : 0 < j
    · have g1 : decide (0 < j) = true := by simpa using hlt
      have hbr' : bb < wr.heap.size + 1 := by omega
      go_wp2_with fail
      go_region_law (first | (go_simp; go_at_call 46; refine (pick_any hj _ (by exact (K'.out.st.imm.alloc _).drew) g L nr (by exact (DR.out.alloc _).drew) wr.heap.size 3 3 #[.string ⟨#[120]⟩, .string ⟨#[121]⟩, .string ⟨#[122]⟩] (by exact (Has.new wr _ _).drew) (by have := K'.out.st.lt; omega) (by omega) (by omega) (fun i hi => strs_ok [.string ⟨#[120]⟩, .string ⟨#[121]⟩, .string ⟨#[122]⟩] rfl i hi)).mono ?_; rintro e w5 ⟨s5, rfl, S5⟩; have SB := Lib.hid ((((DSt.refl K'.out.st.imm DR.out).alloc _).drew).call S5); obtain ⟨n5, D5⟩ := SB.out.dic; have D5 := Lib.hid D5; have hb5 : bb < w5.heap.size := (K'.out.bx2 SB.out).has.lt; have ⟨⟨p0, p1, p2, p3⟩, r0, r1, r2, r3⟩ := (K'.out.bx2 SB.out).four; clear S5) | (go_simp; go_at_call 47; refine (typ_any 1 hj _ (by exact SB.out.imm) g L n5 (by exact D5.out) (by omega)).mono ?_; rintro e w6 ⟨v6, rfl, h6, t6, S6, T6, Z6⟩; obtain ⟨al6, cl6, ak6, ck6, -, rfl, -, -, -, -, -, -⟩ := T6.open; have SC := Lib.hid (SB.out.call S6); have E6 := Lib.hid (enc_of T6); have hb6 : bb < w6.heap.size := (K'.out.bx2 SC.out).has.lt; have hb6' : bb < w6.heap.size + 1 := (by omega); have hb6'' : bb < w6.heap.size + 1 + 1 := (by omega); have ⟨⟨x0, x1, x2, x3⟩, q0, q1, q2, q3⟩ := (K'.out.bx2 SC.out).four; clear S6 T6) | (refine step_app el_trees (by rfl) _ _ (by rfl) (St.refl' (B := w.heap.size) (by exact ((SC.out.lay [.int .i64 t6.kind, .string t6.text, .slice al6 t6.leads.length cl6, .slice ak6 t6.kids.length ck6] 25 w6.heap.size rfl).alloc (Obj.cells #[.int .i64 4, .string s5, .slice none 0 0, .slice (some ⟨w6.heap.size, 0, none⟩) 1 1] 25)).imm) (by simp; omega)) _ ts.length vs (by rfl) (K'.out.own2 ((SC.out.lay [.int .i64 t6.kind, .string t6.text, .slice al6 t6.leads.length cl6, .slice ak6 t6.kids.length ck6] 25 w6.heap.size rfl).alloc (Obj.cells #[.int .i64 4, .string s5, .slice none 0 0, .slice (some ⟨w6.heap.size, 0, none⟩) 1 1] 25))) ⟨w6.heap.size + 1, 0, none⟩ 1 1 [.int .i64 4, .string s5, .slice none 0 0, .slice (some ⟨w6.heap.size, 0, none⟩) 1 1] (by rfl) (by rfl) (new_cells _ _ _ _ (by simp)) (one_cells _ rfl) (by omega) (by omega) ?_; intro gg cg w7 st7 own7 gr7 bk7; have BX7 := (K'.out.bx2 ((SC.out.lay [.int .i64 t6.kind, .string t6.text, .slice al6 t6.leads.length cl6, .slice ak6 t6.kids.length ck6] 25 w6.heap.size rfl).alloc (Obj.cells #[.int .i64 4, .string s5, .slice none 0 0, .slice (some ⟨w6.heap.size, 0, none⟩) 1 1] 25))).grown gr7 K'.out.ne; have y3 : w7.cell? ⟨bb, 3, none⟩ = some (.slice av ts.length cv) := BX7.has.cl 3; have yf : w7.frozen? ⟨bb, 3, none⟩ = false := BX7.has.fz 3; have KN := Lib.hid (K'.out.next ((SC.out.lay [.int .i64 t6.kind, .string t6.text, .slice al6 t6.leads.length cl6, .slice ak6 t6.kids.length ck6] 25 w6.heap.size rfl).alloc (Obj.cells #[.int .i64 4, .string s5, .slice none 0 0, .slice (some ⟨w6.heap.size, 0, none⟩) 1 1] 25)) own7 gr7 bk7 (tn := [.node 4 s5 [] [t6]]) (par_enc SC.out.imm E6.out s5) rfl); have KS := Lib.hid (par_sz HSZ.out Z6 s5); clear st7 own7 gr7 bk7 BX7))
      all_goals
        go_wp2_with fail
        go_roundw
        case rel => exact ⟨j - 1, ts ++ _, _, _, _, by rw [show ((j - 1 : Nat) : Int) = (j : Int) - 1 by omega], by simp; omega, KS.out, KN.out⟩
        case measure => simp [intOf]; omega
    · obtain rfl : j = 0 := by omega
      go_wp2_with fail
      go_region_law (first | (go_simp; go_at_call 47; refine (typ_any 1 hj _ (by exact K'.out.st.imm.drew) g L nr (by exact DR.out.drew) (by omega)).mono ?_; rintro e w6 ⟨v6, rfl, h6, t6, S6, T6, Z6⟩; obtain ⟨al6, cl6, ak6, ck6, -, rfl, -, -, -, -, -, -⟩ := T6.open; have SC := Lib.hid ((DSt.refl K'.out.st.imm DR.out).drew.call S6); obtain ⟨n6, D6⟩ := SC.out.dic; have D6 := Lib.hid D6; have E6 := Lib.hid (enc_of T6); have hb6 : bb < w6.heap.size := (K'.out.bx2 SC.out).has.lt; have ⟨⟨x0, x1, x2, x3⟩, q0, q1, q2, q3⟩ := (K'.out.bx2 SC.out).four; clear S6 T6) | (go_simp; go_at_call 48; refine (expr_any 3 (by omega) h6 _ (by exact SC.out.imm) g L n6 (by exact D6.out)).mono ?_; rintro e w7 ⟨v7, rfl, h7, t7, S7, T7, Z7⟩; obtain ⟨al7, cl7, ak7, ck7, -, rfl, -, -, -, -, -, -⟩ := T7.open; have SD := Lib.hid (SC.out.call S7); have E7 := Lib.hid (enc_of T7); have EE6 := Lib.hid (E6.out.mono S7.le); have hb7 : bb < w7.heap.size := (K'.out.bx2 SD.out).has.lt; have hb7' : bb < w7.heap.size + 1 := (by omega); have ⟨⟨u0, u1, u2, u3⟩, j0, j1, j2, j3⟩ := (K'.out.bx2 SD.out).four; clear S7 T7) | (refine step_app el_trees (by rfl) _ _ (by rfl) (St.refl' (B := w.heap.size) (by exact (SD.out.alloc (Obj.cells #[.int .i64 t6.kind, .string t6.text, .slice al6 t6.leads.length cl6, .slice ak6 t6.kids.length ck6, .int .i64 t7.kind, .string t7.text, .slice al7 t7.leads.length cl7, .slice ak7 t7.kids.length ck7] 25)).imm) (by simp; omega)) _ ts.length vs (by rfl) (K'.out.own2 (SD.out.alloc (Obj.cells #[.int .i64 t6.kind, .string t6.text, .slice al6 t6.leads.length cl6, .slice ak6 t6.kids.length ck6, .int .i64 t7.kind, .string t7.text, .slice al7 t7.leads.length cl7, .slice ak7 t7.kids.length ck7] 25))) ⟨w7.heap.size, 0, none⟩ 2 2 [.int .i64 t6.kind, .string t6.text, .slice al6 t6.leads.length cl6, .slice ak6 t6.kids.length ck6, .int .i64 t7.kind, .string t7.text, .slice al7 t7.leads.length cl7, .slice ak7 t7.kids.length ck7] (by rfl) (by rfl) (new_cells _ _ _ _ (by simp)) (one_cells _ rfl) (by omega) (by omega) ?_; intro gg cg w8 st8 own8 gr8 bk8; have BX8 := (K'.out.bx2 (SD.out.alloc (Obj.cells #[.int .i64 t6.kind, .string t6.text, .slice al6 t6.leads.length cl6, .slice ak6 t6.kids.length ck6, .int .i64 t7.kind, .string t7.text, .slice al7 t7.leads.length cl7, .slice ak7 t7.kids.length ck7] 25))).grown gr8 K'.out.ne; have y3 : w8.cell? ⟨bb, 3, none⟩ = some (.slice av ts.length cv) := BX8.has.cl 3; have yf : w8.frozen? ⟨bb, 3, none⟩ = false := BX8.has.fz 3; have KN := Lib.hid (K'.out.next (SD.out.alloc (Obj.cells #[.int .i64 t6.kind, .string t6.text, .slice al6 t6.leads.length cl6, .slice ak6 t6.kids.length ck6, .int .i64 t7.kind, .string t7.text, .slice al7 t7.leads.length cl7, .slice ak7 t7.kids.length ck7] 25)) own8 gr8 bk8 (tn := [t6, t7]) ((EncL.one EE6.out).append (EncL.one E7.out)) rfl); clear st8 own8 gr8 bk8 BX8))
      all_goals
        generalize hW9 : (w8.setCell ⟨bb, 3, none⟩ (.slice (some ⟨gg, 0, none⟩) (ts.length + 2) cg)) = w9 at *
        have HW9 := Lib.hid hW9
        clear hW9
        have ⟨⟨a0, a1, a2, a3⟩, b0, b1, b2, b3⟩ := KN.out.bx.four
        have ⟨⟨d0, d1, d2, d3⟩, o0, o1, o2, o3⟩ := KN.out.rb.four
        have hz9 : w.heap.size < w9.heap.size := KN.out.rb.has.lt
        have hb9 : bb < w9.heap.size := KN.out.bx.has.lt
        go_wp2_with fail
        have hlen : (ts ++ [t6, t7]).length = ts.length + 2 := by simp
        obtain ⟨h9, S9, T9⟩ := KN.out.fin (by unfold I64; omega) (by simp; omega) (.int .i64 2) (.string s2) (.slice none 0 0) (.slice (some ⟨gg, 0, none⟩) (ts.length + 2) cg)
        refine bodyPost_ret (v := .agg #[.int .i64 2, .string s2, .slice none 0 0, .slice (some ⟨gg, 0, none⟩) (ts.length + 2) cg]) (by simp [results, Try.results20, go_sem, d0, d1, d2, d3]) rfl ?_
        have hq := HSZ.out
        have hq2 : ts.length * 3 ≤ 3 * 3 := Nat.mul_le_mul_right _ (by omega)
        have hq3 : t7.size ≤ 105 := Z7
        exact ⟨_, rfl, h9, .node 2 s2 [] (ts ++ [t6, t7]), S9, T9, ⟨by simp only [Tree.size]; rw [sizes_app]; simp only [sizes]; omega, .inl rfl⟩⟩

theorem def_any (h : Hp) (w : World) (hi : Imm h w) (g : Nat) (L : List Int) (n : Nat) (d : Dic h w g L n) :
    Calls Try.prog 20 #[.pointer (some ⟨g, 0, none⟩)] w (TRes g L h w fun t => t.size ≤ 120 ∧ (t.kind = 2 ∨ t.kind = 3)) := by
  by_cases hr : nextP L n 5 = 0
  · exact defZ h w hi g L n d hr
  · exact defS h w hi g L n d hr
end Go.Proofs.Ytfifbadepebpeaa

/- Roll; defs: two definitions that are made of numbers. -/
namespace Go.Proofs.Ytfifbadepebpeaa
open Go.RowKit

theorem ints_one (l : List Int) : ∀ u ∈ l.map (Value.int .i64), u.oneCell' = true := by
  intro u hu
  obtain ⟨z, _, rfl⟩ := List.mem_map.1 hu
  rfl

def RollR (h : Hp) (w : World) (L : List Int) (e : Ending) (w' : World) : Prop := ∃ g, e = .returned (.pointer (some ⟨g, 0, none⟩)) ∧ w.heap.size ≤ g ∧ ∃ h', St w.heap.size h w h' w' ∧ Dic h' w' g L 0

theorem roll_end {h : Hp} {w w1 : World} {L : List Int} {a : Option Addr} {c : Nat} (st : St w.heap.size h w h w1) (own : Ow w1 h w.heap.size 3 1 (.slice a (0 + L.length) c) (0 + L.length) ([] ++ L.map (Value.int .i64))) (hL : ∀ x ∈ L, I64 x) (hn : L.length ≤ 100000) :
    RollR h w L (.returned (.pointer (some ⟨w1.heap.size, 0, none⟩))) (w1.alloc (.cells #[.slice a L.length c, .int .i64 0] 93)) := by
  rw [Nat.zero_add, List.nil_append] at own
  have own2 := own.alloc (.cells #[.slice a L.length c, .int .i64 0] 93)
  obtain ⟨h', i1, i2, i3, i4⟩ := own2.giveUp (st.imm.alloc _) (by omega)
  refine ⟨w1.heap.size, rfl, st.size, h', ⟨(st.alloc _).below, i1, Hp.le_trans st.le i2, fun b hb => ?_, st.base⟩, ?_, by simp, Nat.zero_le _, ⟨a, c, ?_, i4, hL⟩, ?_, ?_⟩
  · exact (i3 b (fun g hg e => by have := (own.lt g hg).1; omega)).trans (st.old b hb)
  · exact (i3 _ (fun g hg e => by have := (own.lt g hg).2; omega)).trans st.imm.size_none
  · exact (World.cell?_alloc_at _ _ _ _ rfl).trans rfl
  · exact (World.cell?_alloc_at _ _ _ _ rfl).trans rfl
  · exact World.frozen?_alloc_at _ _ _ _ rfl

set_option maxHeartbeats 1000000 in
theorem roll_any (h : Hp) (w : World) (hi : Imm h w) (vl : Value) (L : List Int) (hl : Ints h vl L) (hn : L.length ≤ 100000) :
    Calls Try.prog 21 #[vl] w (RollR h w L) := by
  have HI := Lib.hid hi
  have HL := Lib.hid hl
  have H1 := Lib.hid (ints_one L)
  obtain ⟨a, cap, rfl, hln, -⟩ := hl.open
  clear hi hl
  go_enter Try.func21, Try.ntmps21
  go_wp2_with (at_builtin; refine wpList_appS el_ints rfl (.tmp 3) (.tmp 4) rfl ((St.refl HI.out).alloc _) (.slice (some ⟨w.heap.size, 0, none⟩) 0 0) 0 [] rfl (own_lit HI.out (Nat.le_refl _) [] 0 1 3 (by simp [maxLen]) rfl) (.slice a L.length cap) L.length (L.map (Value.int .i64)) rfl HL.out.1 H1.out (by omega) ?_; intro v1 w1 st1 own1 gr1 bk1; obtain ⟨a1, c1, rfl⟩ := own1.shape; have Q1 := Lib.hid (roll_end st1 own1 HL.out.2 hn); clear st1 own1 gr1 bk1)
  go_ret
  exact Q1.out

theorem St.dst {B : Nat} {h0 h h' : Hp} {w0 w w' : World} {g : Nat} {L : List Int} (s : St B h0 w0 h w) (t : DSt g L h w h' w') (hg : B ≤ g) : St B h0 w0 h' w' :=
  ⟨s.below.trans ⟨t.gr.os, t.gr.tape, t.gr.output, t.gr.size, fun k hk => t.gr.block k (Nat.lt_of_lt_of_le hk s.size) (fun e => by have := Option.some.inj e; omega)⟩, t.imm, Hp.le_trans s.le t.le, fun b hb => (t.old b (Nat.lt_of_lt_of_le hb s.size)).trans (s.old b hb), s.base⟩

theorem Sl.take {h : Hp} {a : Option Addr} {n c k : Nat} {cs : List Value} (s : Sl h (.slice a n c) n k cs) (j : Nat) (hj : j ≤ n) : Sl h (.slice a j c) j k (cs.take (j * k)) := by
  obtain ⟨a', cap, e, h1, h2, h3⟩ := s
  simp only [Value.slice.injEq, true_and] at e
  obtain ⟨rfl, rfl⟩ := e
  have hm : j * k ≤ n * k := Nat.mul_le_mul_right _ hj
  refine ⟨a, c, rfl, by omega, by rw [List.length_take]; omega, ?_⟩
  rcases Nat.eq_zero_or_pos j with h0 | h0
  · exact .inl h0
  · rcases h3 with h3 | ⟨b, off, c', rfl, hb, hc⟩
    · omega
    · exact .inr ⟨b, off, c', rfl, hb, fun i hi => by rw [List.getElem?_take, if_pos hi]; exact hc i (by omega)⟩
theorem St.comp {B B' : Nat} {h0 h h' : Hp} {w0 w w' : World} (s : St B h0 w0 h w) (t : St B' h w h' w') (hB : B ≤ B') : St B h0 w0 h' w' :=
  ⟨s.below.trans (t.below.mono hB), t.imm, Hp.le_trans s.le t.le, fun b hb => (t.old b (by omega)).trans (s.old b hb), s.base⟩
theorem Bx.upto {B : Nat} {h h1 : Hp} {w w1 : World} {b : Nat} {c : Array Value} (x : Bx h w b c) (s : St B h w h1 w1) (hb : b < B) : Bx h1 w1 b c :=
  ⟨⟨Nat.lt_of_lt_of_le x.has.lt s.below.size, fun q => (s.below.cell (p := ⟨b, q, none⟩) hb).trans (x.has.cl q), fun q => (s.below.frozen (p := ⟨b, q, none⟩) hb).trans (x.has.fz q)⟩, (s.old b hb).trans x.no⟩

theorem defs_mid {B : Nat} {h2 : Hp} {W w5 : World} {L M : List Int} {j : Nat} {a5 : Option Addr} {c5 : Nat} (S : St B h2 W h2 w5) (O : Ow w5 h2 B 3 1 (.slice a5 (j + M.length) c5) (j + M.length) ((L.map (Value.int .i64)).take (j * 1) ++ M.map (Value.int .i64))) (hj : j ≤ L.length)
    (hL : ∀ x ∈ L, I64 x) (hM : ∀ x ∈ M, I64 x) (hn : L.length ≤ 1000) (hm : M.length ≤ 1000) : ∃ h5, St B h2 W h5 w5 ∧ Ints h5 (.slice a5 (j + M.length) c5) (L.take j ++ M) := by
  obtain ⟨h5, i1, i2, i3, i4⟩ := O.giveUp S.imm (by omega)
  refine ⟨h5, ⟨S.below, i1, i2, fun b hb => ?_, S.base⟩, ?_, ?_⟩
  · exact i3 b (fun g hg e => by have := (O.lt g hg).1; omega)
  · have e : (L.take j ++ M).length = j + M.length := by rw [List.length_append, List.length_take]; omega
    rw [e, List.map_append, List.map_take]
    rw [Nat.mul_one] at i4
    exact i4
  · intro x hx
    rcases List.mem_append.1 hx with h | h
    · exact hL x (List.mem_of_mem_take h)
    · exact hM x h

theorem St.set4 {B : Nat} {h0 h : Hp} {w0 w : World} (s : St B h0 w0 h w) {b : Nat} (hb : B ≤ b) (hn : h b = none) (v0 v1 v2 v3 : Value) :
    St B h0 w0 h ((((w.setCell ⟨b, 0, none⟩ v0).setCell ⟨b, 1, none⟩ v1).setCell ⟨b, 2, none⟩ v2).setCell ⟨b, 3, none⟩ v3) :=
  (((s.setCell (p := ⟨b, 0, none⟩) hb hn v0).setCell (p := ⟨b, 1, none⟩) hb hn v1).setCell (p := ⟨b, 2, none⟩) hb hn v2).setCell (p := ⟨b, 3, none⟩) hb hn v3

def DefsR (h : Hp) (w : World) (e : Ending) (w' : World) : Prop := ∃ va vb, e = .returned (.tuple #[va, vb]) ∧ ∃ h' a b, St w.heap.size h w h' w' ∧ TreeV h' va a ∧ TreeV h' vb b ∧ (a.size ≤ 120 ∧ (a.kind = 2 ∨ a.kind = 3)) ∧ b.size ≤ 120 ∧ (b.kind = 2 ∨ b.kind = 3)

theorem Bx.below {h h1 : Hp} {w w1 : World} {b : Nat} {c : Array Value} (x : Bx h w b c) (s : St w.heap.size h w h1 w1) : Bx h1 w1 b c := ⟨x.has.below s.below, (s.old b x.has.lt).trans x.no⟩

set_option maxRecDepth 100000 in
set_option maxHeartbeats 4000000 in
theorem defs_any (h : Hp) (w : World) (hi : Imm h w) (al : Option Addr) (cl : Nat) (L : List Int) (hl : Ints h (.slice al L.length cl) L) (hn : L.length ≤ 1000) (hcl : L.length ≤ cl) (k : Int) (hk : I64 k) (vm : Value) (M : List Int) (hm : Ints h vm M) (hmn : M.length ≤ 1000) :
    Calls Try.prog 16 #[.slice al L.length cl, .int .i64 k, vm] w (DefsR h w) := by
  have HI := Lib.hid hi
  have HL := Lib.hid hl
  have HM := Lib.hid hm
  have HK := Lib.hid hk
  obtain ⟨am, cm, rfl, hmm, -⟩ := hm.open
  clear hi hl hm hk
  go_enter Try.func16, Try.ntmps16
  go_wp2_with fail
  have S0 := Lib.hid (((St.refl HI.out).alloc (Obj.cells #[.int .i64 0, .string ⟨#[]⟩, .slice none 0 0, .slice none 0 0] 25)).alloc (Obj.cells #[.int .i64 0, .string ⟨#[]⟩, .slice none 0 0, .slice none 0 0] 25))
  have P0 := Lib.hid ((Bx.new HI.out #[.int .i64 0, .string ⟨#[]⟩, .slice none 0 0, .slice none 0 0] 25).alloc (Obj.cells #[.int .i64 0, .string ⟨#[]⟩, .slice none 0 0, .slice none 0 0] 25))
  have Q0 := Lib.hid (Bx.new (HI.out.alloc (Obj.cells #[.int .i64 0, .string ⟨#[]⟩, .slice none 0 0, .slice none 0 0] 25)) #[.int .i64 0, .string ⟨#[]⟩, .slice none 0 0, .slice none 0 0] 25)
  refine (roll_any h _ S0.out.imm _ L HL.out (by omega)).mono ?_
  rintro e w1 ⟨g1, rfl, hg1, h1, S1, D1⟩
  have SA := Lib.hid (S0.out.call S1)
  have PA := Lib.hid (P0.out.below S1)
  have QA := Lib.hid (Q0.out.below S1)
  have D1 := Lib.hid D1
  have hg1' : w.heap.size + 2 ≤ g1 := by simpa using hg1
  clear hg1 S1
  go_wp2_with fail
  refine (def_any h1 _ SA.out.imm g1 L 0 D1.out).mono ?_
  rintro e w2 ⟨v2, rfl, h2, t2, S2, T2, Z2⟩
  obtain ⟨al2, cl2, ak2, ck2, -, rfl, -, -, -, -, -, -⟩ := T2.open
  have SB := Lib.hid (SA.out.dst S2 (by omega))
  have PB := Lib.hid (PA.out.call S2 (by omega))
  have QB := Lib.hid (QA.out.call S2 (by simp; omega))
  have E2 := Lib.hid (enc_of T2)
  clear S2 T2
  have md := modP_bd k ((L.length : Int) + 1) (by omega)
  go_wp2_with fail
  refine (mod_any _ k ((L.length : Int) + 1) HK.out (by omega) (by omega)).mono ?_
  rintro e w3 ⟨rfl, rfl⟩
  generalize modP k ((L.length : Int) + 1) = r at *
  obtain ⟨j, rfl⟩ : ∃ j : Nat, r = (j : Int) := ⟨r.toNat, by omega⟩
  have hj : j ≤ L.length := by omega
  have hjc : j ≤ cl := by omega
  have u1 : (0 : Int) ≤ (j : Int) := by omega
  have u2 : (j : Int) ≤ (cl : Int) := by omega
  have I3 : Hid (Imm h2 ((w2.alloc (Obj.cells #[.int .i64 t2.kind, .string t2.text, .slice al2 t2.leads.length cl2, .slice ak2 t2.kids.length ck2] 25)).alloc (Obj.cells #[] 3))) := (SB.out.imm.alloc _).alloc _
  have O3' : (Ow ((w2.alloc (Obj.cells #[.int .i64 t2.kind, .string t2.text, .slice al2 t2.leads.length cl2, .slice ak2 t2.kids.length ck2] 25)).alloc (Obj.cells #[] 3)) h2 (w2.heap.size + 1) 3 1 (.slice (some ⟨w2.heap.size + 1, 0, none⟩) 0 0) 0 []) := by
    have := own_lit (B := w2.heap.size + 1) (SB.out.imm.alloc (Obj.cells #[.int .i64 t2.kind, .string t2.text, .slice al2 t2.leads.length cl2, .slice ak2 t2.kids.length ck2] 25)) (by simp) [] 0 1 3 (by simp [maxLen]) rfl
    simpa using this
  have O3 := Lib.hid O3'
  clear O3'
  have SL := Lib.hid ((HL.out.1.take j hj).mono SB.out.le)
  have SM := Lib.hid (HM.out.1.mono SB.out.le)
  have H1 : Hid (∀ u ∈ (L.map (Value.int .i64)).take (j * 1), u.oneCell' = true) := fun u hu => ints_one L u (List.mem_of_mem_take hu)
  have H2 := Lib.hid (ints_one M)
  have S3 := Lib.hid (St.refl' (B := w2.heap.size + 1) I3.out (by simp))
  go_wp2_with (at_builtin; first | (refine wpList_appS el_ints rfl (.tmp 13) (.tmp 20) rfl S3.out (.slice (some ⟨w2.heap.size + 1, 0, none⟩) 0 0) 0 [] rfl O3.out (.slice al j cl) j ((L.map (Value.int .i64)).take (j * 1)) rfl SL.out H1.out (by omega) ?_; intro v4 w4 st4 own4 gr4 bk4; rw [Nat.zero_add, List.nil_append] at own4; obtain ⟨a4, c4, rfl⟩ := own4.shape; have S4 := Lib.hid st4; have O4 := Lib.hid own4; clear st4 own4 gr4 bk4) | (refine wpList_appS el_ints rfl (.tmp 21) (.tmp 22) rfl S4.out (.slice a4 j c4) j _ rfl O4.out (.slice am M.length cm) M.length (M.map (Value.int .i64)) rfl SM.out H2.out (by omega) ?_; intro v5 w5 st5 own5 gr5 bk5; obtain ⟨a5, c5, rfl⟩ := own5.shape; have S5 := Lib.hid st5; have O5 := Lib.hid own5; clear st5 own5 gr5 bk5))
  obtain ⟨h5, SM5, IN5⟩ := defs_mid S5.out O5.out hj HL.out.2 HM.out.2 hn hmn
  have SC := Lib.hid (((SB.out.alloc _).alloc _).comp SM5 (by have := SB.out.below.size; omega))
  have PC := Lib.hid (((PB.out.alloc _).alloc _).upto SM5 (by have := PB.out.has.lt; omega))
  have QC' := ((QB.out.alloc (Obj.cells #[.int .i64 t2.kind, .string t2.text, .slice al2 t2.leads.length cl2, .slice ak2 t2.kids.length ck2] 25)).alloc (Obj.cells #[] 3)).upto SM5 (by have := QB.out.has.lt; omega)
  have e7 : (w.alloc (Obj.cells #[.int .i64 0, .string ⟨#[]⟩, .slice none 0 0, .slice none 0 0] 25)).heap.size = w.heap.size + 1 := by simp
  rw [e7] at QC'
  have QC := Lib.hid QC'
  have RC := Lib.hid (((Bx.new SB.out.imm #[.int .i64 t2.kind, .string t2.text, .slice al2 t2.leads.length cl2, .slice ak2 t2.kids.length ck2] 25).alloc (Obj.cells #[] 3)).upto SM5 (by omega))
  have EC := Lib.hid (E2.out.mono SM5.le)
  have IN5 := Lib.hid IN5
  have hz2 : w.heap.size + 1 < w2.heap.size := by have := QB.out.has.lt; rw [e7] at this; exact this
  have hz5 : w2.heap.size < w5.heap.size := RC.out.has.lt
  have hz5' : w.heap.size < w5.heap.size := PC.out.has.lt
  have hz5'' : w.heap.size + 1 < w5.heap.size := QC.out.has.lt
  have n1 : w2.heap.size ≠ w.heap.size := by omega
  have n2 : w2.heap.size ≠ w.heap.size + 1 := by omega
  have n3 : w.heap.size ≠ w2.heap.size := by omega
  have n4 : w.heap.size + 1 ≠ w2.heap.size := by omega
  have ⟨⟨c0, c1, c2, c3⟩, f0, f1, f2, f3⟩ := RC.out.four
  clear SM5 QC' e7
  go_wp2_with fail
  go_region_held3 (fun w' => w'.cell? ⟨w2.heap.size, 0, none⟩ = some (.int .i64 t2.kind) ∧ w'.cell? ⟨w2.heap.size, 1, none⟩ = some (.string t2.text) ∧ w'.cell? ⟨w2.heap.size, 2, none⟩ = some (.slice al2 t2.leads.length cl2) ∧ w'.cell? ⟨w2.heap.size, 3, none⟩ = some (.slice ak2 t2.kids.length ck2)) (first | go_keep | exact ⟨x0, x1, x2, x3⟩ | exact ⟨y0, y1, y2, y3⟩) (first | (go_at_call 21; refine (roll_any h5 _ (by exact SC.out.imm.drew) _ _ IN5.out (by simp; omega)).mono ?_; rintro e w6 ⟨g6, rfl, hg6, h6, S6, D6⟩; have SD := Lib.hid (SC.out.drew.call S6); have PD := Lib.hid (PC.out.drew.below S6); have QD := Lib.hid (QC.out.drew.below S6); have RD := Lib.hid (RC.out.drew.below S6); have ED := Lib.hid (EC.out.mono S6.le); have D6 := Lib.hid D6; have hg6' : w5.heap.size ≤ g6 := hg6; have ⟨⟨x0, x1, x2, x3⟩, z0, z1, z2, z3⟩ := RD.out.four; clear S6 hg6) | (go_at_call 20; refine (def_any h6 _ (by exact SD.out.imm) g6 _ 0 (by exact D6.out)).mono ?_; rintro e w7 ⟨v7, rfl, h7, t7, S7, T7, Z7⟩; obtain ⟨al7, cl7, ak7, ck7, -, rfl, -, -, -, -, -, -⟩ := T7.open; have SE := Lib.hid (SD.out.dst S7 (by omega)); have PE := Lib.hid (PD.out.call S7 (by omega)); have QE := Lib.hid (QD.out.call S7 (by omega)); have RE := Lib.hid (RD.out.call S7 (by omega)); have EE := Lib.hid (ED.out.mono S7.le); have E7 := Lib.hid (enc_of T7); have hy0 : w.heap.size < w7.heap.size := PE.out.has.lt; have hy1 : w.heap.size + 1 < w7.heap.size := QE.out.has.lt; have hy2 : w2.heap.size < w7.heap.size := RE.out.has.lt; have ⟨⟨y0, y1, y2, y3⟩, r0, r1, r2, r3⟩ := RE.out.four; have ⟨⟨p0, p1, p2, p3⟩, o0, o1, o2, o3⟩ := PE.out.four; have ⟨⟨q0, q1, q2, q3⟩, m0, m1, m2, m3⟩ := QE.out.four; clear S7 T7))
  all_goals
    go_wp2_with fail
    refine bodyPost_ret (v := .tuple #[.agg #[.int .i64 t2.kind, .string t2.text, .slice al2 t2.leads.length cl2, .slice ak2 t2.kids.length ck2], .agg #[.int .i64 t7.kind, .string t7.text, .slice al7 t7.leads.length cl7, .slice ak7 t7.kids.length ck7]]) (by simp [results, Try.results16, go_sem, p0, p1, p2, p3, q0, q1, q2, q3]) rfl ?_
    have n5 : h7 w.heap.size = none := PE.out.no
    have n6 : h7 (w.heap.size + 1) = none := QE.out.no
    refine ⟨_, _, rfl, h7, t2, t7, ?_, ⟨_, rfl, EE.out⟩, ⟨_, rfl, E7.out⟩, Z2, Z7⟩
    first
      | exact (SE.out.set4 (Nat.le_refl _) n5 _ _ _ _).set4 (by omega) n6 _ _ _ _
      | exact (SE.out.set4 (by omega) n6 _ _ _ _).set4 (Nat.le_refl _) n5 _ _ _ _
end Go.Proofs.Ytfifbadepebpeaa

/- The walk of MatchingSelf. -/
namespace Go.Proofs.Ytfifbadepebpeaa
open Go.RowKit

end Go.Proofs.Ytfifbadepebpeaa
