/- Expr at every depth; Def. -/
import Derived.Test.YtfifbadepebpeaaDi
import Derived.Test.YtfifbadepebpeaaDf
import Derived.Deep.DrawnRows
import Derived.Deep.AppendLies
import Derived.Deep.RegionLaw
namespace Go.Proofs.Ytfifbadepebpeaa
open Go.RowKit
attribute [local go_sem ↓] Go.wp_at_zero Go.wp_at_succ

theorem TRes.mono {g : Nat} {L : List Int} {h : Hp} {w : World} {P Q : Tree → Prop} (hPQ : ∀ t, P t → Q t) {e : Ending} {w' : World} (r : TRes g L h w P e w') : TRes g L h w Q e w' := by
  obtain ⟨v, e1, h', t, a, b, c⟩ := r
  exact ⟨v, e1, h', t, a, b, hPQ t c⟩
def exprB : Nat → Nat
  | 0 => 1
  | m + 1 => 3 * exprB m + 6
theorem expr_any : ∀ (m : Nat), m ≤ 100 → ExprC m (exprB m)
  | 0, _ => exprC0
  | m + 1, hm => by
    have ih := expr_any m (by omega)
    intro h w hi g L n d
    have bd := nextP_bd L n 14 (by omega)
    have hr : nextP L n 14 = 0 ∨ nextP L n 14 = 1 ∨ nextP L n 14 = 2 ∨ nextP L n 14 = 3 ∨ nextP L n 14 = 4 ∨ nextP L n 14 = 5 ∨ nextP L n 14 = 6 ∨ nextP L n 14 = 7 ∨ nextP L n 14 = 8 ∨ nextP L n 14 = 9 ∨ nextP L n 14 = 10 ∨ nextP L n 14 = 11 ∨ nextP L n 14 = 12 ∨ nextP L n 14 = 13 := by omega
    rcases hr with hr | hr | hr | hr | hr | hr | hr | hr | hr | hr | hr | hr | hr | hr
    · exact (exprS0 m (by omega) h w hi g L n d hr).mono fun _ _ q => q.mono fun t ht => Nat.le_trans ht (by rw [exprB]; omega)
    · exact (exprS1 m (by omega) h w hi g L n d hr).mono fun _ _ q => q.mono fun t ht => Nat.le_trans ht (by rw [exprB]; omega)
    · exact (exprS2 m (by omega) h w hi g L n d hr).mono fun _ _ q => q.mono fun t ht => Nat.le_trans ht (by rw [exprB]; omega)
    · exact (exprS3 m (by omega) h w hi g L n d hr).mono fun _ _ q => q.mono fun t ht => Nat.le_trans ht (by rw [exprB]; omega)
    · exact (exprS4 m (by omega) h w hi g L n d hr).mono fun _ _ q => q.mono fun t ht => Nat.le_trans ht (by rw [exprB]; omega)
    · exact (exprS5 m (by omega) h w hi g L n d hr).mono fun _ _ q => q.mono fun t ht => Nat.le_trans ht (by rw [exprB]; omega)
    · exact exprS6 m (exprB m) (by omega) ih h w hi g L n d hr
    · exact exprS7 m (exprB m) (by omega) ih h w hi g L n d hr
    · exact exprS8 m (exprB m) (by omega) ih h w hi g L n d hr
    · exact exprS9 m (exprB m) (by omega) ih h w hi g L n d hr
    · exact exprS10 m (exprB m) (by omega) ih h w hi g L n d hr
    · exact exprS11 m (exprB m) (by omega) ih h w hi g L n d hr
    · exact exprS12 m (exprB m) (by omega) ih h w hi g L n d hr
    · exact exprS13 m (exprB m) (by omega) ih h w hi g L n d hr

theorem par_enc {h : Hp} {w : World} {t : Tree} {a b c d : Value} (hi : Imm h w) (e : EncTree h t [a, b, c, d]) (s : ByteArray) :
    EncL (EncTree (h.add w.heap.size ([a, b, c, d] : List Value).toArray)) [.node 4 s [] [t]] [.int .i64 4, .string s, .slice none 0 0, .slice (some ⟨w.heap.size, 0, none⟩) 1 1] :=
  EncL.one (enc_of (kids_tree (add_self _ _ _) (EncL.one (e.mono (Hp.le_add _ hi.size_none))) 1 rfl (by simp) _ (by unfold I64; omega) _))
theorem par_sz {ts : List Tree} {t : Tree} (h : sizes ts ≤ ts.length * 3) (ht : t.size ≤ 1 + 1) (s : ByteArray) : sizes (ts ++ [.node 4 s [] [t]]) ≤ (ts ++ [Tree.node 4 s [] [t]]).length * 3 := by
  rw [sizes_app, List.length_append, Nat.add_mul]
  simp only [sizes, Tree.size, List.length_cons, List.length_nil]
  omega

set_option maxRecDepth 100000 in
set_option maxHeartbeats 4000000 in
theorem defZ (h : Hp) (w : World) (hi : Imm h w) (g : Nat) (L : List Int) (n : Nat) (d : Dic h w g L n) (hr : nextP L n 5 = 0) :
    Calls Try.prog 20 #[.pointer (some ⟨g, 0, none⟩)] w (TRes g L h w fun t => t.size ≤ 120 ∧ (t.kind = 2 ∨ t.kind = 3)) := by
  have HI := Lib.hid hi
  have D := Lib.hid d
  have HR := Lib.hid hr
  have hgl := d.lt
  clear hi d hr
  go_enter Try.func20, Try.ntmps20
  go_wp2_with fail
  have B0 := Lib.hid (Bx.new HI.out #[.int .i64 0, .string ⟨#[]⟩, .slice none 0 0, .slice none 0 0] 25)
  have S0 := Lib.hid ((DSt.refl HI.out D.out).alloc (Obj.cells #[.int .i64 0, .string ⟨#[]⟩, .slice none 0 0, .slice none 0 0] 25))
  refine (next_any h _ S0.out.imm g L n (D.out.alloc _) 5 (by omega) (by omega)).mono ?_
  rintro e w1 ⟨rfl, S1⟩
  rw [HR.out]
  have B1 := Lib.hid (B0.out.call S1 (by omega))
  have SN1 := Lib.hid (S0.out.call S1)
  obtain ⟨n1, D1⟩ := SN1.out.dic
  have D1 := Lib.hid D1
  have hz1 : w.heap.size < w1.heap.size := B1.out.has.lt
  clear S1
  go_wp2_with fail
  refine (pick_any h _ (SN1.out.imm.alloc _) g L n1 (D1.out.alloc _) w1.heap.size 2 2 #[.string ⟨#[84]⟩, .string ⟨#[85]⟩] (Has.new w1 _ _) (by omega) (by omega) (by omega) (fun i hi => strs_ok [.string ⟨#[84]⟩, .string ⟨#[85]⟩] rfl i hi)).mono ?_
  rintro e w2 ⟨s2, rfl, S2⟩
  have B2 := Lib.hid ((B1.out.alloc _).call S2 (by omega))
  have SN2 := Lib.hid ((SN1.out.alloc _).call S2)
  obtain ⟨n2, D2⟩ := SN2.out.dic
  have D2 := Lib.hid D2
  have hz2 : w.heap.size < w2.heap.size := B2.out.has.lt
  clear S2
  go_wp2_with fail
  refine (typ_any 2 h _ SN2.out.imm g L n2 D2.out (by omega)).mono ?_
  rintro e w3 ⟨v3, rfl, h3, t3, S3, T3, Z3⟩
  obtain ⟨al3, cl3, ak3, ck3, -, rfl, -, -, -, -, -, -⟩ := T3.open
  have B3 := Lib.hid (B2.out.call S3 (by omega))
  have SN3 := Lib.hid (SN2.out.call S3)
  obtain ⟨n3, D3⟩ := SN3.out.dic
  have D3 := Lib.hid D3
  have E3 := Lib.hid (enc_of T3)
  have hz3 : w.heap.size < w3.heap.size := B3.out.has.lt
  clear S3 T3
  have ⟨⟨k0, k1, k2, k3⟩, z0, z1, z2, z3⟩ := B3.out.four
  have hy : w.heap.size < w3.heap.size + 1 := by omega
  go_wp2_with fail
  refine bodyPost_ret (v := .agg #[.int .i64 3, .string s2, .slice none 0 0, .slice (some ⟨w3.heap.size, 0, none⟩) 1 1]) (by simp [results, Try.results20, go_sem, k0, k1, k2, k3, hz3]) rfl ?_
  have SL := (SN3.out.set4 (Nat.le_refl _) B3.out.no (.int .i64 3) (.string s2) (.slice none 0 0) (.slice (some ⟨w3.heap.size, 0, none⟩) 1 1)).lay [.int .i64 t3.kind, .string t3.text, .slice al3 t3.leads.length cl3, .slice ak3 t3.kids.length ck3] 25 w3.heap.size (by simp [World.setCell])
  have hle : h3.le (h3.add w3.heap.size ([.int .i64 t3.kind, .string t3.text, .slice al3 t3.leads.length cl3, .slice ak3 t3.kids.length ck3] : List Value).toArray) := Hp.le_add _ SN3.out.imm.size_none
  exact ⟨_, rfl, _, .node 3 s2 [] [t3], SL, kids_tree (add_self _ _ _) (EncL.one (E3.out.mono hle)) 1 rfl (by simp) _ (by unfold I64; omega) _, ⟨by simp only [Tree.size, sizes]; omega, .inr rfl⟩⟩

set_option maxRecDepth 100000 in
set_option maxHeartbeats 4000000 in
theorem defS (h : Hp) (w : World) (hi : Imm h w) (g : Nat) (L : List Int) (n : Nat) (d : Dic h w g L n) (hr : nextP L n 5 ≠ 0) :
    Calls Try.prog 20 #[.pointer (some ⟨g, 0, none⟩)] w (TRes g L h w fun t => t.size ≤ 120 ∧ (t.kind = 2 ∨ t.kind = 3)) := by
  have HI := Lib.hid hi
  have D := Lib.hid d
  have HR := Lib.hid hr
  have hgl := d.lt
  clear hi d hr
  go_enter Try.func20, Try.ntmps20
  go_wp2_with fail
  have B0 := Lib.hid (Bx.new HI.out #[.int .i64 0, .string ⟨#[]⟩, .slice none 0 0, .slice none 0 0] 25)
  have S0 := Lib.hid ((DSt.refl HI.out D.out).alloc (Obj.cells #[.int .i64 0, .string ⟨#[]⟩, .slice none 0 0, .slice none 0 0] 25))
  refine (next_any h _ S0.out.imm g L n (D.out.alloc _) 5 (by omega) (by omega)).mono ?_
  rintro e w1 ⟨rfl, S1⟩
  have hr1 : (nextP L n 5 == 0) = false := ibeqF HR.out
  have B1 := Lib.hid (B0.out.call S1 (by omega))
  have SN1 := Lib.hid (S0.out.call S1)
  obtain ⟨n1, D1⟩ := SN1.out.dic
  have D1 := Lib.hid D1
  have hz1 : w.heap.size < w1.heap.size := B1.out.has.lt
  clear S1
  go_wp2_with fail
  refine (pick_any h _ (SN1.out.imm.alloc _) g L n1 (D1.out.alloc _) w1.heap.size 3 3 #[.string ⟨#[102]⟩, .string ⟨#[103]⟩, .string ⟨#[104]⟩] (Has.new w1 _ _) (by omega) (by omega) (by omega) (fun i hi => strs_ok [.string ⟨#[102]⟩, .string ⟨#[103]⟩, .string ⟨#[104]⟩] rfl i hi)).mono ?_
  rintro e w2 ⟨s2, rfl, S2⟩
  have B2 := Lib.hid ((B1.out.alloc _).call S2 (by omega))
  have SN2 := Lib.hid ((SN1.out.alloc _).call S2)
  obtain ⟨n2, D2⟩ := SN2.out.dic
  have D2 := Lib.hid D2
  have hz2 : w.heap.size < w2.heap.size := B2.out.has.lt
  clear S2
  go_wp2_with fail
  have K2 := Lib.hid (KL.start SN2.out B2.out 2 s2)
  refine (next_any h _ (SN2.out.imm.alloc _) g L n2 (D2.out.alloc _) 4 (by omega) (by omega)).mono ?_
  rintro e w3 ⟨rfl, S3⟩
  have bd3 := nextP_bd L n2 4 (by omega)
  generalize nextP L n2 4 = rr at *
  have K3 := Lib.hid (K2.out.call S3)
  clear S3
  clear K2
  generalize hbb : w2.heap.size = bb at *
  have HBB := Lib.hid hbb
  clear hbb
  obtain ⟨jj, rfl⟩ : ∃ jj : Nat, rr = (jj : Int) := ⟨rr.toNat, by omega⟩
  have hjj : jj ≤ 3 := by omega
  go_wp2_with fail
  go_loopw [4, 21, 22, 23, 24, 25, 26, 27, 28, 29, 30, 31, 32, 33, 34, 35, 36] (fun kk _ _ _ _ _ _ _ _ _ _ _ _ _ _ _ _ wr => ∃ (j : Nat) (ts : List Tree) (hj : Hp) (v : Value) (vs : List Value), kk = .int .i64 j ∧ j + ts.length ≤ 3 ∧ sizes ts ≤ ts.length * 3 ∧ KL g L h w bb 2 s2 #[.int .i64 0, .string ⟨#[]⟩, .slice none 0 0, .slice none 0 0] ts hj v vs wr) (fun kk _ _ _ _ _ _ _ _ _ _ _ _ _ _ _ _ _ => (intOf kk).toNat)
  case atStart => exact ⟨jj, [], _, _, _, rfl, by simp; omega, by simp [sizes], K3.out⟩
  case round =>
    obtain ⟨j, ts, hj, v, vs, rfl, hjl, hsz, K⟩ := hrel
    obtain ⟨av, cv, rfl⟩ := K.own.shape
    have K' := Lib.hid K
    have hzr : w.heap.size < wr.heap.size := K.rb.has.lt
    have hbr : bb < wr.heap.size := K.bx.has.lt
    have ⟨⟨c0, c1, c2, c3⟩, f0, f1, f2, f3⟩ := K.bx.four
    have ⟨⟨k0, k1, k2, k3⟩, z0, z1, z2, z3⟩ := K.rb.four
    have hlo := K.lo
    obtain ⟨nr, DR⟩ := K.st.dic
    have DR := Lib.hid DR
    have HSZ := Lib.hid hsz
    clear K hsz
    by_cases hlt : 0 < j
    · have g1 : decide (0 < j) = true := by simpa using hlt
      have hbr' : bb < wr.heap.size + 1 := by omega
      go_wp2_with fail
      go_region_law (first | (go_simp; go_at_call 46; refine (pick_any hj _ (by exact (K'.out.st.imm.alloc _).drew) g L nr (by exact (DR.out.alloc _).drew) wr.heap.size 3 3 #[.string ⟨#[120]⟩, .string ⟨#[121]⟩, .string ⟨#[122]⟩] (by exact (Has.new wr _ _).drew) (by have := K'.out.st.lt; omega) (by omega) (by omega) (fun i hi => strs_ok [.string ⟨#[120]⟩, .string ⟨#[121]⟩, .string ⟨#[122]⟩] rfl i hi)).mono ?_; rintro e w5 ⟨s5, rfl, S5⟩; have SB := Lib.hid ((((DSt.refl K'.out.st.imm DR.out).alloc _).drew).call S5); obtain ⟨n5, D5⟩ := SB.out.dic; have D5 := Lib.hid D5; have hb5 : bb < w5.heap.size := (K'.out.bx2 SB.out).has.lt; have ⟨⟨p0, p1, p2, p3⟩, r0, r1, r2, r3⟩ := (K'.out.bx2 SB.out).four; clear S5) | (go_simp; go_at_call 47; refine (typ_any 1 hj _ (by exact SB.out.imm) g L n5 (by exact D5.out) (by omega)).mono ?_; rintro e w6 ⟨v6, rfl, h6, t6, S6, T6, Z6⟩; obtain ⟨al6, cl6, ak6, ck6, -, rfl, -, -, -, -, -, -⟩ := T6.open; have SC := Lib.hid (SB.out.call S6); have E6 := Lib.hid (enc_of T6); have hb6 : bb < w6.heap.size := (K'.out.bx2 SC.out).has.lt; have hb6' : bb < w6.heap.size + 1 := (by omega); have hb6'' : bb < w6.heap.size + 1 + 1 := (by omega); have ⟨⟨x0, x1, x2, x3⟩, q0, q1, q2, q3⟩ := (K'.out.bx2 SC.out).four; clear S6 T6) | (refine step_app el_trees (by rfl) _ _ (by rfl) (St.refl' (B := w.heap.size) (by exact ((SC.out.lay [.int .i64 t6.kind, .string t6.text, .slice al6 t6.leads.length cl6, .slice ak6 t6.kids.length ck6] 25 w6.heap.size rfl).alloc (Obj.cells #[.int .i64 4, .string s5, .slice none 0 0, .slice (some ⟨w6.heap.size, 0, none⟩) 1 1] 25)).imm) (by simp; omega)) _ ts.length vs (by rfl) (K'.out.own2 ((SC.out.lay [.int .i64 t6.kind, .string t6.text, .slice al6 t6.leads.length cl6, .slice ak6 t6.kids.length ck6] 25 w6.heap.size rfl).alloc (Obj.cells #[.int .i64 4, .string s5, .slice none 0 0, .slice (some ⟨w6.heap.size, 0, none⟩) 1 1] 25))) ⟨w6.heap.size + 1, 0, none⟩ 1 1 [.int .i64 4, .string s5, .slice none 0 0, .slice (some ⟨w6.heap.size, 0, none⟩) 1 1] (by rfl) (by rfl) (new_cells _ _ _ _ (by simp)) (one_cells _ rfl) (by omega) (by omega) ?_; intro gg cg w7 st7 own7 gr7 bk7; have BX7 := (K'.out.bx2 ((SC.out.lay [.int .i64 t6.kind, .string t6.text, .slice al6 t6.leads.length cl6, .slice ak6 t6.kids.length ck6] 25 w6.heap.size rfl).alloc (Obj.cells #[.int .i64 4, .string s5, .slice none 0 0, .slice (some ⟨w6.heap.size, 0, none⟩) 1 1] 25))).grown gr7 K'.out.ne; have y3 : w7.cell? ⟨bb, 3, none⟩ = some (.slice av ts.length cv) := BX7.has.cl 3; have yf : w7.frozen? ⟨bb, 3, none⟩ = false := BX7.has.fz 3; have KN := Lib.hid (K'.out.next ((SC.out.lay [.int .i64 t6.kind, .string t6.text, .slice al6 t6.leads.length cl6, .slice ak6 t6.kids.length ck6] 25 w6.heap.size rfl).alloc (Obj.cells #[.int .i64 4, .string s5, .slice none 0 0, .slice (some ⟨w6.heap.size, 0, none⟩) 1 1] 25)) own7 gr7 bk7 (tn := [.node 4 s5 [] [t6]]) (par_enc SC.out.imm E6.out s5) rfl); have KS := Lib.hid (par_sz HSZ.out Z6 s5); clear st7 own7 gr7 bk7 BX7))
      all_goals
        go_wp2_with fail
        go_roundw
        case rel => exact ⟨j - 1, ts ++ _, _, _, _, by rw [show ((j - 1 : Nat) : Int) = (j : Int) - 1 by omega], by simp; omega, KS.out, KN.out⟩
        case measure => simp [intOf]; omega
    · obtain rfl : j = 0 := by omega
      go_wp2_with fail
      go_region_law (first | (go_simp; go_at_call 47; refine (typ_any 1 hj _ (by exact K'.out.st.imm.drew) g L nr (by exact DR.out.drew) (by omega)).mono ?_; rintro e w6 ⟨v6, rfl, h6, t6, S6, T6, Z6⟩; obtain ⟨al6, cl6, ak6, ck6, -, rfl, -, -, -, -, -, -⟩ := T6.open; have SC := Lib.hid ((DSt.refl K'.out.st.imm DR.out).drew.call S6); obtain ⟨n6, D6⟩ := SC.out.dic; have D6 := Lib.hid D6; have E6 := Lib.hid (enc_of T6); have hb6 : bb < w6.heap.size := (K'.out.bx2 SC.out).has.lt; have ⟨⟨x0, x1, x2, x3⟩, q0, q1, q2, q3⟩ := (K'.out.bx2 SC.out).four; clear S6 T6) | (go_simp; go_at_call 48; refine (expr_any 3 (by omega) h6 _ (by exact SC.out.imm) g L n6 (by exact D6.out)).mono ?_; rintro e w7 ⟨v7, rfl, h7, t7, S7, T7, Z7⟩; obtain ⟨al7, cl7, ak7, ck7, -, rfl, -, -, -, -, -, -⟩ := T7.open; have SD := Lib.hid (SC.out.call S7); have E7 := Lib.hid (enc_of T7); have EE6 := Lib.hid (E6.out.mono S7.le); have hb7 : bb < w7.heap.size := (K'.out.bx2 SD.out).has.lt; have hb7' : bb < w7.heap.size + 1 := (by omega); have ⟨⟨u0, u1, u2, u3⟩, j0, j1, j2, j3⟩ := (K'.out.bx2 SD.out).four; clear S7 T7) | (refine step_app el_trees (by rfl) _ _ (by rfl) (St.refl' (B := w.heap.size) (by exact (SD.out.alloc (Obj.cells #[.int .i64 t6.kind, .string t6.text, .slice al6 t6.leads.length cl6, .slice ak6 t6.kids.length ck6, .int .i64 t7.kind, .string t7.text, .slice al7 t7.leads.length cl7, .slice ak7 t7.kids.length ck7] 25)).imm) (by simp; omega)) _ ts.length vs (by rfl) (K'.out.own2 (SD.out.alloc (Obj.cells #[.int .i64 t6.kind, .string t6.text, .slice al6 t6.leads.length cl6, .slice ak6 t6.kids.length ck6, .int .i64 t7.kind, .string t7.text, .slice al7 t7.leads.length cl7, .slice ak7 t7.kids.length ck7] 25))) ⟨w7.heap.size, 0, none⟩ 2 2 [.int .i64 t6.kind, .string t6.text, .slice al6 t6.leads.length cl6, .slice ak6 t6.kids.length ck6, .int .i64 t7.kind, .string t7.text, .slice al7 t7.leads.length cl7, .slice ak7 t7.kids.length ck7] (by rfl) (by rfl) (new_cells _ _ _ _ (by simp)) (one_cells _ rfl) (by omega) (by omega) ?_; intro gg cg w8 st8 own8 gr8 bk8; have BX8 := (K'.out.bx2 (SD.out.alloc (Obj.cells #[.int .i64 t6.kind, .string t6.text, .slice al6 t6.leads.length cl6, .slice ak6 t6.kids.length ck6, .int .i64 t7.kind, .string t7.text, .slice al7 t7.leads.length cl7, .slice ak7 t7.kids.length ck7] 25))).grown gr8 K'.out.ne; have y3 : w8.cell? ⟨bb, 3, none⟩ = some (.slice av ts.length cv) := BX8.has.cl 3; have yf : w8.frozen? ⟨bb, 3, none⟩ = false := BX8.has.fz 3; have KN := Lib.hid (K'.out.next (SD.out.alloc (Obj.cells #[.int .i64 t6.kind, .string t6.text, .slice al6 t6.leads.length cl6, .slice ak6 t6.kids.length ck6, .int .i64 t7.kind, .string t7.text, .slice al7 t7.leads.length cl7, .slice ak7 t7.kids.length ck7] 25)) own8 gr8 bk8 (tn := [t6, t7]) ((EncL.one EE6.out).append (EncL.one E7.out)) rfl); clear st8 own8 gr8 bk8 BX8))
      all_goals
        generalize hW9 : (w8.setCell ⟨bb, 3, none⟩ (.slice (some ⟨gg, 0, none⟩) (ts.length + 2) cg)) = w9 at *
        have HW9 := Lib.hid hW9
        clear hW9
        have ⟨⟨a0, a1, a2, a3⟩, b0, b1, b2, b3⟩ := KN.out.bx.four
        have ⟨⟨d0, d1, d2, d3⟩, o0, o1, o2, o3⟩ := KN.out.rb.four
        have hz9 : w.heap.size < w9.heap.size := KN.out.rb.has.lt
        have hb9 : bb < w9.heap.size := KN.out.bx.has.lt
        go_wp2_with fail
        have hlen : (ts ++ [t6, t7]).length = ts.length + 2 := by simp
        obtain ⟨h9, S9, T9⟩ := KN.out.fin (by unfold I64; omega) (by simp; omega) (.int .i64 2) (.string s2) (.slice none 0 0) (.slice (some ⟨gg, 0, none⟩) (ts.length + 2) cg)
        refine bodyPost_ret (v := .agg #[.int .i64 2, .string s2, .slice none 0 0, .slice (some ⟨gg, 0, none⟩) (ts.length + 2) cg]) (by simp [results, Try.results20, go_sem, d0, d1, d2, d3]) rfl ?_
        have hq := HSZ.out
        have hq2 : ts.length * 3 ≤ 3 * 3 := Nat.mul_le_mul_right _ (by omega)
        have hq3 : t7.size ≤ 105 := Z7
        exact ⟨_, rfl, h9, .node 2 s2 [] (ts ++ [t6, t7]), S9, T9, ⟨by simp only [Tree.size]; rw [sizes_app]; simp only [sizes]; omega, .inl rfl⟩⟩

theorem def_any (h : Hp) (w : World) (hi : Imm h w) (g : Nat) (L : List Int) (n : Nat) (d : Dic h w g L n) :
    Calls Try.prog 20 #[.pointer (some ⟨g, 0, none⟩)] w (TRes g L h w fun t => t.size ≤ 120 ∧ (t.kind = 2 ∨ t.kind = 3)) := by
  by_cases hr : nextP L n 5 = 0
  · exact defZ h w hi g L n d hr
  · exact defS h w hi g L n d hr
end Go.Proofs.Ytfifbadepebpeaa
