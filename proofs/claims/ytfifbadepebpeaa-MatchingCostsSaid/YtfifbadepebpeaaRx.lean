/- The reference's Cost. -/
import Derived.Test.YtfifbadepebpeaaRu
namespace Go.Proofs.Ytfifbadepebpeaa
open Go.RowKit

set_option maxRecDepth 100000 in
set_option maxHeartbeats 4000000 in
theorem rCost_any (h : Hp) (w : World) (hi : Imm h w) (va vb vp : Value) (a b : Tree) (ps : List (Int × Int)) (ha : TreeV h va a) (hb : TreeV h vb b) (sa : a.size ≤ 262144) (sb : b.size ≤ 262144) (hp : Prs h vp ps) :
    Calls Try.prog 25 #[va, vb, vp] w (PriceRes w (priceP (flatP a) (flatP b) ps)) := by
  have TA := Lib.hid ha
  have TB := Lib.hid hb
  have HP := Lib.hid hp
  have HI := Lib.hid hi
  obtain ⟨al1, cl1, ak1, ck1, -, rfl, -, -, -, -, -, -⟩ := ha.open
  obtain ⟨al2, cl2, ak2, ck2, -, rfl, -, -, -, -, -, -⟩ := hb.open
  have PX := Lib.hid (flatP_po a)
  have PY := Lib.hid (flatP_po b)
  have SX : Hid ((flatP a).length ≤ 262144) := by unfold Hid; rw [flatP_length]; exact sa
  have SY : Hid ((flatP b).length ≤ 262144) := by unfold Hid; rw [flatP_length]; exact sb
  clear hi ha hb hp
  go_enter Try.func25, Try.ntmps25
  go_wp2_with fail
  have S0 := Lib.hid (((St.refl HI.out).alloc (Obj.cells #[.int .i64 a.kind, .string a.text, .slice al1 a.leads.length cl1, .slice ak1 a.kids.length ck1] 25)).alloc (Obj.cells #[.int .i64 b.kind, .string b.text, .slice al2 b.leads.length cl2, .slice ak2 b.kids.length ck2] 25))
  have X0 := Lib.hid ((Has.new w #[.int .i64 a.kind, .string a.text, .slice al1 a.leads.length cl1, .slice ak1 a.kids.length ck1] 25).alloc (Obj.cells #[.int .i64 b.kind, .string b.text, .slice al2 b.leads.length cl2, .slice ak2 b.kids.length ck2] 25))
  have Y0 := Lib.hid (Has.new1 w (Obj.cells #[.int .i64 a.kind, .string a.text, .slice al1 a.leads.length cl1, .slice ak1 a.kids.length ck1] 25) #[.int .i64 b.kind, .string b.text, .slice al2 b.leads.length cl2, .slice ak2 b.kids.length ck2] 25)
  generalize hw2 : ((w.alloc (Obj.cells #[.int .i64 a.kind, .string a.text, .slice al1 a.leads.length cl1, .slice ak1 a.kids.length ck1] 25)).alloc (Obj.cells #[.int .i64 b.kind, .string b.text, .slice al2 b.leads.length cl2, .slice ak2 b.kids.length ck2] 25)) = w2 at *
  have HW2 := Lib.hid hw2
  clear hw2
  have c0 : w2.cell? ⟨w.heap.size, 0, none⟩ = some (.int .i64 a.kind) := X0.out.cl 0
  have c1 : w2.cell? ⟨w.heap.size, 1, none⟩ = some (.string a.text) := X0.out.cl 1
  have c2 : w2.cell? ⟨w.heap.size, 2, none⟩ = some (.slice al1 a.leads.length cl1) := X0.out.cl 2
  have c3 : w2.cell? ⟨w.heap.size, 3, none⟩ = some (.slice ak1 a.kids.length ck1) := X0.out.cl 3
  have d0 : w2.cell? ⟨w.heap.size + 1, 0, none⟩ = some (.int .i64 b.kind) := Y0.out.cl 0
  have d1 : w2.cell? ⟨w.heap.size + 1, 1, none⟩ = some (.string b.text) := Y0.out.cl 1
  have d2 : w2.cell? ⟨w.heap.size + 1, 2, none⟩ = some (.slice al2 b.leads.length cl2) := Y0.out.cl 2
  have d3 : w2.cell? ⟨w.heap.size + 1, 3, none⟩ = some (.slice ak2 b.kids.length ck2) := Y0.out.cl 3
  have J0 : Hid (Imm h w2.drew) := S0.out.imm.drew
  go_wp2_with fail
  go_region_held3 (fun w' => w'.cell? ⟨w.heap.size, 0, none⟩ = some (.int .i64 a.kind) ∧ w'.cell? ⟨w.heap.size, 1, none⟩ = some (.string a.text) ∧ w'.cell? ⟨w.heap.size, 2, none⟩ = some (.slice al1 a.leads.length cl1) ∧ w'.cell? ⟨w.heap.size, 3, none⟩ = some (.slice ak1 a.kids.length ck1) ∧ w'.cell? ⟨w.heap.size + 1, 0, none⟩ = some (.int .i64 b.kind) ∧ w'.cell? ⟨w.heap.size + 1, 1, none⟩ = some (.string b.text) ∧ w'.cell? ⟨w.heap.size + 1, 2, none⟩ = some (.slice al2 b.leads.length cl2) ∧ w'.cell? ⟨w.heap.size + 1, 3, none⟩ = some (.slice ak2 b.kids.length ck2)) (first | go_keep | with_reducible exact ⟨m0, m1, m2, m3, m4, m5, m6, m7⟩ | with_reducible exact ⟨n0, n1, n2, n3, n4, n5, n6, n7⟩ | with_reducible exact ⟨o0, o1, o2, o3, o4, o5, o6, o7⟩) (first | (go_at_call 34; (with_reducible refine (number_any h _ J0.out _ a TA.out sa).mono ?_); rintro e w3 ⟨v3, rfl, h3, S3, N3⟩; have SA := Lib.hid (S0.out.drew.call S3); have X1 := Lib.hid (X0.out.drew.below S3.below); have Y1 := Lib.hid (Y0.out.drew.below S3.below); have NA := Lib.hid N3; have TB1 := Lib.hid (TB.out.mono S3.le); have J1 := Lib.hid SA.out.imm; have m0 : w3.cell? ⟨w.heap.size, 0, none⟩ = some (.int .i64 a.kind) := X1.out.cl 0; have m1 : w3.cell? ⟨w.heap.size, 1, none⟩ = some (.string a.text) := X1.out.cl 1; have m2 : w3.cell? ⟨w.heap.size, 2, none⟩ = some (.slice al1 a.leads.length cl1) := X1.out.cl 2; have m3 : w3.cell? ⟨w.heap.size, 3, none⟩ = some (.slice ak1 a.kids.length ck1) := X1.out.cl 3; have m4 : w3.cell? ⟨w.heap.size + 1, 0, none⟩ = some (.int .i64 b.kind) := Y1.out.cl 0; have m5 : w3.cell? ⟨w.heap.size + 1, 1, none⟩ = some (.string b.text) := Y1.out.cl 1; have m6 : w3.cell? ⟨w.heap.size + 1, 2, none⟩ = some (.slice al2 b.leads.length cl2) := Y1.out.cl 2; have m7 : w3.cell? ⟨w.heap.size + 1, 3, none⟩ = some (.slice ak2 b.kids.length ck2) := Y1.out.cl 3; clear S3 N3) | (go_at_call 34; (with_reducible refine (number_any h3 _ J1.out _ b TB1.out sb).mono ?_); rintro e w4 ⟨v4, rfl, h4, S4, N4⟩; have SB := Lib.hid (SA.out.call S4); have X2 := Lib.hid (X1.out.below S4.below); have Y2 := Lib.hid (Y1.out.below S4.below); have NB := Lib.hid N4; have NA1 := Lib.hid (NA.out.mono S4.le); have HP1 := Lib.hid (HP.out.mono SB.out.le); have J2 := Lib.hid SB.out.imm; have n0 : w4.cell? ⟨w.heap.size, 0, none⟩ = some (.int .i64 a.kind) := X2.out.cl 0; have n1 : w4.cell? ⟨w.heap.size, 1, none⟩ = some (.string a.text) := X2.out.cl 1; have n2 : w4.cell? ⟨w.heap.size, 2, none⟩ = some (.slice al1 a.leads.length cl1) := X2.out.cl 2; have n3 : w4.cell? ⟨w.heap.size, 3, none⟩ = some (.slice ak1 a.kids.length ck1) := X2.out.cl 3; have n4 : w4.cell? ⟨w.heap.size + 1, 0, none⟩ = some (.int .i64 b.kind) := Y2.out.cl 0; have n5 : w4.cell? ⟨w.heap.size + 1, 1, none⟩ = some (.string b.text) := Y2.out.cl 1; have n6 : w4.cell? ⟨w.heap.size + 1, 2, none⟩ = some (.slice al2 b.leads.length cl2) := Y2.out.cl 2; have n7 : w4.cell? ⟨w.heap.size + 1, 3, none⟩ = some (.slice ak2 b.kids.length ck2) := Y2.out.cl 3; clear S4 N4) | (go_at_call 37; (with_reducible refine (rcost_any h4 _ J2.out _ _ _ (flatP a) (flatP b) ps NA1.out NB.out PX.out PY.out SX.out SY.out HP1.out).mono ?_); rintro e w5 ⟨rfl, hb5⟩; have SC := Lib.hid (SB.out.same hb5); have X3 := Lib.hid (X2.out.below hb5); have Y3 := Lib.hid (Y2.out.below hb5); have o0 : w5.cell? ⟨w.heap.size, 0, none⟩ = some (.int .i64 a.kind) := X3.out.cl 0; have o1 : w5.cell? ⟨w.heap.size, 1, none⟩ = some (.string a.text) := X3.out.cl 1; have o2 : w5.cell? ⟨w.heap.size, 2, none⟩ = some (.slice al1 a.leads.length cl1) := X3.out.cl 2; have o3 : w5.cell? ⟨w.heap.size, 3, none⟩ = some (.slice ak1 a.kids.length ck1) := X3.out.cl 3; have o4 : w5.cell? ⟨w.heap.size + 1, 0, none⟩ = some (.int .i64 b.kind) := Y3.out.cl 0; have o5 : w5.cell? ⟨w.heap.size + 1, 1, none⟩ = some (.string b.text) := Y3.out.cl 1; have o6 : w5.cell? ⟨w.heap.size + 1, 2, none⟩ = some (.slice al2 b.leads.length cl2) := Y3.out.cl 2; have o7 : w5.cell? ⟨w.heap.size + 1, 3, none⟩ = some (.slice ak2 b.kids.length ck2) := Y3.out.cl 3; clear hb5))
  all_goals
    go_wp2_with fail
    go_ret2
    exact ⟨rfl, SC.out.below⟩
end Go.Proofs.Ytfifbadepebpeaa
