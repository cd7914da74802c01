/- MatchingVerifies: which certificates are accepted; where the arguments hold at most 1048576 values and letters. -/
import Derived.Test.YtfifbadepebpeaaXw
import Derived.Test.YtfifbadepebpeaaBd
namespace Go.Proofs.Ytfifbadepebpeaa.matchingVerifies
open Go.ChangeShapes Go.WideShapes Go.ChangeAt Go.RowKit

set_option maxRecDepth 100000 in
theorem contract (H : Type) (enc : TypeId × Value → H) (W : World) (base : Nat) (args : Array Value) (ds gs : List (DataW H)) (before : List MemPlace)
    (hval : ∀ (j : Nat) t v, Try.f5.params[j]? = some t → args[j]? = some v → Value.okWide Try.prog W .any base t v)
    (hW : DataW.Whole enc Try.prog Try.f5.params.toList Rows.matchingVerifiesSpec.vars false W args.toList ds gs before) (hk : Rows.uptoSmall H (ds ++ gs) = true) :
    Calls Try.prog 5 args W fun e W' => ∃ v, e = .returned v ∧ Rows.matchingVerifiesSpec.post enc Try.prog Try.f5 false true false false W args v W' := by
  have hW' := hW
  obtain ⟨p, q, hA0, hV, rfl, hfz, hnd⟩ := hW
  have hA : DataW.TrodAll enc Try.prog W 0 (fun _ => true) true Try.f5.params.toList args.toList ds p := hA0
  rw [Try.params5] at hA hval
  obtain ⟨v0, vs0, d0, ds0, p0, q0, hargs, rfl, rfl, h0, r0⟩ := trodAll_cons hA
  obtain ⟨v1, vs1, d1, ds1, p1, q1, rfl, rfl, rfl, h1, r1⟩ := trodAll_cons r0
  obtain ⟨v2, vs2, d2, ds2, p2, q2, rfl, rfl, rfl, h2, r2⟩ := trodAll_cons r1
  obtain ⟨v3, vs3, d3, ds3, p3, q3, rfl, rfl, rfl, h3, r3⟩ := trodAll_cons r2
  obtain ⟨v4, vs4, d4, ds4, p4, q4, rfl, rfl, rfl, h4, r4⟩ := trodAll_cons r3
  obtain ⟨v5, vs5, d5, ds5, p5, q5, rfl, rfl, rfl, h5, r5⟩ := trodAll_cons r4
  obtain ⟨rfl, rfl, rfl⟩ := trodAll_nil r5
  obtain rfl : args = #[v0, v1, v2, v3, v4, v5] := by cases args; simp_all
  obtain ⟨rfl, rfl⟩ := trodVars_none hV
  have hb : Rows.uptoBulkAll ([d0, d1, d2, d3, d4, d5] ++ []) ≤ 1048576 := of_decide_eq_true hk
  rw [List.append_nil, bulkAll_cons, bulkAll_cons, bulkAll_cons, bulkAll_cons, bulkAll_cons, bulkAll_cons] at hb
  obtain ⟨al, n, cl, rfl, hcl, hcm, hI⟩ := ints_any (hval 0 35 v0 rfl rfl) h0
  obtain ⟨k, rfl, ik⟩ := int_val (hval 1 3 v1 rfl rfl) h1
  obtain ⟨am, n2, cm, rfl, hcl2, hcm2, hI2⟩ := ints_any (hval 2 35 v2 rfl rfl) h2
  obtain ⟨m, tr⟩ := match_val (hval 3 32 v3 rfl rfl) h3 (by omega)
  obtain ⟨at_, rfl, iat⟩ := int_val (hval 4 3 v4 rfl rfl) h4
  obtain ⟨by_, rfl, iby⟩ := int_val (hval 5 3 v5 rfl rfl) h5
  have tr' := tr
  obtain ⟨ar0, cr0, ar, cr, rfl, -, -, -, -⟩ := tr
  have key : Calls Try.prog 5 #[.slice al n cl, .int .i64 k, .slice am n2 cm, .agg #[.slice ar0 m.pairs.length cr0, .int .i64 m.cost, .bool m.proven, .int .i64 m.bound, .slice ar m.proof.length cr], .int .i64 at_, .int .i64 by_] W fun e w' => e = .returned (.bool true) ∧ Below W.heap.size W w' := by
    by_cases hn : n ≤ 120 ∧ n2 ≤ 120 ∧ m.pairs.length ≤ 60 ∧ m.proof.length ≤ 60
    · obtain ⟨L, rfl, hL⟩ := hI (by omega)
      obtain ⟨M, rfl, hM⟩ := hI2 (by omega)
      exact verifies_any (blk W) W (imm_blk W) al cl L hL hn.1 hcl k ik _ M hM hn.2.1 _ m tr' hn.2.2.1 hn.2.2.2 at_ by_ iat iby
    · exact verifies_big W al am ar0 ar n cl n2 cm m.pairs.length cr0 m.proof.length cr k m.cost m.bound m.proven at_ by_ (by omega) (by omega) (by omega)
  refine key.mono fun e W' ⟨he, hbl⟩ => ?_
  subst he
  refine ⟨_, rfl, law_post (T := 4) laid_out ?_ rfl (by kernel_rfl) Try.underlying4 hW' rfl hbl⟩
  rw [Try.params5]
  intro t ht
  have ht' : t = 35 ∨ t = 3 ∨ t = 35 ∨ t = 32 ∨ t = 3 ∨ t = 3 := by simpa using ht
  rcases ht' with rfl | rfl | rfl | rfl | rfl | rfl <;> exact ⟨by kernel_rfl, of_decide_eq_true (by kernel_rfl)⟩

set_option maxRecDepth 100000 in
theorem lifted (os : Os) (started : os.Started) (H : Type) (enc : TypeId × Value → H) (F : Stop.Interp) :
    ReturnsInHanded {} Try.checked os 5 .any ((Rows.OpenSpec.upto Rows.matchingVerifiesSpec).pre6 enc Try.prog Try.f5 Rows.matchingVerifiesUptoRow.domain false) (((Rows.OpenSpec.upto Rows.matchingVerifiesSpec).at F).post enc Try.prog Try.f5 false true false false) := by
  refine returnsInHanded_of_cond (C := Try.checked) (s := Rows.OpenSpec.upto Rows.matchingVerifiesSpec) (k := Rows.uptoSmall) rfl own_knob started (by kernel_rfl) Try.func5
    (OpenSpec.witness (enc := enc) (C := Try.checked) (s := Rows.OpenSpec.upto Rows.matchingVerifiesSpec) (k := Rows.uptoSmall) rfl false ⟨#[], #[.slice none 0 0, .int .i64 0, .slice none 0 0, .agg #[.slice none 0 0, .int .i64 0, .bool false, .int .i64 0, .slice none 0 0], .int .i64 0, .int .i64 0], []⟩ 8 (by kernel_rfl) (by kernel_rfl) (by kernel_rfl)
      (x := ([.nil, .lit (.int .i64 0), .nil, .agg [.nil, .lit (.int .i64 0), .lit (.bool false), .lit (.int .i64 0), .nil], .lit (.int .i64 0), .lit (.int .i64 0)], [], [])) (by kernel_rfl) rfl (by kernel_rfl)) ?_
  intro W base args ds gs before hval hW _ hk _
  exact contract H enc W base args ds gs before hval hW hk

theorem proved : Rows.MatchingVerifiesUptoSaid :=
  OpenClaim.holds_of_cond 5 Try.f5 rfl rfl rfl rfl rfl rfl rfl ⟨rfl, rfl, rfl, rfl, rfl⟩ rfl rfl rfl rfl rfl (by kernel_rfl) Try.func5 (by kernel_rfl)
    (of_decide_eq_true (by kernel_rfl)) (by unfold Func.isWrapper; first | (rw [if_pos (by decide +kernel)]; kernel_rfl) | (rw [if_neg (by decide +kernel)]; exact ⟨rfl, rfl⟩))
    (fun os started H enc _ F => lifted os started H enc F)
#print axioms proved
end Go.Proofs.Ytfifbadepebpeaa.matchingVerifies
