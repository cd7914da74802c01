/- MatchingCosts: the cost of any pairs is the one of the reference, and a matching costs what it says; for all numbers and pairs. -/
import Derived.Test.YtfifbadepebpeaaMc
import Derived.Test.YtfifbadepebpeaaBd
namespace Go.Proofs.Ytfifbadepebpeaa.matchingCosts
open Go.ChangeShapes Go.WideShapes Go.ChangeAt Go.RowKit

set_option maxRecDepth 100000 in
theorem contract (H : Type) (enc : TypeId × Value → H) (W : World) (base : Nat) (args : Array Value) (ds gs : List (DataW H)) (before : List MemPlace)
    (hval : ∀ (j : Nat) t v, Try.f7.params[j]? = some t → args[j]? = some v → Value.okWide Try.prog W .any base t v)
    (hW : DataW.Whole enc Try.prog Try.f7.params.toList Rows.matchingCostsSpec.vars false W args.toList ds gs before) :
    Calls Try.prog 7 args W fun e W' => ∃ v, e = .returned v ∧ Rows.matchingCostsSpec.post enc Try.prog Try.f7 false true false false W args v W' := by
  have hW' := hW
  obtain ⟨p, q, hA0, hV, rfl, hfz, hnd⟩ := hW
  have hA : DataW.TrodAll enc Try.prog W 0 (fun _ => true) true Try.f7.params.toList args.toList ds p := hA0
  rw [Try.params7] at hA hval
  obtain ⟨v0, vs0, d0, ds0, p0, q0, hargs, rfl, rfl, h0, r0⟩ := trodAll_cons hA
  obtain ⟨v1, vs1, d1, ds1, p1, q1, rfl, rfl, rfl, h1, r1⟩ := trodAll_cons r0
  obtain ⟨v2, vs2, d2, ds2, p2, q2, rfl, rfl, rfl, h2, r2⟩ := trodAll_cons r1
  obtain ⟨v3, vs3, d3, ds3, p3, q3, rfl, rfl, rfl, h3, r3⟩ := trodAll_cons r2
  obtain ⟨rfl, rfl, rfl⟩ := trodAll_nil r3
  obtain rfl : args = #[v0, v1, v2, v3] := by cases args; simp_all
  obtain ⟨rfl, rfl⟩ := trodVars_none hV
  obtain ⟨a, n, cap, rfl, hnc, hcm, hI⟩ := ints_any (hval 0 35 v0 rfl rfl) h0
  obtain ⟨k, rfl, ik⟩ := int_val (hval 1 3 v1 rfl rfl) h1
  obtain ⟨a2, n2, cap2, rfl, hnc2, hcm2, hI2⟩ := ints_any (hval 2 35 v2 rfl rfl) h2
  obtain ⟨a3, n3, cap3, rfl, hnc3, hcm3, hI3⟩ := pairs_any (hval 3 29 v3 rfl rfl) h3
  have key : Calls Try.prog 7 #[.slice a n cap, .int .i64 k, .slice a2 n2 cap2, .slice a3 n3 cap3] W fun e w' => e = .returned (.bool true) ∧ Below W.heap.size W w' := by
    by_cases hn : n ≤ 120 ∧ n2 ≤ 120 ∧ n3 ≤ 100
    · obtain ⟨L, rfl, hL⟩ := hI (by omega)
      obtain ⟨M, rfl, hM⟩ := hI2 (by omega)
      obtain ⟨P, rfl, hP⟩ := hI3 (by omega)
      exact costs_any (blk W) W (imm_blk W) a cap L hL hn.1 hnc k ik _ M hM hn.2.1 _ P hP hn.2.2
    · exact costs_big W a a2 a3 n cap n2 cap2 n3 cap3 k (by omega) (by omega) (by omega) (by omega)
  refine key.mono fun e W' ⟨he, hbl⟩ => ?_
  subst he
  refine ⟨_, rfl, law_post (T := 4) laid_out ?_ rfl (by kernel_rfl) Try.underlying4 hW' rfl hbl⟩
  rw [Try.params7]
  intro t ht
  have ht' : t = 35 ∨ t = 3 ∨ t = 35 ∨ t = 29 := by simpa using ht
  rcases ht' with rfl | rfl | rfl | rfl <;> exact ⟨by kernel_rfl, of_decide_eq_true (by kernel_rfl)⟩

set_option maxRecDepth 100000 in
theorem lifted (os : Os) (started : os.Started) (H : Type) (enc : TypeId × Value → H) :
    ReturnsInHanded {} Try.checked os 7 .any (Rows.matchingCostsSpec.pre6 enc Try.prog Try.f7 Rows.matchingCostsRow.domain false) (Rows.matchingCostsSpec.post enc Try.prog Try.f7 false true false false) := by
  refine returnsInHanded_of_change (C := Try.checked) own_knob started (by kernel_rfl) Try.func7
    (ChangeSpec.witness6 (enc := enc) (C := Try.checked) false ⟨#[], #[.slice none 0 0, .int .i64 0, .slice none 0 0, .slice none 0 0], []⟩ 8 (by kernel_rfl) (by kernel_rfl) (by kernel_rfl) (by kernel_rfl)) ?_
  intro W base args ds gs before hval hW _ _
  exact contract H enc W base args ds gs before hval hW

/-- The statement. -/
theorem proved : Rows.MatchingCostsSaid :=
  OpenClaim.holds_of_wide 7 Try.f7 rfl rfl rfl rfl rfl rfl rfl ⟨rfl, rfl, rfl, rfl, rfl⟩ rfl rfl rfl rfl rfl (by kernel_rfl) Try.func7 (by kernel_rfl)
    (of_decide_eq_true (by kernel_rfl)) (by unfold Func.isWrapper; first | (rw [if_pos (by decide +kernel)]; kernel_rfl) | (rw [if_neg (by decide +kernel)]; exact ⟨rfl, rfl⟩))
    (fun os started H enc _ => lifted os started H enc)
#print axioms proved
end Go.Proofs.Ytfifbadepebpeaa.matchingCosts
