/- AccidentRename: a function that is renamed on one side, and called by its old name in a new function on the other side, is an accident just if the old name means something else in the merge; for all arguments, the three variables of typing as the row lays them. -/
import Derived.Test.YtlgdojkmbfbnjaaGreatDoorTp
import Derived.Test.YtlgdojkmbfbnjaaGreatDoorJf
import Derived.Lib.LaidIn
namespace Go.Proofs.YtlgdojkmbfbnjaaGreatDoor.accidentRename
open Go.ChangeShapes Go.WideShapes Go.ChangeAt Go.RowKit Go.Lib

set_option maxRecDepth 100000 in
theorem contract (H : Type) (enc : TypeId × Value → H) (W : World) (base : Nat) (args : Array Value) (ds gs : List (DataW H)) (before : List MemPlace)
    (hval : ∀ (j : Nat) t v, Tryz.f3.params[j]? = some t → args[j]? = some v → Value.okWide Tryz.prog W .any base t v)
    (hW : DataW.Whole enc Tryz.prog Tryz.f3.params.toList Rows.accidentRenameSpec.vars false W args.toList ds gs before) (hL : laidMet Tryz.prog Rows.accidentRenameRow.laid W) :
    Calls Tryz.prog 3 args W fun e W' => ∃ v, e = .returned v ∧ Rows.accidentRenameSpec.post enc Tryz.prog Tryz.f3 false true false false W args v W' := by
  have hW' := hW
  obtain ⟨p, q, hA0, hV, rfl, hfz, hnd⟩ := hW
  have hA : DataW.TrodAll enc Tryz.prog W 0 (fun _ => true) true Tryz.f3.params.toList args.toList ds p := hA0
  rw [Tryz.params3] at hA hval
  obtain ⟨v0, vs0, d0, ds0, p0, q0, hargs, rfl, rfl, h0, r0⟩ := trodAll_cons hA
  obtain ⟨v1, vs1, d1, ds1, p1, q1, rfl, rfl, rfl, h1, r1⟩ := trodAll_cons r0
  obtain ⟨v2, vs2, d2, ds2, p2, q2, rfl, rfl, rfl, h2, r2⟩ := trodAll_cons r1
  obtain ⟨rfl, rfl, rfl⟩ := trodAll_nil r2
  obtain rfl : args = #[v0, v1, v2] := by cases args; simp_all
  obtain ⟨rfl, rfl⟩ := trodVars_none hV
  obtain ⟨n, rfl⟩ := okWide_int (k := .i64) (by kernel_rfl) (hval 0 3 v0 rfl rfl)
  obtain ⟨m, rfl⟩ := okWide_int (k := .i64) (by kernel_rfl) (hval 1 3 v1 rfl rfl)
  obtain ⟨b, rfl⟩ := okWide_bool (by kernel_rfl) (hval 2 4 v2 rfl rfl)
  have key : Calls Tryz.prog 3 #[.int .i64 n, .int .i64 m, .bool b] W fun e w' => e = .returned (.bool true) ∧ Below W.heap.size W w' :=
    ((acc_ok n m b).2 (blk W) W [.int .i64 n, .int .i64 m, .bool b] (imm_blk W) (gl_laid hL) (by simp only [Vs, V]; exact ⟨_, _, rfl, rfl, _, _, rfl, rfl, _, _, rfl, rfl, rfl⟩)).mono fun e w' ⟨v, x, h', e1, _, _, _, hb, hv, hx⟩ => by
      subst hx
      rw [V] at hv
      subst hv
      exact ⟨e1, hb⟩
  refine key.mono fun e W' ⟨he, hbl⟩ => ?_
  subst he
  refine ⟨_, rfl, law_post (T := 4) laid_out ?_ rfl (by kernel_rfl) (by kernel_rfl) hW' rfl hbl⟩
  rw [Tryz.params3]
  intro t ht
  have ht' : t = 3 ∨ t = 4 := by simpa [or_assoc] using ht
  rcases ht' with rfl | rfl
  · exact ⟨by kernel_rfl, of_decide_eq_true (by kernel_rfl)⟩
  · exact ⟨by kernel_rfl, of_decide_eq_true (by kernel_rfl)⟩

/-- The witness's world: the settled one, and the three variables laid. -/
noncomputable def laidWorld (os : Os) : World :=
  let w0 := World.holding Tryz.prog os ⟨#[], #[], []⟩
  let put (h : Array Obj) (g : Nat) (cs : Array Value) : Array Obj := h.modify g fun
    | .cells _ t frozen => .cells cs t frozen
    | o => o
  { w0 with heap := put (put (put w0.heap 0 #[.int .i64 5, .int .i64 0]) 1 #[.int .i64 6, .int .i64 0]) 2 #[.int .i64 7, .int .i64 0] }
theorem laid_in (os : Os) (args : Array Value) : LaidIn Tryz.prog ((laidWorld os).forCall (fun _ _ => 0) ⟨#[], args, []⟩).memory Rows.accidentRenameRow.laid [0, 1, 2] :=
  LaidIn.of_run _ 8 (by kernel_rfl) (by kernel_rfl) (by kernel_rfl) (by kernel_rfl)
theorem laid_met (os : Os) (args : Array Value) : laidMet Tryz.prog Rows.accidentRenameRow.laid ((laidWorld os).forCall (fun _ _ => 0) ⟨#[], args, []⟩).memory := (laid_in os args).met
theorem plain_laid (w : World) : laidMetH Tryz.prog Rows.accidentRenameRow.laid w = laidMet Tryz.prog Rows.accidentRenameRow.laid w := MakeChecks.laidMetH_plain _ _ _ (by kernel_rfl)
set_option maxRecDepth 100000 in
theorem lifted (os : Os) (started : os.Started) (H : Type) (enc : TypeId × Value → H) :
    ReturnsInHanded {} Tryz.checked os 3 .any (fun w args => (Rows.accidentRenameSpec.pre enc Tryz.prog Tryz.f3 Rows.accidentRenameRow.domain false w args ∧ laidMetH Tryz.prog Rows.accidentRenameRow.laid w) ∧ sizedMet enc Tryz.prog Tryz.f3 (OpenSpec.ofChange Rows.accidentRenameSpec) false w args)
      (Rows.accidentRenameSpec.post enc Tryz.prog Tryz.f3 false true false false) := by
  refine returnsInHanded_of_change_and (C := Tryz.checked) (X := fun w _ => laidMetH Tryz.prog Rows.accidentRenameRow.laid w) (fun _ _ _ hh h => h.of_heap hh) own_knob started (by kernel_rfl) Tryz.func3
    (ChangeSpec.witness_shaped (enc := enc) (C := Tryz.checked) (os := os) (X := fun w _ => laidMetH Tryz.prog Rows.accidentRenameRow.laid w) false (laidWorld os) #[.int .i64 0, .int .i64 0, .bool false] 8 rfl (World.shaped_of_RefB (by kernel_rfl) (by kernel_rfl)) (by kernel_rfl) (by kernel_rfl) (by kernel_rfl) (by rw [plain_laid]; exact laid_met os _)) ?_
  intro W base args ds gs before hval hW _ _ hL _
  have hL' : laidMet Tryz.prog Rows.accidentRenameRow.laid W := by rw [← plain_laid]; exact hL
  exact contract H enc W base args ds gs before hval hW hL'
theorem said : Rows.AccidentRenameSaid :=
  OpenClaim.holds_of_wide 3 Tryz.f3 rfl rfl rfl rfl rfl rfl rfl ⟨rfl, rfl, rfl, rfl, rfl⟩ rfl rfl rfl rfl rfl (by kernel_rfl) Tryz.func3 closed
    (of_decide_eq_true (by kernel_rfl)) (by unfold Func.isWrapper; first | (rw [if_pos (by decide +kernel)]; kernel_rfl) | (rw [if_neg (by decide +kernel)]; exact ⟨rfl, rfl⟩))
    (fun os started H enc _ => lifted os started H enc)
/-- The statement: the tied card. -/
theorem proved : Rows.AccidentRenameCardSaid :=
  Claim7.holds_tied_plain_at .later [] [.data, .data, .data] true (true, "2078addb3b87e52da71e42656250c60dac60c7e61bd49005995174885dccb1f4") false
    said (fun _ h => by cases h) c1 (fun _ h => by cases h) accidentRename_row_tie rfl ⟨rfl, rfl⟩ c2 rfl
    (fun f fn hf hfn => by
      obtain rfl : f = 3 := Option.some.inj ((show Tryz.prog.funcNamed "semvcs/semvcslaw30.AccidentRename" = some 3 by kernel_rfl).symm.trans hf) |>.symm
      obtain rfl : fn = Tryz.f3 := (Option.some.inj (Tryz.func3.symm.trans hfn)).symm
      exact ⟨c3, fun j t ht => by
        rw [Tryz.params3] at ht
        have hm : t ∈ [3, 4] := by
          have := Array.mem_of_getElem? ht
          simpa [or_assoc] using this
        exact (show Tryz.prog.wantsStandIn t = false by simpa using List.all_eq_true.1 c4 t hm)⟩)
    c5
#print axioms proved
end Go.Proofs.YtlgdojkmbfbnjaaGreatDoor.accidentRename
