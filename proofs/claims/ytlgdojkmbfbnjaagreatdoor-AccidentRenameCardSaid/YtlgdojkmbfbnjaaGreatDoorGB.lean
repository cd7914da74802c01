/- The row: the variables that are laid, and what is asked of a call that returns true. -/
import Derived.Test.YtlgdojkmbfbnjaaGreatDoorGA
import Derived.Test.YtlgdojkmbfbnjaaGreatDoorRows
import Derived.Lib.LaidIn
import Derived.Lib.LaidTab
import Derived.Lib.LaidU8
import Derived.LaidMore
import Derived.Test.YtlgdojkmbfbnjaaGreatDoorCards
import Derived.Test.YtlgdojkmbfbnjaaGreatDoorTie
import Derived.WalkKit
import Derived.ProofKit
import Derived.OpenShut
import Derived.WideKeyArgs
import Derived.ChangeArms
import Derived.JoinedCond
namespace Go.Proofs.YtlgdojkmbfbnjaaGreatDoor
open Go.RowKit Go.Lib

theorem trod_int1 {P : Program} {w : World} {enc : TypeId × Value → Unit} {sp : Nat → Bool} {fuel : Nat} {t : TypeId} {k : IntKind} {c : Value} {a : Int} {p : List MemPlace} (hu : P.underlying t = some (.int k)) (h : DataW.trod enc P w 0 sp false fuel t [c] = some (.lit (.int k a), p)) : c = .int k a := by
  cases fuel with
  | zero => cases h
  | succ n =>
    cases c <;> simp only [DataW.trod, hu] at h <;> first | (cases h; done) | skip
    split at h
    · rename_i hh
      simp only [Option.some.injEq, Prod.mk.injEq, DataW.lit.injEq, Lit.int.injEq] at h
      rw [hh.1, h.1.2]
    · cases h
theorem trod_two {P : Program} {w : World} {enc : TypeId × Value → Unit} {sp : Nat → Bool} {fuel : Nat} {t ti : TypeId} {fs : Array Go.Field} {cs : List Value} {a b : Int} {p : List MemPlace} (hu : P.underlying t = some (.struct fs)) (hf0 : fs.toList.map (fun f => (f.type, f.offset)) = [(ti, 0), (ti, 1)]) (h0 : P.underlying ti = some (.int .i64)) (c0 : P.cellsOf ti = 1) (hc : P.cellsOf t = 2)
    (h : DataW.trod enc P w 0 sp false fuel t cs = some (.agg [.lit (.int .i64 a), .lit (.int .i64 b)], p)) : cs = [.int .i64 a, .int .i64 b] := by
  obtain ⟨f0, f1, hf, t0, t1, o0, o1⟩ : ∃ f0 f1, fs.toList = [f0, f1] ∧ f0.type = ti ∧ f1.type = ti ∧ f0.offset = 0 ∧ f1.offset = 1 := by
    match h2 : fs.toList, hf0 with
    | [f0, f1], hf0 =>
      simp only [List.map_cons, List.map_nil, List.cons.injEq, Prod.mk.injEq, and_true] at hf0
      exact ⟨f0, f1, rfl, hf0.1.1, hf0.2.1, hf0.1.2, hf0.2.2⟩
    | [], hf0 => cases hf0
    | [_], hf0 => simp at hf0
    | _ :: _ :: _ :: _, hf0 => simp at hf0
  cases fuel with
  | zero => cases h
  | succ n =>
    simp only [DataW.trod, hu] at h
    split at h
    · rename_i hl
      rw [hc] at hl
      obtain ⟨x, y, rfl⟩ : ∃ x y, cs = [x, y] := by
        match cs, hl with
        | [x, y], _ => exact ⟨x, y, rfl⟩
      rw [hf] at h
      simp only [List.mapM_cons, List.mapM_nil, t0, t1, c0, o0, o1, List.drop_zero, List.take_succ_cons, List.take_zero, List.drop_succ_cons, Option.pure_def, Option.bind_eq_bind] at h
      obtain ⟨xs, h2, h3⟩ := Option.map_eq_some_iff.1 h
      obtain ⟨u, h4, h5⟩ := Option.bind_eq_some_iff.1 h2
      obtain ⟨v, h6, h7⟩ := Option.bind_eq_some_iff.1 h5
      obtain ⟨q, h8, h9⟩ := Option.bind_eq_some_iff.1 h6
      have h9 : some [q] = some v := h9
      obtain rfl := Option.some.inj h9
      obtain rfl := Option.some.inj h7
      simp only [Prod.mk.injEq, DataW.agg.injEq, List.map_cons, List.map_nil, List.cons.injEq, and_true] at h3
      obtain ⟨⟨e1, e2⟩, _⟩ := h3
      obtain ⟨u1, u2⟩ := u
      obtain ⟨q1, q2⟩ := q
      simp only at e1 e2
      subst e1 e2
      rw [trod_int1 h0 h4, trod_int1 h0 h8]
    · cases h
theorem var_two {W : World} {name : String} {g : Nat} {a b : Int} (hg : Go.Proofs.Tryz.prog.globalNamed name = some g) (hty : (Go.Proofs.Tryz.prog.globals[g]?).map (·.type) = some 211) (h : Lib.VarReads Go.Proofs.Tryz.prog W name (.agg [.lit (.int .i64 a), .lit (.int .i64 b)])) : blk W g = some #[.int .i64 a, .int .i64 b] := by
  obtain ⟨g', t', cs, fuel, p, hg', ht', hvar, hd⟩ := h
  obtain rfl := Option.some.inj (hg.symm.trans hg')
  obtain rfl := Option.some.inj (hty.symm.trans ht')
  have := trod_two (fs := match Go.Proofs.Tryz.prog.underlying 211 with | some (.struct fs) => fs | _ => #[]) (ti := 3) (by kernel_rfl) (by kernel_rfl) (by kernel_rfl) (by kernel_rfl) (by kernel_rfl) hd
  have e : cs = #[.int .i64 a, .int .i64 b] := by
    obtain ⟨l⟩ := cs
    simpa using this
  unfold World.var? at hvar
  rw [hg, Option.bind_some] at hvar
  unfold blk
  split at hvar
  · rename_i c _ _ e2
    rw [e2]
    rw [Option.some.inj hvar, e]
  · cases hvar
theorem gl_laid {W : World} (hL : laidMet Go.Proofs.Tryz.prog Rows.accidentRenameRow.laid W) : GlA (blk W) := fun i x e => by
  have key : ∀ (i : Nat) (a : Nat), blk W i = some #[.int .i64 (.ofNat a), .int .i64 0] → gv i = some (.ag [.vl (.int .i64 (.ofNat a)), .vl (.int .i64 0)]) → gv i = some x → ∃ c u, blk W i = some c ∧ V x ⟨blk W, fun _ _ => none, fun _ _ => 0, fun _ => 0⟩ u ∧ ∀ j, j < u.cells.size → c[j]? = u.cells[j]? := fun i a h1 h2 h3 => by
    rw [h2] at h3
    obtain rfl := Option.some.inj h3
    exact ⟨_, .agg #[.int .i64 (.ofNat a), .int .i64 0], h1, by simp only [V, Vs]; exact ⟨_, rfl, _, _, rfl, rfl, _, _, rfl, rfl, rfl⟩, fun j _ => rfl⟩
  match i, e with
  | 0, e => exact key 0 5 (var_two (name := "semvcs/typing.integer") (by kernel_rfl) (by kernel_rfl) (Lib.laidMet.reads hL (List.mem_of_getElem? (i := 0) (by kernel_rfl)))) rfl e
  | 1, e => exact key 1 6 (var_two (name := "semvcs/typing.text") (by kernel_rfl) (by kernel_rfl) (Lib.laidMet.reads hL (List.mem_of_getElem? (i := 1) (by kernel_rfl)))) rfl e
  | 2, e => exact key 2 7 (var_two (name := "semvcs/typing.boolean") (by kernel_rfl) (by kernel_rfl) (Lib.laidMet.reads hL (List.mem_of_getElem? (i := 2) (by kernel_rfl)))) rfl e
end Go.Proofs.YtlgdojkmbfbnjaaGreatDoor

namespace Go.Proofs.YtlgdojkmbfbnjaaGreatDoor
open Go.RowKit Go.ChangeShapes Go.WideShapes

theorem imm_blk (w : World) : Imm (blk w) w := fun _ _ h => h
theorem laid_out : laidOutB Go.Proofs.Tryz.prog = true := by kernel_rfl
theorem own_knob : ownKnob Go.Proofs.Tryz.prog.godebug = none := by kernel_rfl
section
variable {H : Type} {enc : TypeId × Value → H}
theorem trodAll_again {W W' : World} (hb : Below W.heap.size W W') {sp' : Nat → Bool} (hl : laidOutB Go.Proofs.Tryz.prog = true) : ∀ {ts : List TypeId} {vs : List Value} {ds : List (DataW H)} {ps : List MemPlace},
    (∀ t ∈ ts, Go.Proofs.Tryz.prog.readableRec t = true ∧ t < Go.Proofs.Tryz.prog.types.size) → DataW.TrodAll enc Go.Proofs.Tryz.prog W 0 (fun _ => true) true ts vs ds ps → (∀ p ∈ ps, p.block < W.heap.size) → (∀ p ∈ ps, sp' p.block = true) → DataW.TrodAll enc Go.Proofs.Tryz.prog W' 0 sp' true ts vs ds ps
  | [], vs, ds, ps, _, h, _, _ => by
    obtain ⟨rfl, rfl, rfl⟩ := trodAll_nil h
    rfl
  | t :: ts, vs, ds, ps, ht, h, hlt, hs => by
    obtain ⟨v, vs1, d, ds1, a, b, rfl, rfl, rfl, h1, h2⟩ := trodAll_cons h
    refine ⟨a, b, WideElems.Trod_stays hl (ht t (by simp)).1 (ht t (by simp)).2 h1 (fun p hp => ?_) (fun p hp => hs p (by simp [hp])), trodAll_again hb hl (fun u hu => ht u (by simp [hu])) h2 (fun p hp => hlt p (by simp [hp])) (fun p hp => hs p (by simp [hp])), rfl⟩
    have hp' := hlt p (by simp [hp])
    cases p with
    | cell bk off => exact hb.cell (p := ⟨bk, off, none⟩) hp'
    | map bk => exact hb.block bk hp'

theorem kept_of {W W' : World} (hb : Below W.heap.size W W') (may : MemPlace → Prop) : W.keptBut W' may := by
  refine ⟨hb.os, hb.output, fun i hi => ?_⟩
  rw [hb.block i hi]
  cases W.heap[i]? with
  | none => rfl
  | some o => cases o <;> simp

set_option maxRecDepth 100000 in
/-- What a statement asks of a call that returns true and only makes memory. -/
theorem law_post {f : Func} {s : ChangeSpec} {W W' : World} {args : Array Value} {ds gs : List (DataW H)} {before : List MemPlace} {T : TypeId} (hl : laidOutB Go.Proofs.Tryz.prog = true) (ht : ∀ t ∈ f.params.toList, Go.Proofs.Tryz.prog.readableRec t = true ∧ t < Go.Proofs.Tryz.prog.types.size)
    (hv : s.vars = []) (hr : f.resultTypes = #[T]) (hT : Go.Proofs.Tryz.prog.underlying T = some .bool)
    (hW : DataW.Whole enc Go.Proofs.Tryz.prog f.params.toList s.vars false W args.toList ds gs before) (hs : s.fn H (ds ++ gs) = { results := [.lit (.bool true)], args := ds }) (hb : Below W.heap.size W W') :
    s.post enc Go.Proofs.Tryz.prog f false true false false W args (.bool true) W' := by
  have hlt := hW.lt
  have hWW := hW
  obtain ⟨p, q, hA, hV, rfl, hfz, _⟩ := hW
  rw [hv] at hV
  obtain ⟨rfl, rfl⟩ := trodVars_none hV
  simp only [List.append_nil] at hs hfz hlt hWW ⊢
  have hres : ∀ (b : Nat) (sp : Nat → Bool) (hd : Bool), DataW.TrodAll enc Go.Proofs.Tryz.prog W' b sp hd f.resultTypes.toList ((Value.bool true).resultList f.resultTypes.size) (s.fn H (ds ++ [])).results [] := fun b sp hd => by
    rw [List.append_nil, hs, hr]
    exact trodAll_cons_mk (shut_bool hT _) trodAll_mk0
  have hargs : ∀ sp : Nat → Bool, (∀ x ∈ p, sp x.block = true) → DataW.TrodAll enc Go.Proofs.Tryz.prog W' 0 sp true f.params.toList args.toList (s.fn H (ds ++ [])).args p := fun sp hsp => by
    rw [List.append_nil, hs]
    exact trodAll_again hb hl ht hA hlt hsp
  have hvars : ∀ sp : Nat → Bool, DataW.TrodVars enc Go.Proofs.Tryz.prog W' sp s.vars (s.fn H (ds ++ [])).vars [] := fun sp => by
    rw [List.append_nil, hs, hv]; rfl
  have hold : ∀ x ∈ p, (fun b => decide (b < W.heap.size)) x.block = true := fun x hx => by simpa using hlt x hx
  refine ⟨ds, [], p, [], p, [], hWW, hres _ _ _, hargs _ hold, hvars _, World.keptBut_mono (fun x hx => ⟨hx, Or.inr (by simpa using hx)⟩) (kept_of hb (· ∈ p)), fun _ => ?_⟩
  refine ⟨ok_one hr rfl (okWide_bool_mk hT _), _, _, ([] ++ p) ++ [], ⟨[] ++ p, [], trodAll_append (hargs _ (fun _ _ => rfl)) (hres _ _ _), hvars _, rfl, ?_, fun h => by cases h⟩, ?_⟩
  · intro b off hx
    have hx' : MemPlace.cell b off ∈ p := by simpa using hx
    rw [hb.frozen (p := ⟨b, off, none⟩) (hlt _ hx')]
    exact hfz b off hx'
  · intro x hx _
    simpa using hx
end
set_option maxRecDepth 100000
/-! The statement's function: with whatever numbers. -/
theorem orc_m {c : CL} (hM : CLm c) : CLm (orc c) := fun f xs H k r hr => by
  unfold orc at hr
  cases e1 : Nat.beq f 7 with
  | false => rw [e1] at hr; exact hM f xs H k r hr
  | true =>
    rw [e1] at hr
    replace hr : orcM xs H k = some r := hr
    unfold orcM at hr
    repeat' split at hr
    all_goals first | (cases hr; done) | skip
    rename_i m
    obtain ⟨h1, h2⟩ := cond_some hr
    obtain rfl := Option.some.inj h2
    simp only [Bool.and_eq_true, blt_iff, ble_iff] at h1
    exact ⟨_, H, .rfl, gT_ok (allN_ok h1.2 0 h1.1.1)⟩
theorem kT_ok {x : AV} {r : AV × HP} (h : kT x = some r) : x = .vl (.bool true) := by
  unfold kT at h
  split at h
  · split at h
    · rename_i b
      cases b
      · cases h
      · rfl
    · cases h
  · cases h
theorem cTop_ok {t : List Kn} (ht : Kt t) : CLok Go.Proofs.Tryz.prog (cTop t) := runF_ok ext fol ok_all (orc_ok (knF_ok (cT_ok ht) ht)) (orc_m (knF_m (callT_m 1000) t))
theorem top_ok {t : List Kn} (ht : Kt t) {n m : Int} {b : Bool} (h : rTop t n m b = true) : CallP Go.Proofs.Tryz.prog 3 [.vl (.int .i64 n), .vl (.int .i64 m), .vl (.bool b)] (· = .vl (.bool true)) := by
  have hr := gT_ok h
  have W0 : WH H0 := ⟨fun k => by trivial, fun k _ => rfl⟩
  obtain ⟨t0, hc⟩ := cTop_ok ht 3 _ H0 (fun x _ => kT x) rT W0 hr
  refine ⟨t0, fun h0 w vs hi hg hv => ?_⟩
  have e0 : asH H0 = [] := rfl
  have R : RelH (g0 h0) (asH H0) w := by
    rw [e0]
    exact ⟨hi, fun k T c l live hf e => (by simp at e), fun k T c l live hf e => (by simp at e), fun k r k' r' b e => (by cases e), fun k r b e => (by cases e), fun k o e => (by simp at e)⟩
  refine (hc (g0 h0) w vs R hg hv).mono fun e w' ⟨v, x, H1, g1, a1, a2, a3, a4, a5, a6, h', a7, a8, a9⟩ => ?_
  obtain rfl := kT_ok a9
  refine ⟨v, _, g1.h, a1, a2.h, a3.im, fun b hb => ?_, a4.tu.toBelow (Nat.le_refl _) fun k ⟨_, _, e⟩ => (by cases e), by rw [V] at a5 ⊢; exact a5, rfl⟩
  rcases a4.fz b with h | ⟨_, _, h⟩ | h
  · exact h
  · cases h
  · omega
end Go.Proofs.YtlgdojkmbfbnjaaGreatDoor
