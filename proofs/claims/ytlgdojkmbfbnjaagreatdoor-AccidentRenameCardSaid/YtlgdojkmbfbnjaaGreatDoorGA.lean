/- Known calls of the program, and Mod, whose result is any number below its second argument. -/
import Derived.Test.YtlgdojkmbfbnjaaGreatDoorFE
import Derived.Test.YtlgdojkmbfbnjaaGreatDoorFF
import Derived.Test.YtlgdojkmbfbnjaaGreatDoorFD
import Derived.Tactics2
import Derived.BigFrame
namespace Go.Proofs.YtlgdojkmbfbnjaaGreatDoor
open Go.RowKit
set_option maxRecDepth 100000

abbrev Kt (t : List Kn) : Prop := KnOk Go.Proofs.Tryz.prog t
theorem cT_ok {t : List Kn} (ht : Kt t) : CLok Go.Proofs.Tryz.prog (cT t) := callT_ok ext fol ok_all ht 1000
theorem K0 : Kt [] := KnOk.nil
def KE (e : Kn) : Prop := e.xs.all AV.hfc = true ∧ CallP Go.Proofs.Tryz.prog e.f e.xs (· = e.y)
theorem Kt.at {l : List Kn} (h : Kt l) (i : Nat) {e : Kn} (he : l[i]? = some e) : KE e := h e (List.mem_of_getElem? he)
theorem Kt.c {t : List Kn} (h : Kt t) {e : Kn} (k : KE e) : Kt (e :: t) := KnOk.cons h k.1 k.2
theorem Kt.app {t s : List Kn} (h : Kt t) (k : Kt s) : Kt (t ++ s) := fun e he => (List.mem_append.1 he).elim (h e) (k e)
theorem ckB_ok {t : List Kn} (ht : Kt t) : ∀ {l : List Kn}, ckB t l = true → Kt l
  | [], _ => K0
  | e :: l, h => by
    replace h : (Bool.rec false (ckB t l) (Bool.rec false (ckE t e) (allB AV.hfc e.xs)) : Bool) = true := h
    cases e1 : allB AV.hfc e.xs with
    | false => rw [e1] at h; cases h
    | true =>
      rw [e1] at h
      replace h : (Bool.rec false (ckB t l) (ckE t e) : Bool) = true := h
      cases e2 : ckE t e with
      | false => rw [e2] at h; cases h
      | true =>
        rw [e2] at h
        rw [allB_eq] at e1
        refine KnOk.cons (ckB_ok ht h) e1 ?_
        unfold ckE at e2
        split at e2
        · rename_i y hy
          rw [← sameA_ok e2]
          exact CallP.of_run (cT_ok ht) hy
        · cases e2
end Go.Proofs.YtlgdojkmbfbnjaaGreatDoor

namespace Go.Proofs.YtlgdojkmbfbnjaaGreatDoor
open Go.RowKit

/-! Mod: a number below m, whichever; what follows is reckoned for all of them. -/
set_option maxHeartbeats 400000 in
theorem mod_any (w : World) (n m : Int) (h : 0 < m) (hm : m ≤ 4611686018427387904) :
    Calls Go.Proofs.Tryz.prog 7 #[.int .i64 n, .int .i64 m] w fun e w' => e = .returned (.int .i64 ((n.tmod m + m) % m)) ∧ w = w' := by
  have h1 := Int.tmod_lt_of_pos n h
  have h2 : -m < n.tmod m := by
    have := Int.tmod_lt_of_pos (-n) h
    rw [Int.neg_tmod] at this
    omega
  have hm0 : (m == 0) = false := by simp; omega
  have hmm : m ≠ 0 := by omega
  have hm1 : (m == -1) = false := by simp; omega
  go_enter Go.Proofs.Tryz.func7, Go.Proofs.Tryz.ntmps7
  go_wp2_with fail
  go_ret
  exact ⟨rfl, rfl⟩
theorem mod_bd (n m : Int) (h : 0 < m) : 0 ≤ (n.tmod m + m) % m ∧ (n.tmod m + m) % m < m := ⟨Int.emod_nonneg _ (by omega), Int.emod_lt_of_pos _ h⟩
theorem isH0_ok : ∀ {H : HP}, isH0 H = true → H = H0
  | ⟨.e, 0, 0⟩, _ => rfl
  | ⟨.e, 0, _ + 1⟩, h => by cases h
  | ⟨.e, _ + 1, _⟩, h => by cases h
  | ⟨.n .., _, _⟩, h => by cases h
theorem gT_ok {x : R} (h : gT x = true) : x = some rT := by
  unfold gT at h
  split at h
  · rename_i r
    obtain ⟨a, H⟩ := r
    split at h
    · rename_i e
      split at h
      · rename_i b
        cases b
        · cases h
        · have e2 := isH0_ok h
          simp only at e e2
          rw [e, e2]; rfl
      · cases h
    · cases h
  · cases h
theorem orc_ok {c : CL} (hC : CLok Go.Proofs.Tryz.prog c) : CLok Go.Proofs.Tryz.prog (orc c) := fun f xs H k r wh hr => by
  unfold orc at hr
  cases e1 : Nat.beq f 7 with
  | false => rw [e1] at hr; exact hC f xs H k r wh hr
  | true =>
    rw [e1] at hr
    rw [beq_iff] at e1
    subst e1
    replace hr : orcM xs H k = some r := hr
    unfold orcM at hr
    repeat' split at hr
    all_goals first | (cases hr; done) | skip
    rename_i _ _ n _ _ _ _ _ m
    obtain ⟨h1, h2⟩ := cond_some hr
    obtain rfl := Option.some.inj h2
    simp only [Bool.and_eq_true, blt_iff, ble_iff] at h1
    obtain ⟨⟨h3, h4⟩, h5⟩ := h1
    refine ⟨by kernel_rfl, fun g w vs R hg hv => ?_⟩
    simp only [Vs, V] at hv
    obtain ⟨v, _, rfl, rfl, v2, _, rfl, rfl, rfl⟩ := hv
    have hb := mod_bd n m (by omega)
    obtain ⟨q, hq⟩ := Int.eq_ofNat_of_zero_le hb.1
    refine (mod_any w n m (by omega) (by omega)).mono fun e w' ⟨e1, e2⟩ => ?_
    subst e1 e2
    have hk := gT_ok (allN_ok h5 q (by omega))
    exact ⟨_, I q, asH H, g, rfl, .rfl, R, .rfl, by rw [hq, I, V]; rfl, .rfl, H, rfl, wh, hk⟩
end Go.Proofs.YtlgdojkmbfbnjaaGreatDoor
