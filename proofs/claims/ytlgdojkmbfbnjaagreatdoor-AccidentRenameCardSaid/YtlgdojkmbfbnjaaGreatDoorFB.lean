/- Regions as they are reckoned, ordered ones and ones in whatever order. -/
import Derived.Test.YtlgdojkmbfbnjaaGreatDoorFA
import Derived.Test.YtlgdojkmbfbnjaaGreatDoorMC
namespace Go.Proofs.YtlgdojkmbfbnjaaGreatDoor
open Go.RowKit

theorem OkO.st {P : Program} {o : Oper} {Fr : List AV} {H : HP} {run : KV → R} (h : OkO P o Fr H run) (W : WH H) {k : KV} {r : AV × HP} (hr : run k = some r) {K : AV → AS → Prop} (q : ∀ x h', WH h' → k x h' = some r → K x (asH h')) : stE P o Fr (asH H) K := by
  have := h k r hr
  unfold stE
  generalize kdE P o.op = n at this ⊢
  have v : (∃ x, valE P o Fr (asH H) = some x ∧ k x H = some r) → bo (valE P o Fr (asH H)) fun x => K x (asH H) := fun ⟨x, h1, h2⟩ => by
    rw [h1]
    exact q _ _ W h2
  rcases n with _ | _ | _ | _ | n
  · exact v this
  · exact v this
  · obtain ⟨ao, mk, h', h1, h2, h3, h4⟩ := this
    rw [h1]
    show K (mk (asH H).length) (asH H ++ [ao])
    rw [← h2]
    exact q _ _ h3 h4
  · exact wrE_mono this fun x H' ⟨h', h1, h2, h3⟩ => by rw [← h1]; exact q _ _ h2 h3
  · exact v this
/-! Where the slots are. -/
inductive Loc where
  | st (i : Nat)
  | kp (p : Pa)
  | cn (v : AV)
noncomputable def hd1 (S : Sk) : AV := List.rec .top (fun x _ _ => x) S
noncomputable def tl1 (S : Sk) : Sk := List.rec [] (fun _ t _ => t) S
noncomputable def fv1 (F : FT) : AV := FT.rec .top (fun _ x _ _ _ => x) F
noncomputable def fl1 (F : FT) : FT := FT.rec .e (fun l _ _ _ _ => l) F
noncomputable def fr1 (F : FT) : FT := FT.rec .e (fun _ _ r _ _ => r) F
noncomputable def xC (x : AV) : XV := ⟨fun _ _ => x⟩
noncomputable def xS : Nat → XV
  | 0 => ⟨fun S _ => hd1 S⟩
  | 1 => ⟨fun S _ => hd1 (tl1 S)⟩
  | 2 => ⟨fun S _ => hd1 (tl1 (tl1 S))⟩
  | 3 => ⟨fun S _ => hd1 (tl1 (tl1 (tl1 S)))⟩
  | 4 => ⟨fun S _ => hd1 (tl1 (tl1 (tl1 (tl1 S))))⟩
  | n + 5 => ⟨fun S F => (xS n).f (tl1 (tl1 (tl1 (tl1 (tl1 S))))) F⟩
noncomputable def xF : Pa → XV
  | .z => ⟨fun _ F => fv1 F⟩
  | .l .z => ⟨fun _ F => fv1 (fl1 F)⟩
  | .r .z => ⟨fun _ F => fv1 (fr1 F)⟩
  | .l (.l p) => ⟨fun S F => (xF p).f S (fl1 (fl1 F))⟩
  | .l (.r p) => ⟨fun S F => (xF p).f S (fr1 (fl1 F))⟩
  | .r (.l p) => ⟨fun S F => (xF p).f S (fl1 (fr1 F))⟩
  | .r (.r p) => ⟨fun S F => (xF p).f S (fr1 (fr1 F))⟩
theorem hd1_eq (S : Sk) : hd1 S = S.getD 0 .top := by cases S <;> rfl
theorem tl1_get (S : Sk) (n : Nat) : (tl1 S).getD n .top = S.getD (n + 1) .top := by cases S <;> simp [tl1]
theorem xS_eq : ∀ (n : Nat) (S : Sk) (F : FT), (xS n).f S F = S.getD n .top
  | 0, S, F => hd1_eq S
  | 1, S, F => by show hd1 _ = _; rw [hd1_eq, tl1_get]
  | 2, S, F => by show hd1 _ = _; rw [hd1_eq, tl1_get, tl1_get]
  | 3, S, F => by show hd1 _ = _; rw [hd1_eq, tl1_get, tl1_get, tl1_get]
  | 4, S, F => by show hd1 _ = _; rw [hd1_eq, tl1_get, tl1_get, tl1_get, tl1_get]
  | n + 5, S, F => by show (xS n).f _ _ = _; rw [xS_eq n, tl1_get, tl1_get, tl1_get, tl1_get, tl1_get]
theorem fget_z (F : FT) : fget F .z = fv1 F := by cases F <;> rfl
theorem fget_l (F : FT) (p : Pa) : fget F (.l p) = fget (fl1 F) p := by cases F <;> rfl
theorem fget_r (F : FT) (p : Pa) : fget F (.r p) = fget (fr1 F) p := by cases F <;> rfl
theorem xF_eq : ∀ (p : Pa) (S : Sk) (F : FT), (xF p).f S F = fget F p
  | .z, S, F => (fget_z F).symm
  | .l .z, S, F => by rw [fget_l, fget_z]; rfl
  | .r .z, S, F => by rw [fget_r, fget_z]; rfl
  | .l (.l p), S, F => by rw [fget_l, fget_l]; exact xF_eq p S _
  | .l (.r p), S, F => by rw [fget_l, fget_r]; exact xF_eq p S _
  | .r (.l p), S, F => by rw [fget_r, fget_l]; exact xF_eq p S _
  | .r (.r p), S, F => by rw [fget_r, fget_r]; exact xF_eq p S _
noncomputable def locV (dep : Nat) (S : Sk) (F : FT) : Loc → AV
  | .st i => S.getD (dep - 1 - i) .top
  | .kp p => fget F p
  | .cn v => v
noncomputable def xL (dep : Nat) : Loc → XV
  | .st i => xS (dep - 1 - i)
  | .kp p => xF p
  | .cn v => xC v
theorem xL_eq (dep : Nat) (l : Loc) (S : Sk) (F : FT) : (xL dep l).f S F = locV dep S F l := by
  cases l with
  | st i => exact xS_eq _ _ _
  | kp p => exact xF_eq _ _ _
  | cn v => rfl
noncomputable def idx (t : Nat) (l : List Nat) : Nat → Option Nat := List.rec (fun _ => none) (fun x _ ih i => Bool.rec (ih (Nat.succ i)) (some i) (Nat.beq x t)) l
theorem brec {α : Sort _} (a b : α) (x y : Nat) : (Bool.rec (motive := fun _ => α) a b (Nat.beq x y)) = if x = y then b else a := by
  cases h : Nat.beq x y with
  | true => rw [if_pos ((beq_iff _ _).1 h)]
  | false => rw [if_neg fun e => by rw [← beq_iff, h] at e; cases e]
theorem idx_cons (t x : Nat) (l : List Nat) (i : Nat) : idx t (x :: l) i = if x = t then some i else idx t l (i + 1) := brec (idx t l (i + 1)) (some i) x t
noncomputable def keep (ks : List Nat) (t : Nat) : Loc := match idx t ks 0 with
  | some i => .kp (pa 20 i)
  | none => .cn .top
noncomputable def look (ks : List Nat) (en : List (Nat × Loc)) (t : Nat) : Loc := List.rec (keep ks t) (fun p _ ih => Bool.rec ih p.2 (Nat.beq p.1 t)) en
theorem look_nil (ks : List Nat) (t : Nat) : look ks [] t = keep ks t := rfl
theorem look_cons (ks : List Nat) (p : Nat × Loc) (r : List (Nat × Loc)) (t : Nat) : look ks (p :: r) t = if p.1 = t then p.2 else look ks r t := brec (look ks r t) p.2 p.1 t
noncomputable def fr (n : Nat) (ks : List Nat) (en : List (Nat × Loc)) (dep : Nat) (S : Sk) (F : FT) : List AV := (List.range n).map fun t => locV dep S F (look ks en t)
noncomputable def opV (ks : List Nat) (en : List (Nat × Loc)) (dep : Nat) : Operand → XV
  | .tmp t => xL dep (look ks en t)
  | .const v => xC (cst v)
  | .func f => xC (.fn f [])
  | .global g => xC (match gv g with | some x => .pi x 0 | none => .top)
theorem idx_lt {t : Nat} : ∀ {l : List Nat} {i j : Nat}, idx t l i = some j → t ∈ l ∧ i ≤ j ∧ j < i + l.length ∧ l[j - i]? = some t
  | [], i, j, h => by cases h
  | x :: l, i, j, h => by
    rw [idx_cons] at h
    split at h
    · obtain rfl := Option.some.inj h
      subst_vars
      exact ⟨List.mem_cons_self, Nat.le_refl _, by simp, by simp⟩
    · obtain ⟨h1, h2, h3, h4⟩ := idx_lt h
      refine ⟨List.mem_cons_of_mem _ h1, by omega, by simp only [List.length_cons]; omega, ?_⟩
      rw [show j - i = (j - (i + 1)) + 1 by omega]
      simpa using h4
/-- What is asked of the places. -/
structure WE (n : Nat) (ks : List Nat) (en : List (Nat × Loc)) (dep : Nat) : Prop where
  kn : ∀ t ∈ ks, t < n
  kl : ks.length < 1048576
  ev : ∀ p ∈ en, p.1 < n ∧ idx p.1 ks 0 = none
  sk : ∀ p ∈ en, ∀ i, p.2 = .st i → i < dep
theorem look_mem {ks : List Nat} {t : Nat} : ∀ {en : List (Nat × Loc)}, (∃ p ∈ en, p.1 = t ∧ look ks en t = p.2) ∨ ((∀ p ∈ en, p.1 ≠ t) ∧ look ks en t = keep ks t)
  | [] => .inr ⟨fun _ h => (by cases h), rfl⟩
  | p :: r => by
    by_cases h : p.1 = t
    · exact .inl ⟨p, List.mem_cons_self, h, by rw [look_cons, if_pos h]⟩
    · rcases look_mem (ks := ks) (t := t) (en := r) with ⟨q, h1, h2, h3⟩ | ⟨h1, h2⟩
      · exact .inl ⟨q, List.mem_cons_of_mem _ h1, h2, by rw [look_cons, if_neg h]; exact h3⟩
      · refine .inr ⟨fun q hq => ?_, by rw [look_cons, if_neg h]; exact h2⟩
        rcases List.mem_cons.1 hq with rfl | hq
        · exact h
        · exact h1 q hq
theorem keep_none {n : Nat} {ks : List Nat} (h : ∀ t ∈ ks, t < n) {t : Nat} (ht : n ≤ t) : keep ks t = .cn .top := by
  unfold keep
  split
  · rename_i i e
    have := h t (idx_lt e).1
    omega
  · rfl
theorem fr_get {n : Nat} {ks : List Nat} {en : List (Nat × Loc)} {dep : Nat} {S : Sk} {F : FT} (t : Nat) : (fr n ks en dep S F)[t]? = if t < n then some (locV dep S F (look ks en t)) else none := by
  unfold fr
  rw [List.getElem?_map]
  by_cases h : t < n
  · rw [List.getElem?_range h, if_pos h]; rfl
  · rw [List.getElem?_eq_none (by simp; omega), if_neg h]; rfl
theorem fr_len {n : Nat} {ks : List Nat} {en : List (Nat × Loc)} {dep : Nat} {S : Sk} {F : FT} : (fr n ks en dep S F).length = n := by simp [fr]
theorem tv_eq {n : Nat} {ks : List Nat} {en : List (Nat × Loc)} {dep : Nat} {S : Sk} {F : FT} (W : WE n ks en dep) (t : Nat) : locV dep S F (look ks en t) = (fr n ks en dep S F).getD t .top := by
  rw [List.getD_eq_getElem?_getD, fr_get]
  by_cases h : t < n
  · rw [if_pos h]; rfl
  · rw [if_neg h]
    rcases look_mem (ks := ks) (t := t) (en := en) with ⟨q, h1, h2, h3⟩ | ⟨h1, h2⟩
    · have := (W.ev q h1).1; omega
    · rw [h2, keep_none W.kn (by omega)]; rfl
theorem opV_eq {n : Nat} {ks : List Nat} {en : List (Nat × Loc)} {dep : Nat} {S : Sk} {F : FT} (W : WE n ks en dep) (x : Operand) : (opV ks en dep x).f S F = evA (fr n ks en dep S F) x := by
  cases x with
  | tmp t => exact (xL_eq _ _ _ _).trans (tv_eq W t)
  | const v => rfl
  | func f => rfl
  | global g => rfl
end Go.Proofs.YtlgdojkmbfbnjaaGreatDoor

namespace Go.Proofs.YtlgdojkmbfbnjaaGreatDoor
open Go.RowKit

abbrev KS := Sk → FT → HP → R
structure XR where
  f : CL → KS → KS
noncomputable def wantK (x : AV) (w : Bool) (a b : R) : R := match x with
  | .vl v => (match v with
    | .bool t => Bool.rec (Bool.rec a b t) (Bool.rec b a t) w
    | .tuple _ => b
    | _ => none)
  | _ => none
noncomputable def uA : AV := .vl undef
noncomputable def xZ (f : OpC) : XR := ⟨fun c k S F H => f.f c S F H fun _ H => k S F H⟩
noncomputable def xN (f : OpC) : XR := ⟨fun c k S F H => f.f c S F H fun x H => k (x :: S) F H⟩
noncomputable def xD (d : Pa) (f : OpC) : XR := ⟨fun c k S F H => f.f c S F H fun x H => k S (fset x F d) H⟩
noncomputable def xGZ (t : XV) (w : Bool) (f : OpC) : XR := ⟨fun c k S F H => wantK (t.f S F) w (f.f c S F H fun _ H => k S F H) (k S F H)⟩
noncomputable def xGN (t : XV) (w : Bool) (f : OpC) : XR := ⟨fun c k S F H => wantK (t.f S F) w (f.f c S F H fun x H => k (x :: S) F H) (k (uA :: S) F H)⟩
noncomputable def xGD (t : XV) (w : Bool) (d : Pa) (f : OpC) : XR := ⟨fun c k S F H => wantK (t.f S F) w (f.f c S F H fun x H => k S (fset x F d) H) (k S (fset uA F d) H)⟩
/-- Where a result goes: nowhere, on the stack, into a kept slot. -/
inductive Ds where
  | no
  | push (d : Nat)
  | kept (d : Nat) (p : Pa)
noncomputable def dsT (n : Nat) (ks : List Nat) (d : Option Tmp) : Option Ds := match d with
  | none => some .no
  | some d => (match idx d ks 0 with
    | some i => some (.kept d (pa 20 i))
    | none => if d < n then some (.push d) else none)
noncomputable def paB : Pa → Pa → Bool := Pa.rec (fun q => Pa.rec true (fun _ _ => false) (fun _ _ => false) q) (fun _ ih q => Pa.rec false (fun q _ => ih q) (fun _ _ => false) q) (fun _ ih q => Pa.rec false (fun _ _ => false) (fun q _ => ih q) q)
theorem paB_rfl : ∀ p : Pa, paB p p = true
  | .z => rfl
  | .l p => paB_rfl p
  | .r p => paB_rfl p
noncomputable def isKp (p : Pa) (l : Loc) : Bool := match l with | .kp q => paB q p | _ => false
noncomputable def noKp (p : Pa) (en : List (Nat × Loc)) : Bool := List.rec true (fun q _ ih => Bool.rec ih false (isKp p q.2)) en
theorem noKp_ok {p : Pa} : ∀ {en : List (Nat × Loc)}, noKp p en = true → ∀ q ∈ en, q.2 ≠ .kp p
  | x :: en, h, q, hq => by
    replace h : (Bool.rec (noKp p en) false (isKp p x.2) : Bool) = true := h
    cases e : isKp p x.2 with
    | true => rw [e] at h; cases h
    | false =>
      rw [e] at h
      rcases List.mem_cons.1 hq with rfl | hq
      · intro e2
        rw [e2] at e
        replace e : paB p p = false := e
        rw [paB_rfl] at e; cases e
      · exact noKp_ok h q hq
noncomputable def dsE (d : Ds) (en : List (Nat × Loc)) (dep : Nat) : Option (List (Nat × Loc) × Nat) := match d with
  | .no => some (en, dep)
  | .push d => some ((d, .st dep) :: en, dep + 1)
  | .kept _ p => if noKp p en = true then some (en, dep) else none
noncomputable def mkR (g : Option (XV × Bool)) (d : Ds) (f : OpC) : XR := match g with
  | none => (match d with | .no => xZ f | .push _ => xN f | .kept _ p => xD p f)
  | some q => (match d with | .no => xGZ q.1 q.2 f | .push _ => xGN q.1 q.2 f | .kept _ p => xGD q.1 q.2 p f)
/-- The state behind a result. -/
noncomputable def dsS (d : Ds) (x : AV) (S : Sk) : Sk := match d with | .push _ => x :: S | _ => S
noncomputable def dsF (d : Ds) (x : AV) (F : FT) : FT := match d with | .kept _ p => fset x F p | _ => F
theorem keep_kp {ks : List Nat} (hl : ks.length < 1048576) {t d i : Nat} (hd : idx d ks 0 = some i) (h : keep ks t = .kp (pa 20 i)) : t = d := by
  unfold keep at h
  split at h
  · rename_i j hj
    have h := Loc.kp.inj h
    obtain ⟨_, _, a3, a4⟩ := idx_lt hd
    obtain ⟨_, _, b3, b4⟩ := idx_lt hj
    have : j = i := pa_inj (by omega) (by omega) h
    subst this
    rw [a4] at b4
    exact (Option.some.inj b4).symm
  · cases h
theorem loc_push {n : Nat} {ks : List Nat} {en : List (Nat × Loc)} {dep : Nat} (W : WE n ks en dep) (t : Nat) (x : AV) (S : Sk) (F : FT) : locV (dep + 1) (x :: S) F (look ks en t) = locV dep S F (look ks en t) := by
  have key : ∀ l, (∀ i, l = .st i → i < dep) → locV (dep + 1) (x :: S) F l = locV dep S F l := fun l h => by
    cases l with
    | st i =>
      have := h i rfl
      show (x :: S).getD (dep + 1 - 1 - i) .top = S.getD (dep - 1 - i) .top
      rw [show dep + 1 - 1 - i = (dep - 1 - i) + 1 by omega]; rfl
    | kp p => rfl
    | cn v => rfl
  apply key
  intro i e
  rcases look_mem (ks := ks) (t := t) (en := en) with ⟨q, h1, h2, h3⟩ | ⟨h1, h2⟩
  · exact W.sk q h1 i (h3.symm.trans e)
  · rw [h2] at e
    unfold keep at e
    split at e <;> cases e
theorem dst_ok {n : Nat} {ks : List Nat} {en en' : List (Nat × Loc)} {dep dep' : Nat} {o : Option Tmp} {d : Ds} (W : WE n ks en dep) (hd : dsT n ks o = some d) (he : dsE d en dep = some (en', dep')) : WE n ks en' dep' ∧ ∀ S F x, setF (fr n ks en dep S F) o x = fr n ks en' dep' (dsS d x S) (dsF d x F) := by
  unfold dsT at hd
  split at hd
  · obtain rfl := Option.some.inj hd
    simp only [dsE, Option.some.injEq, Prod.mk.injEq] at he
    obtain ⟨rfl, rfl⟩ := he
    exact ⟨W, fun S F x => rfl⟩
  · rename_i dd
    split at hd
    · rename_i i hi
      obtain rfl := Option.some.inj hd
      obtain ⟨h1, h2⟩ := ite_some he
      simp only [Option.some.injEq, Prod.mk.injEq] at h2
      obtain ⟨rfl, rfl⟩ := h2
      refine ⟨W, fun S F x => ?_⟩
      have hdn : dd < n := W.kn _ (idx_lt hi).1
      apply List.ext_getElem?
      intro t
      show ((fr n ks en dep S F).set dd x)[t]? = (fr n ks en dep S (fset x F (pa 20 i)))[t]?
      rw [List.getElem?_set, fr_get, fr_get, fr_len]
      have hdl : look ks en dd = .kp (pa 20 i) := by
        rcases look_mem (ks := ks) (t := dd) (en := en) with ⟨q, q1, q2, q3⟩ | ⟨q1, q2⟩
        · have := (W.ev q q1).2
          rw [q2, hi] at this; cases this
        · rw [q2]; unfold keep; rw [hi]
      by_cases e : dd = t
      · subst e
        rw [if_pos rfl, if_pos hdn, if_pos hdn, hdl]
        simp only [locV, fget_set, if_true]
      · rw [if_neg e]
        by_cases ht : t < n
        · rw [if_pos ht, if_pos ht]
          congr 1
          have key : ∀ l, l ≠ .kp (pa 20 i) → locV dep S F l = locV dep S (fset x F (pa 20 i)) l := fun l hl => by
            cases l with
            | st i => rfl
            | kp p => simp only [locV, fget_set]; rw [if_neg fun e => hl (by rw [e])]
            | cn v => rfl
          apply key
          intro hl
          rcases look_mem (ks := ks) (t := t) (en := en) with ⟨q, q1, q2, q3⟩ | ⟨q1, q2⟩
          · exact noKp_ok h1 q q1 (by rw [← q3, hl])
          · exact e (keep_kp W.kl hi (q2.symm.trans hl)).symm
        · rw [if_neg ht, if_neg ht]
    · rename_i hi
      obtain ⟨h1, h2⟩ := ite_some hd
      obtain rfl := Option.some.inj h2
      simp only [dsE, Option.some.injEq, Prod.mk.injEq] at he
      obtain ⟨rfl, rfl⟩ := he
      refine ⟨⟨W.kn, W.kl, fun q hq => ?_, fun q hq j e => ?_⟩, fun S F x => ?_⟩
      · rcases List.mem_cons.1 hq with rfl | hq
        · exact ⟨h1, hi⟩
        · exact W.ev q hq
      · rcases List.mem_cons.1 hq with rfl | hq
        · have := Loc.st.inj e; omega
        · have := W.sk q hq j e; omega
      · apply List.ext_getElem?
        intro t
        show ((fr n ks en dep S F).set dd x)[t]? = (fr n ks ((dd, .st dep) :: en) (dep + 1) (x :: S) F)[t]?
        rw [List.getElem?_set, fr_get, fr_get, fr_len]
        by_cases e : dd = t
        · subst e
          rw [if_pos rfl, if_pos h1, if_pos h1, look_cons, if_pos rfl]
          simp only [locV]
          rw [show dep + 1 - 1 - dep = 0 by omega]; rfl
        · rw [if_neg e, look_cons, if_neg e, loc_push W]
end Go.Proofs.YtlgdojkmbfbnjaaGreatDoor

namespace Go.Proofs.YtlgdojkmbfbnjaaGreatDoor
open Go.RowKit

def regG {P : Program} (M : Mch P) (ops : Array Oper) : List Oper → List AV → AS → (List AV → AS → Prop) → Prop
  | [], F, H, K => K F H
  | o :: r, F, H, K => bo (gdA ops F o) fun b => if b then M.st o F H fun x H' => regG M ops r (setF F o.dst x) H' K else regG M ops r (setF F o.dst (.vl undef)) H K
theorem regG_ok {P : Program} {M : Mch P} {ops : Array Oper} {Q : Exit → Act → World → Prop} : ∀ {l : List Oper} {F : List AV} {H : AS} {K : List AV → AS → Prop} {g : Gh} {w : World} {a : Act}, regG M ops l F H K → RelF g F a → RelH g H w →
    (∀ F' H' g' a' w', g.le g' → RelF g' F' a' → RelH g' H' w' → TX g w g' w' → EX g H g' H' → K F' H' → Q .normal a' w') → wpList P ops Q l a w
  | [], F, H, K, g, w, a, h, f, R, k => k _ _ _ _ _ .rfl f R .rfl .rfl h
  | o :: r, F, H, K, g, w, a, h, f, R, k => by
    rw [regG] at h
    obtain ⟨b, hb, h⟩ := bo_iff h
    have hw := gdA_ok hb f
    rw [wpList]
    cases b
    · rw [if_neg (by rw [hw]; simp)]
      exact regG_ok (by simpa using h) (f.setF (by rw [V])) R k
    · rw [if_pos hw]
      refine .inl (M.st_ok (by simpa using h) f R fun x H' g' w' v q1 q2 q3 q4 q5 q6 => ?_)
      exact regG_ok q6 ((f.mono q1).setF q3) q2 fun F2 H2 g2 a2 w2 r1 r2 r3 r4 r5 r6 => k _ _ _ _ _ (q1.trans r1) r2 r3 (q4.trans r4) (q5.trans r5) r6
/-- A guard, as it is to be reckoned. -/
noncomputable def gdT (ks : List Nat) (en : List (Nat × Loc)) (dep : Nat) (ops : Array Oper) (o : Oper) : Option (Option (XV × Bool)) := match o.guard with
  | none => some none
  | some q => (match (ops[q.1]?).bind (·.dst) with
    | some d => some (some (xL dep (look ks en d), q.2))
    | none => none)
noncomputable def isNn (o : Option Nat) : Bool := Option.rec true (fun _ => false) o
theorem isNn_ok {o : Option Nat} (h : isNn o = true) : o = none := by
  cases o with
  | none => rfl
  | some _ => cases h
noncomputable def dstK (p : Pa) (ks : List Nat) (d : Option Tmp) : Bool := match d with | some d => isKp p (keep ks d) | none => false
/-- Nothing that comes writes the kept slot. -/
noncomputable def freeK (p : Pa) (ks : List Nat) (l : List Oper) : Bool := List.rec true (fun o _ ih => Bool.rec ih false (dstK p ks o.dst)) l
/-- A move without a guard into a slot that is not kept: no more than a name. -/
noncomputable def alT (n : Nat) (ks : List Nat) (en : List (Nat × Loc)) (rest : List Oper) (o : Oper) : Option (Nat × Loc) := match o.guard with
  | some _ => none
  | none => (match o.dst with
    | none => none
    | some d => bif Nat.blt d n && isNn (idx d ks 0) then (match (match o.op with | .move x => some x | .assign x => some x | _ => none) with
      | some x => (match x with
        | .tmp t => (match look ks en t with
          | .kp p => bif freeK p ks rest then some (d, .kp p) else none
          | l => some (d, l))
        | .const v => some (d, .cn (cst v))
        | .func f => some (d, .cn (.fn f []))
        | .global g => some (d, .cn (match gv g with | some x => .pi x 0 | none => .top)))
      | none => none) else none)
noncomputable def badR : XR := ⟨fun _ _ _ _ _ => none⟩
noncomputable def cmpX (P : Program) (n : Nat) (ks : List Nat) (ops : Array Oper) (en : List (Nat × Loc)) (dep : Nat) (o : Oper) : Option (XR × List (Nat × Loc) × Nat) := match cmpO P (opV ks en dep) o, gdT ks en dep ops o, dsT n ks o.dst with
  | some f, some g, some d => (match dsE d en dep with | some e => some (mkR g d f, e) | none => none)
  | _, _, _ => none
noncomputable def cmpL (P : Program) (n : Nat) (ks : List Nat) (ops : Array Oper) : List Oper → List (Nat × Loc) → Nat → List XR
  | [], _, _ => []
  | o :: r, en, dep => (match alT n ks en r o with
    | some q => cmpL P n ks ops r (q :: en) dep
    | none => (match cmpX P n ks ops en dep o with
      | some q => q.1 :: cmpL P n ks ops r q.2.1 q.2.2
      | none => [badR]))
noncomputable def runL (c : CL) (N : FT → HP → R) (l : List XR) : KS := List.rec (fun _ F H => N F H) (fun x _ ih => x.f c ih) l
section
variable {P : Program} {X : ExtOk P} {n : Nat} {ks : List Nat} {ops : Array Oper} {c : CL} {N : FT → HP → R} {r : AV × HP}
/-- What a region leaves. -/
def EndR (n : Nat) (ks : List Nat) (N : FT → HP → R) (r : AV × HP) (Fr : List AV) (H' : AS) : Prop := ∃ en dep S F h, Fr = fr n ks en dep S F ∧ WE n ks en dep ∧ asH h = H' ∧ WH h ∧ N F h = some r
theorem want_ok {x : AV} {w : Bool} {a b : R} (h : wantK x w a b = some r) : ((∃ t, x = .vl (.bool t) ∧ t = w) ∧ a = some r) ∨ (((∃ t, x = .vl (.bool t) ∧ t ≠ w) ∨ ∃ cs, x = .vl (.tuple cs)) ∧ b = some r) := by
  unfold wantK at h
  split at h
  · split at h
    · rename_i t
      cases t <;> cases w
      · exact .inl ⟨⟨_, rfl, rfl⟩, h⟩
      · exact .inr ⟨.inl ⟨_, rfl, by decide⟩, h⟩
      · exact .inr ⟨.inl ⟨_, rfl, by decide⟩, h⟩
      · exact .inl ⟨⟨_, rfl, rfl⟩, h⟩
    · exact .inr ⟨.inr ⟨_, rfl⟩, h⟩
    · cases h
  · cases h
theorem cmpX_ok (hC : CLok P c) {en en' : List (Nat × Loc)} {dep dep' : Nat} {S : Sk} {F : FT} {h : HP} {o : Oper} {x : XR} {k : KS} (W : WE n ks en dep) (WH0 : WH h) (hx : cmpX P n ks ops en dep o = some (x, en', dep')) (hr : x.f c k S F h = some r) {K : List AV → AS → Prop}
    (q : ∀ S' F' h', WH h' → WE n ks en' dep' → k S' F' h' = some r → K (fr n ks en' dep' S' F') (asH h')) :
    bo (gdA ops (fr n ks en dep S F) o) fun b => if b then stE P o (fr n ks en dep S F) (asH h) fun y H' => K (setF (fr n ks en dep S F) o.dst y) H' else K (setF (fr n ks en dep S F) o.dst (.vl undef)) (asH h) := by
  unfold cmpX at hx
  split at hx
  · rename_i f g d hf hg hd
    split at hx
    · rename_i e he
      simp only [Option.some.injEq, Prod.mk.injEq] at hx
      obtain ⟨rfl, rfl, rfl⟩ := hx
      obtain ⟨W2, hset⟩ := dst_ok W hd he
      have ok := cmpO_ok (Fr := fr n ks en dep S F) (opV_eq W) WH0 hC hf
      have run : (f.f c S F h fun y h' => k (dsS d y S) (dsF d y F) h') = some r → stE P o (fr n ks en dep S F) (asH h) fun y H' => K (setF (fr n ks en dep S F) o.dst y) H' := fun hr =>
        ok.st WH0 hr fun y h' w1 w2 => by rw [hset]; exact q _ _ _ w1 W2 w2
      have skip : k (dsS d uA S) (dsF d uA F) h = some r → K (setF (fr n ks en dep S F) o.dst (.vl undef)) (asH h) := fun hr => by
        rw [hset]; exact q _ _ _ WH0 W2 hr
      unfold gdT at hg
      split at hg
      · rename_i e1
        obtain rfl := Option.some.inj hg
        have : gdA ops (fr n ks en dep S F) o = some true := by unfold gdA; rw [e1]
        rw [this]
        refine run ?_
        cases d <;> exact hr
      · rename_i qq e1
        split at hg
        · rename_i dd hdd
          obtain rfl := Option.some.inj hg
          have hr2 : wantK ((xL dep (look ks en dd)).f S F) qq.2 (f.f c S F h fun y h' => k (dsS d y S) (dsF d y F) h') (k (dsS d uA S) (dsF d uA F) h) = some r := by
            cases d <;> exact hr
          rw [xL_eq, tv_eq W] at hr2
          have hg : gdA ops (fr n ks en dep S F) o = (match (fr n ks en dep S F).getD dd .top with | .vl (.bool b) => some (b == qq.2) | .vl (.tuple _) => some false | _ => none) := by
            unfold gdA
            rw [e1]
            simp only [hdd]
            rfl
          rcases want_ok hr2 with ⟨⟨t, h1, h2⟩, h3⟩ | ⟨h1, h3⟩
          · rw [hg, h1]
            subst h2
            simp only [beq_self_eq_true]
            exact run h3
          · rw [hg]
            rcases h1 with ⟨t, h1, h2⟩ | ⟨cs, h1⟩
            · rw [h1]
              have : (t == qq.2) = false := by simpa using h2
              simp only [this]
              exact skip h3
            · rw [h1]
              exact skip h3
        · cases hg
    · cases hx
  · cases hx
theorem alT_ok {en : List (Nat × Loc)} {dep : Nat} {rest : List Oper} {o : Oper} {q : Nat × Loc} (W : WE n ks en dep) (h : alT n ks en rest o = some q) : WE n ks (q :: en) dep ∧ o.guard = none ∧ ∀ S F H, ∃ y, valE P o (fr n ks en dep S F) H = some y ∧ setF (fr n ks en dep S F) o.dst y = fr n ks (q :: en) dep S F := by
  unfold alT at h
  split at h
  · cases h
  · rename_i hg
    split at h
    · cases h
    · rename_i d hd
      obtain ⟨h12, h3⟩ := cond_some h
      rw [Bool.and_eq_true, blt_iff] at h12
      have h1 := h12.1
      have h2 := isNn_ok h12.2
      split at h3
      · rename_i x hx
        have hop : o.op = .move x ∨ o.op = .assign x := by
          split at hx
          · rename_i e; obtain rfl := Option.some.inj hx; exact .inl e
          · rename_i e; obtain rfl := Option.some.inj hx; exact .inr e
          · cases hx
        have fin : ∀ (l : Loc), (∀ i, l = .st i → i < dep) → (∀ S F, locV dep S F l = evA (fr n ks en dep S F) x) → WE n ks ((d, l) :: en) dep ∧ o.guard = none ∧ ∀ S F H, ∃ y, valE P o (fr n ks en dep S F) H = some y ∧ setF (fr n ks en dep S F) o.dst y = fr n ks ((d, l) :: en) dep S F := fun l hl hv => by
          refine ⟨⟨W.kn, W.kl, fun q hq => ?_, fun q hq j e => ?_⟩, hg, fun S F H => ⟨evA (fr n ks en dep S F) x, ?_, ?_⟩⟩
          · rcases List.mem_cons.1 hq with rfl | hq
            · exact ⟨h1, h2⟩
            · exact W.ev q hq
          · rcases List.mem_cons.1 hq with rfl | hq
            · exact hl j e
            · exact W.sk q hq j e
          · unfold valE
            rcases hop with e | e <;> rw [e]
          · rw [hd]
            apply List.ext_getElem?
            intro t
            show ((fr n ks en dep S F).set d _)[t]? = _
            rw [List.getElem?_set, fr_get, fr_get, fr_len]
            by_cases e : d = t
            · subst e
              rw [if_pos rfl, if_pos h1, if_pos h1, look_cons, if_pos rfl, hv]
            · rw [if_neg e, look_cons, if_neg e]
        split at h3
        · rename_i t
          have hv : ∀ S F, locV dep S F (look ks en t) = evA (fr n ks en dep S F) (.tmp t) := fun S F => tv_eq W t
          have hl : ∀ i, look ks en t = .st i → i < dep := fun i e => by
            rcases look_mem (ks := ks) (t := t) (en := en) with ⟨q, q1, q2, q3⟩ | ⟨q1, q2⟩
            · exact W.sk q q1 i (q3.symm.trans e)
            · rw [q2] at e
              unfold keep at e
              split at e <;> cases e
          split at h3
          · rename_i p hp
            obtain ⟨_, h4⟩ := cond_some h3
            obtain rfl := Option.some.inj h4
            rw [← hp]
            exact fin _ hl hv
          · obtain rfl := Option.some.inj h3
            exact fin _ hl hv
        · obtain rfl := Option.some.inj h3
          exact fin _ (fun i e => by cases e) fun S F => rfl
        · obtain rfl := Option.some.inj h3
          exact fin _ (fun i e => by cases e) fun S F => rfl
        · obtain rfl := Option.some.inj h3
          exact fin _ (fun i e => by cases e) fun S F => rfl
      · cases h3
theorem runL_ok (hC : CLok P c) : ∀ {l : List Oper} {en : List (Nat × Loc)} {dep : Nat} {S : Sk} {F : FT} {h : HP}, WE n ks en dep → WH h → runL c N (cmpL P n ks ops l en dep) S F h = some r → regG (mE P X) ops l (fr n ks en dep S F) (asH h) (EndR n ks N r)
  | [], en, dep, S, F, h, W, w, hr => ⟨en, dep, S, F, h, rfl, W, rfl, w, hr⟩
  | o :: l, en, dep, S, F, h, W, w, hr => by
    rw [cmpL] at hr
    rw [regG]
    split at hr
    · rename_i q hq
      obtain ⟨W2, hg, hv⟩ := alT_ok (P := P) W hq
      obtain ⟨y, h1, h2⟩ := hv S F (asH h)
      have : gdA ops (fr n ks en dep S F) o = some true := by unfold gdA; rw [hg]
      rw [this]
      refine (mE P X).val_st h1 ?_
      rw [h2]
      exact runL_ok hC W2 w hr
    · split at hr
      · rename_i q hq
        obtain ⟨x, en', dep'⟩ := q
        exact cmpX_ok (K := fun Fr H' => regG (mE P X) ops l Fr H' (EndR n ks N r)) hC W w hq hr fun S' F' h' w1 W2 w2 => runL_ok hC W2 w1 w2
      · cases hr
/-- The frame behind a region. -/
theorem fr_end {en : List (Nat × Loc)} {dep : Nat} {S : Sk} {F : FT} {g : Gh} {a : Act} (W : WE n ks en dep) (f : RelF g (fr n ks en dep S F) a) : RelF g (fr n ks [] 0 [] F) a := by
  refine ⟨f.gl, f.df, f.sz.trans (by rw [fr_len, fr_len]), fun t x e => ?_⟩
  rw [fr_get] at e
  obtain ⟨ht, e⟩ := ite_some e
  obtain rfl := Option.some.inj e
  have h2 := f.at' t _ (by rw [fr_get, if_pos ht])
  cases hk : idx t ks 0 with
  | none =>
    have : look ks [] t = .cn .top := by rw [look_nil]; unfold keep; rw [hk]
    rw [this]
    show V .top _ _
    rw [V]; trivial
  | some i =>
    rcases look_mem (ks := ks) (t := t) (en := en) with ⟨q, q1, q2, q3⟩ | ⟨q1, q2⟩
    · have := (W.ev q q1).2
      rw [q2, hk] at this; cases this
    · rw [q2] at h2
      have e1 : look ks [] t = .kp (pa 20 i) := by rw [look_nil]; unfold keep; rw [hk]
      have e2 : keep ks t = .kp (pa 20 i) := by unfold keep; rw [hk]
      rw [e1]
      rw [e2] at h2
      exact h2
end
end Go.Proofs.YtlgdojkmbfbnjaaGreatDoor

namespace Go.Proofs.YtlgdojkmbfbnjaaGreatDoor
open Go.RowKit

/-! The same value. -/
def sameV (a b : Value) : Bool := match a with
  | .int k m => (match b with | .int k' n => if k = k' then iBeq m n else false | _ => false)
  | .string s => (match b with | .string t => bEq s.data.toList t.data.toList | _ => false)
  | .bool p => (match b with | .bool q => p == q | _ => false)
  | .slice none 0 0 => (match b with | .slice none 0 0 => true | _ => false)
  | .pointer none => (match b with | .pointer none => true | _ => false)
  | .map none => (match b with | .map none => true | _ => false)
  | .nilFunc => (match b with | .nilFunc => true | _ => false)
  | _ => false
theorem sameV_ok {a b : Value} (h : sameV a b = true) : a = b := by
  unfold sameV at h
  split at h
  · split at h
    · split at h
      · subst_vars
        rw [iBeq_eq, beq_iff_eq] at h
        rw [h]
      · cases h
    · cases h
  · split at h
    · rename_i s _ t
      rw [bEq_iff] at h
      have : s = t := by obtain ⟨⟨a⟩⟩ := s; obtain ⟨⟨b⟩⟩ := t; have h : a = b := h; rw [h]
      rw [this]
    · cases h
  · split at h
    · rw [beq_iff_eq] at h; rw [h]
    · cases h
  all_goals first
    | (split at h <;> first | rfl | cases h)
    | cases h
def sameL (f : AV → AV → Bool) : List AV → List AV → Bool
  | [], [] => true
  | x :: l, y :: m => f x y && sameL f l m
  | _, _ => false
def sameB (f : AV → AV → Bool) (a b : AV) : Bool := match a with
  | .vl u => (match b with | .vl v => sameV u v | _ => false)
  | .ag l => (match b with | .ag m => sameL f l m | _ => false)
  | .tu l => (match b with | .tu m => sameL f l m | _ => false)
  | .im c l => (match b with | .im c' m => Nat.beq c c' && sameL f l m | _ => false)
  | .rf c k r o n => (match b with | .rf c' k' r' o' n' => Nat.beq c c' && Nat.beq k k' && Nat.beq r r' && Nat.beq o o' && Nat.beq n n' | _ => false)
  | .rl c k r o n => (match b with | .rl c' k' r' o' n' => Nat.beq c c' && Nat.beq k k' && Nat.beq r r' && Nat.beq o o' && Nat.beq n n' | _ => false)
  | .pt c k r o n => (match b with | .pt c' k' r' o' n' => Nat.beq c c' && Nat.beq k k' && Nat.beq r r' && Nat.beq o o' && Nat.beq n n' | _ => false)
  | .pi e j => (match b with | .pi e' j' => f e e' && Nat.beq j j' | _ => false)
  | .mr k => (match b with | .mr k' => Nat.beq k k' | _ => false)
  | .fn g l => (match b with | .fn g' m => Nat.beq g g' && sameL f l m | _ => false)
  | .fb g l => (match b with | .fb g' m => Nat.beq g g' && sameL f l m | _ => false)
  | _ => false
def sameA : Nat → AV → AV → Bool
  | 0, _, _ => false
  | d + 1, a, b => sameB (sameA d) a b
theorem sameL_ok {f : AV → AV → Bool} (hf : ∀ a b, f a b = true → a = b) : ∀ {l m : List AV}, sameL f l m = true → l = m
  | [], [], _ => rfl
  | x :: l, y :: m, h => by
    rw [sameL, Bool.and_eq_true] at h
    rw [hf _ _ h.1, sameL_ok hf h.2]
  | [], _ :: _, h => by cases h
  | _ :: _, [], h => by cases h
theorem sameA_ok : ∀ {d : Nat} {a b : AV}, sameA d a b = true → a = b
  | 0, _, _, h => by cases h
  | d + 1, a, b, h => by
    rw [sameA] at h
    unfold sameB at h
    split at h
    · split at h
      · rw [sameV_ok h]
      · cases h
    · split at h
      · rw [sameL_ok (fun _ _ => sameA_ok) h]
      · cases h
    · split at h
      · rw [sameL_ok (fun _ _ => sameA_ok) h]
      · cases h
    · split at h
      · rw [Bool.and_eq_true, beq_iff] at h
        rw [h.1, sameL_ok (fun _ _ => sameA_ok) h.2]
      · cases h
    · split at h
      · simp only [Bool.and_eq_true, beq_iff] at h
        obtain ⟨⟨⟨⟨rfl, rfl⟩, rfl⟩, rfl⟩, rfl⟩ := h; rfl
      · cases h
    · split at h
      · simp only [Bool.and_eq_true, beq_iff] at h
        obtain ⟨⟨⟨⟨rfl, rfl⟩, rfl⟩, rfl⟩, rfl⟩ := h; rfl
      · cases h
    · split at h
      · simp only [Bool.and_eq_true, beq_iff] at h
        obtain ⟨⟨⟨⟨rfl, rfl⟩, rfl⟩, rfl⟩, rfl⟩ := h; rfl
      · cases h
    · split at h
      · rw [Bool.and_eq_true, beq_iff] at h
        rw [sameA_ok h.1, h.2]
      · cases h
    · split at h
      · rw [beq_iff] at h
        rw [h]
      · cases h
    · split at h
      · rw [Bool.and_eq_true, beq_iff] at h
        rw [h.1, sameL_ok (fun _ _ => sameA_ok) h.2]
      · cases h
    · split at h
      · rw [Bool.and_eq_true, beq_iff] at h
        rw [h.1, sameL_ok (fun _ _ => sameA_ok) h.2]
      · cases h
    · cases h
def sameE (a b : EO) : Bool := match a with
  | .row T c n l live => (match b with | .row T' c' n' l' live' => Nat.beq T T' && Nat.beq c c' && Nat.beq n n' && sameL (sameA 20) l l' && (live == live') | _ => false)
  | _ => false
theorem sameE_ok {H H' : HP} {k : Nat} (W : WH H) (W' : WH H') (h : sameE (hget H k) (hget H' k) = true) : (asH H')[k]? = (asH H)[k]? := by
  unfold sameE at h
  split at h
  · rename_i T c n l live e1
    split at h
    · rename_i T' c' n' l' live' e2
      simp only [Bool.and_eq_true, beq_iff, beq_iff_eq] at h
      obtain ⟨⟨⟨⟨rfl, rfl⟩, rfl⟩, h4⟩, rfl⟩ := h
      rw [sameL_ok (fun _ _ => sameA_ok) h4] at e1
      rw [as_get W e1 (by simp), as_get W' e2 (by simp)]
    · cases h
  · cases h
/-- Two stores into two objects: in either order. -/
theorem wrA_comm {H H1 H2 : AS} {p q x y : AV} {m n : Nat} {c k r i j c' k' r' i' j' : Nat} (hp : p = .pt c k r i j) (hq : q = .pt c' k' r' i' j') (hk : k ≠ k') (h1 : wrA H p x m = some H1) (h2 : wrA H1 q y n = some H2) : ∃ H3, wrA H q y n = some H3 ∧ wrA H3 p x m = some H2 := by
  subst hp hq
  have one : ∀ {H H' : AS} {c k r i j : Nat} {x : AV} {m : Nat}, wrA H (.pt c k r i j) x m = some H' → ∃ o, H' = H.set k o ∧ ∀ G : AS, G[k]? = H[k]? → wrA G (.pt c k r i j) x m = some (G.set k o) := fun {H H' c k r i j x m} h => by
    unfold wrA at h
    simp only at h
    split at h
    · rename_i T c' l hf e
      split at h
      · rename_i x0 hx
        obtain ⟨hh, h3⟩ := ite_some h
        refine ⟨_, (Option.some.inj h3).symm, fun G hG => ?_⟩
        unfold wrA
        simp only [hG, e, hx]
        rw [if_pos hh]
      · cases h
    · cases h
  obtain ⟨o, rfl, e1⟩ := one h1
  obtain ⟨o', rfl, e2⟩ := one h2
  refine ⟨H.set k' o', e2 H (by rw [List.getElem?_set_ne hk]), ?_⟩
  rw [e1 (H.set k' o') (by rw [List.getElem?_set_ne hk.symm]), List.set_comm _ _ hk]
end Go.Proofs.YtlgdojkmbfbnjaaGreatDoor

namespace Go.Proofs.YtlgdojkmbfbnjaaGreatDoor
open Go.RowKit

/-- What must be looked at again behind a thing that turns objects. -/
structure PE where
  i : Nat
  g : HP → HP → Bool
abbrev KP := List PE → Sk → FT → HP → R
structure XP where
  f : CL → KP → KP
noncomputable def gdW (g : Option (XV × Bool)) (S : Sk) (F : FT) (a b : R) : R := match g with
  | none => a
  | some q => wantK (q.1.f S F) q.2 a b
noncomputable def xP0 (g : Option (XV × Bool)) (d : Ds) (f : OpC) : XP := ⟨fun c k pd S F H => gdW g S F (f.f c S F H fun x H' => k pd (dsS d x S) (dsF d x F) H') (k pd (dsS d uA S) (dsF d uA F) H)⟩
noncomputable def reK (f : OpC) (c : CL) (S : Sk) (F : FT) (x : AV) (H2 : HP) : Bool := match f.f c S F H2 (fun y _ => bif sameA 20 y x then some (uA, H2) else none) with
  | some _ => true
  | none => false
noncomputable def xP1 (i : Nat) (g : Option (XV × Bool)) (d : Ds) (f : OpC) : XP := ⟨fun c k pd S F H => gdW g S F (f.f c S F H fun x H' => k (⟨i, fun _ H2 => reK f c S F x H2⟩ :: pd) (dsS d x S) (dsF d x F) H') (k pd (dsS d uA S) (dsF d uA F) H)⟩
noncomputable def xP2 (i : Nat) (g : Option (XV × Bool)) (d : Ds) (f : OpC) : XP := ⟨fun c k pd S F H => gdW g S F (f.f c S F H fun x H' => k (⟨i, fun H1 H2 => sameE (hget H1 H.n) (hget H2 H.n)⟩ :: pd) (dsS d x S) (dsF d x F) H') (k pd (dsS d uA S) (dsF d uA F) H)⟩
def memN (i : Nat) : List Nat → Bool
  | [] => false
  | j :: l => Nat.beq i j || memN i l
noncomputable def ckP (L : List Nat) (H H' : HP) (pd : List PE) : Bool := List.rec true (fun e _ r => bif memN e.i L then (bif e.g H H' then r else false) else r) pd
noncomputable def xP3 (L : List Nat) (g : Option (XV × Bool)) (d : Ds) (f : OpC) : XP := ⟨fun c k pd S F H => gdW g S F (f.f c S F H fun x H' => bif ckP L H H' pd then k pd (dsS d x S) (dsF d x F) H' else none) (k pd (dsS d uA S) (dsF d uA F) H)⟩
/-- Two objects. -/
def dj (x y : AV) : Bool := match x with
  | .pt _ k _ _ _ => (match y with | .pt _ k' _ _ _ => !(Nat.beq k k') | _ => false)
  | _ => false
noncomputable def xP4 (p q : XV) (f : OpC) : XP := ⟨fun c k pd S F H => bif dj (p.f S F) (q.f S F) then f.f c S F H fun _ H' => k pd S F H' else none⟩
noncomputable def badP : XP := ⟨fun _ _ _ _ _ _ => none⟩
def kdI (P : Program) (ops : Array Oper) (i : Nat) : Nat := match ops[i]? with
  | some o => kdE P o.op
  | none => 0
def lstD (P : Program) (ops : Array Oper) (pm : List Nat) (w : Nat) (dn : List Nat) : List Nat := dn.filter fun e => (Nat.beq (kdI P ops e) 1 || Nat.beq (kdI P ops e) 2) && !bit pm w e
def needD (P : Program) (ops : Array Oper) (pm : List Nat) (e : Nat) (s : List Nat) : Bool := s.any fun w => Nat.beq (kdI P ops w) 3 && !bit pm w e
/-- Whether the last two are stores that come in either order. -/
inductive Sw where
  | no
  | bad
  | yes (p q : Operand)
def swD (P : Program) (ops : Array Oper) (pm : List Nat) (i : Nat) (o : Oper) (s dn : List Nat) : Sw := match s with
  | [j] => if bit pm j i = true then .no else (match ops[j]? with
    | none => .bad
    | some o' => (match o.op with
      | .store _ p _ => (match o'.op with
        | .store _ p' _ => (match o.guard, o'.guard, o.dst, o'.dst with
          | none, none, none, none => (match lstD P ops pm i dn, lstD P ops pm j dn with
            | [], [] => .yes p p'
            | _, _ => .bad)
          | _, _, _, _ => .bad)
        | _ => .bad)
      | _ => .bad))
  | _ => .no
noncomputable def mkP (P : Program) (ks : List Nat) (ops : Array Oper) (pm : List Nat) (en : List (Nat × Loc)) (dep i : Nat) (o : Oper) (s dn : List Nat) (g : Option (XV × Bool)) (d : Ds) (f : OpC) : XP := match kdE P o.op with
  | 3 => (match swD P ops pm i o s dn with
    | .no => xP3 (lstD P ops pm i dn) g d f
    | .bad => badP
    | .yes p q => xP4 (opV ks en dep p) (opV ks en dep q) f)
  | 2 => bif needD P ops pm i s then xP2 i g d f else xP0 g d f
  | _ => bif needD P ops pm i s then xP1 i g d f else xP0 g d f
noncomputable def cmpD (P : Program) (n : Nat) (ks : List Nat) (ops : Array Oper) (pm : List Nat) : List Nat → List Nat → List (Nat × Loc) → Nat → List XP
  | [], _, _, _ => []
  | i :: s, dn, en, dep => (match ops[i]? with
    | none => [badP]
    | some o => (match alT n ks en (s.filterMap fun j => ops[j]?) o with
      | some q => cmpD P n ks ops pm s (i :: dn) (q :: en) dep
      | none => (match cmpO P (opV ks en dep) o, gdT ks en dep ops o, dsT n ks o.dst with
        | some f, some g, some d => (match dsE d en dep with
          | some e => mkP P ks ops pm en dep i o s dn g d f :: cmpD P n ks ops pm s (i :: dn) e.1 e.2
          | none => [badP])
        | _, _, _ => [badP])))
noncomputable def runQ (c : CL) (N : FT → HP → R) (l : List XP) : KP := List.rec (fun _ _ F H => N F H) (fun x _ ih => x.f c ih) l
theorem memN_of {i : Nat} : ∀ {l : List Nat}, i ∈ l → memN i l = true
  | j :: l, h => by
    rw [memN, Bool.or_eq_true, beq_iff]
    rcases List.mem_cons.1 h with h | h
    · exact .inl h
    · exact .inr (memN_of h)
theorem ckP_of {L : List Nat} {H H' : HP} : ∀ {pd : List PE}, ckP L H H' pd = true → ∀ e ∈ pd, memN e.i L = true → e.g H H' = true
  | p :: pd, h, e, he, hm => by
    replace h : (bif memN p.i L then (bif p.g H H' then ckP L H H' pd else false) else ckP L H H' pd) = true := h
    rcases List.mem_cons.1 he with rfl | he
    · rw [hm] at h
      cases hg : e.g H H' with
      | true => rfl
      | false => rw [hg] at h; cases h
    · refine ckP_of ?_ e he hm
      cases h1 : memN p.i L with
      | false => rw [h1] at h; exact h
      | true =>
        rw [h1] at h
        cases h2 : p.g H H' with
        | false => rw [h2] at h; cases h
        | true => rw [h2] at h; exact h
section
variable {P : Program} {X : ExtOk P} {n : Nat} {ks : List Nat} {ops : Array Oper} {pm : List Nat} {c : CL} {N : FT → HP → R} {r : AV × HP}
theorem ckLA_of {M : Mch P} {w : Nat} {H H' : AS} : ∀ {l : List EntA}, (∀ e ∈ l, e.wt = true → bit pm w e.i = false → ck1 M ops H H' e) → ckLA M ops pm w H H' l
  | [], _ => trivial
  | a :: l, h => by
    rw [ckLA]
    split
    · rename_i hh
      rw [Bool.and_eq_true, Bool.not_eq_true'] at hh
      exact ⟨h a List.mem_cons_self hh.1 hh.2, ckLA_of fun e he => h e (List.mem_cons_of_mem _ he)⟩
    · exact ckLA_of fun e he => h e (List.mem_cons_of_mem _ he)
/-- What is looked at again suffices. -/
def PdOk (X : ExtOk P) (ops : Array Oper) (pm : List Nat) (s dn : List Nat) (pes : List PE) (pd : List EntA) : Prop := ∀ e ∈ pd, e.i ∈ dn ∧ (e.wt = true → (kdI P ops e.i = 1 ∨ kdI P ops e.i = 2) → (∀ w ∈ s, kdI P ops w = 3 → bit pm w e.i = true) ∨ ∃ pe ∈ pes, pe.i = e.i ∧ ∀ H H', WH H → WH H' → pe.g H H' = true → ck1 (mE P X) ops (asH H) (asH H') e)
theorem PdOk.tail {i : Nat} {s dn : List Nat} {pes : List PE} {pd : List EntA} (h : PdOk X ops pm (i :: s) dn pes pd) : PdOk X ops pm s (i :: dn) pes pd := fun e he => by
  obtain ⟨h1, h2⟩ := h e he
  exact ⟨List.mem_cons_of_mem _ h1, fun hw hk => (h2 hw hk).imp (fun h w hw => h w (List.mem_cons_of_mem _ hw)) id⟩
theorem PdOk.more {i : Nat} {s dn : List Nat} {pes : List PE} {pd : List EntA} (h : PdOk X ops pm (i :: s) dn pes pd) (p : PE) : PdOk X ops pm (i :: s) dn (p :: pes) pd := fun e he => by
  obtain ⟨h1, h2⟩ := h e he
  exact ⟨h1, fun hw hk => (h2 hw hk).imp id fun ⟨pe, q1, q2⟩ => ⟨pe, List.mem_cons_of_mem _ q1, q2⟩⟩
theorem PdOk.push {i : Nat} {s dn : List Nat} {pes : List PE} {pd : List EntA} {e : EntA} (h : PdOk X ops pm (i :: s) dn pes pd) (he : e.i = i) (hn : e.wt = true → (kdI P ops i = 1 ∨ kdI P ops i = 2) → needD P ops pm i s = false ∨ ∃ pe ∈ pes, pe.i = i ∧ ∀ H H', WH H → WH H' → pe.g H H' = true → ck1 (mE P X) ops (asH H) (asH H') e) : PdOk X ops pm s (i :: dn) pes (e :: pd) := fun e' h' => by
  rcases List.mem_cons.1 h' with rfl | h'
  · refine ⟨by rw [he]; exact List.mem_cons_self, fun hw hk => ?_⟩
    rw [he] at hk ⊢
    refine (hn hw hk).imp (fun h w hw hk => ?_) id
    unfold needD at h
    have := List.any_eq_false.1 h w hw
    simpa [hk, Nat.beq_refl] using this
  · exact h.tail e' h'
theorem ckw {i : Nat} {s dn : List Nat} {pes : List PE} {pd : List EntA} {H H' : HP} (h : PdOk X ops pm (i :: s) dn pes pd) (hk : kdI P ops i = 3) (W : WH H) (W' : WH H') (hc : ckP (lstD P ops pm i dn) H H' pes = true) : ckLA (mE P X) ops pm i (asH H) (asH H') pd := ckLA_of fun e he hw hb => by
  obtain ⟨h1, h2⟩ := h e he
  by_cases hkk : kdI P ops e.i = 1 ∨ kdI P ops e.i = 2
  · rcases h2 hw hkk with h3 | ⟨pe, q1, q2, q3⟩
    · rw [h3 i List.mem_cons_self hk] at hb; cases hb
    · refine q3 H H' W W' (ckP_of hc pe q1 ?_)
      rw [q2]
      refine memN_of (List.mem_filter.2 ⟨h1, ?_⟩)
      rw [hb]
      simp only [Bool.not_false, Bool.and_true, Bool.or_eq_true, beq_iff]
      exact hkk
  · unfold ck1
    split
    · rename_i o ho
      have : kdI P ops e.i = kdE P o.op := by unfold kdI; rw [ho]
      rw [this] at hkk
      split
      · rename_i h; exact absurd (.inl h) hkk
      · rename_i h; exact absurd (.inr h) hkk
      · trivial
    · trivial
end
end Go.Proofs.YtlgdojkmbfbnjaaGreatDoor

namespace Go.Proofs.YtlgdojkmbfbnjaaGreatDoor
open Go.RowKit

section
variable {P : Program} {X : ExtOk P} {n : Nat} {ks : List Nat} {ops : Array Oper} {pm : List Nat} {c : CL} {N : FT → HP → R} {r : AV × HP}
theorem gd_ok {en : List (Nat × Loc)} {dep : Nat} {S : Sk} {F : FT} {o : Oper} {g : Option (XV × Bool)} {a b : R} (W : WE n ks en dep) (hg : gdT ks en dep ops o = some g) (h : gdW g S F a b = some r) : (gdA ops (fr n ks en dep S F) o = some true ∧ a = some r) ∨ (gdA ops (fr n ks en dep S F) o = some false ∧ b = some r) := by
  unfold gdT at hg
  split at hg
  · rename_i e1
    obtain rfl := Option.some.inj hg
    exact .inl ⟨by unfold gdA; rw [e1], h⟩
  · rename_i qq e1
    split at hg
    · rename_i dd hdd
      obtain rfl := Option.some.inj hg
      replace h : wantK ((xL dep (look ks en dd)).f S F) qq.2 a b = some r := h
      rw [xL_eq, tv_eq W] at h
      have hg : gdA ops (fr n ks en dep S F) o = (match (fr n ks en dep S F).getD dd .top with | .vl (.bool b) => some (b == qq.2) | .vl (.tuple _) => some false | _ => none) := by
        unfold gdA
        rw [e1]
        simp only [hdd]
        rfl
      rcases want_ok h with ⟨⟨t, h1, h2⟩, h3⟩ | ⟨h1, h3⟩
      · subst h2
        exact .inl ⟨by rw [hg, h1]; simp, h3⟩
      · refine .inr ⟨?_, h3⟩
        rw [hg]
        rcases h1 with ⟨t, h1, h2⟩ | ⟨cs, h1⟩
        · rw [h1]
          simpa using h2
        · rw [h1]
    · cases hg
theorem re_ok (hC : CLok P c) {en : List (Nat × Loc)} {dep : Nat} {S : Sk} {F : FT} {o : Oper} {f : OpC} (W : WE n ks en dep) (hf : cmpO P (opV ks en dep) o = some f) (hk : kdE P o.op ≠ 2) (hk3 : kdE P o.op ≠ 3) {x : AV} {H' : HP} (W' : WH H') (h : reK f c S F x H' = true) : valE P o (fr n ks en dep S F) (asH H') = some x := by
  unfold reK at h
  split at h
  · rename_i q hq
    have ok := cmpO_ok (Fr := fr n ks en dep S F) (opV_eq W) W' hC hf _ _ hq
    split at ok
    · exact absurd ‹_› hk
    · exact absurd ‹_› hk3
    · obtain ⟨y, h1, h2⟩ := ok
      obtain ⟨h3, _⟩ := cond_some h2
      rw [← sameA_ok h3]; exact h1
  · cases h
theorem swD_ok {i : Nat} {o : Oper} {s dn : List Nat} {p q : Operand} (h : swD P ops pm i o s dn = .yes p q) : ∃ j o' t t' y y', s = [j] ∧ bit pm j i = false ∧ ops[j]? = some o' ∧ o.op = .store t p y ∧ o'.op = .store t' q y' ∧ o.guard = none ∧ o'.guard = none ∧ o.dst = none ∧ o'.dst = none ∧ lstD P ops pm i dn = [] ∧ lstD P ops pm j dn = [] := by
  unfold swD at h
  split at h
  · rename_i j
    split at h
    · cases h
    · rename_i hb
      split at h
      · cases h
      · rename_i o' ho'
        split at h
        · rename_i t p0 y e1
          split at h
          · rename_i t' p0' y' e2
            split at h
            · rename_i a1 a2 a3 a4
              split at h
              · rename_i b1 b2
                obtain ⟨rfl, rfl⟩ := Sw.yes.inj h
                exact ⟨j, o', t, t', y, y', rfl, by simpa using hb, ho', e1, e2, a1, a2, a3, a4, b1, b2⟩
              · cases h
            · cases h
          · cases h
        · cases h
  · cases h
theorem swD_no {i : Nat} {o : Oper} {s dn : List Nat} {pd : List EntA} {F : List AV} {H : AS} {K : List AV → AS → Prop} (h : swD P ops pm i o s dn = .no) : swp (mE P X) ops pm i o s pd F H K := by
  unfold swD at h
  unfold swp
  split at h
  · simp only
    split at h
    · rename_i hb; rw [if_pos hb]; trivial
    · repeat' split at h
      all_goals cases h
  · rename_i hn
    split
    · rename_i j; exact absurd rfl (hn j)
    · trivial
theorem ckv {s dn : List Nat} {pes : List PE} {pd : List EntA} {w : Nat} {H H' : AS} (h : PdOk X ops pm s dn pes pd) (_ : w ∈ s) (_ : kdI P ops w = 3) (hl : lstD P ops pm w dn = []) : ckLA (mE P X) ops pm w H H' pd := ckLA_of fun e he hwt hb => by
  obtain ⟨h1, h2⟩ := h e he
  by_cases hkk : kdI P ops e.i = 1 ∨ kdI P ops e.i = 2
  · exfalso
    have : e.i ∈ lstD P ops pm w dn := List.mem_filter.2 ⟨h1, by
      rw [hb]
      simp only [Bool.not_false, Bool.and_true, Bool.or_eq_true, beq_iff]
      exact hkk⟩
    rw [hl] at this; cases this
  · unfold ck1
    split
    · rename_i o ho
      have : kdI P ops e.i = kdE P o.op := by unfold kdI; rw [ho]
      rw [this] at hkk
      split
      · rename_i h; exact absurd (.inl h) hkk
      · rename_i h; exact absurd (.inr h) hkk
      · trivial
    · trivial
theorem runD_ok (hC : CLok P c) : ∀ {s dn : List Nat} {en : List (Nat × Loc)} {dep : Nat} {S : Sk} {F : FT} {h : HP} {pes : List PE} {pd : List EntA}, WE n ks en dep → WH h → PdOk X ops pm s dn pes pd → runQ c N (cmpD P n ks ops pm s dn en dep) pes S F h = some r → regD (mE P X) ops pm s pd (fr n ks en dep S F) (asH h) (EndR n ks N r)
  | [], dn, en, dep, S, F, h, pes, pd, W, w, hp, hr => ⟨en, dep, S, F, h, rfl, W, rfl, w, hr⟩
  | i :: s, dn, en, dep, S, F, h, pes, pd, W, w, hp, hr => by
    rw [cmpD] at hr
    rw [regD]
    split at hr
    · cases hr
    · rename_i o ho
      have hki : kdI P ops i = kdE P o.op := by unfold kdI; rw [ho]
      simp only [ho]
      split at hr
      · rename_i q hq
        obtain ⟨W2, hg, hv⟩ := alT_ok (P := P) W hq
        obtain ⟨y, h1, h2⟩ := hv S F (asH h)
        have hgd : gdA ops (fr n ks en dep S F) o = some true := by unfold gdA; rw [hg]
        obtain ⟨hk2, hk3⟩ := valE_kd h1
        rw [hgd, bo_some, if_pos rfl]
        have hk0 : kdI P ops i = 0 := by
          rw [hki]
          unfold alT at hq
          split at hq
          · cases hq
          · split at hq
            · cases hq
            · obtain ⟨_, h3⟩ := cond_some hq
              split at h3
              · rename_i x hx
                split at hx
                · rename_i e; rw [e]; rfl
                · rename_i e; rw [e]; rfl
                · cases hx
              · cases h3
        have step : regD (mE P X) ops pm s (⟨i, fr n ks en dep S F, y, 0, true⟩ :: pd) (setF (fr n ks en dep S F) o.dst y) (asH h) (EndR n ks N r) := by
          rw [h2]
          exact runD_ok hC W2 w (hp.push rfl fun _ hk => by rw [hk0] at hk; omega) hr
        split
        · exact absurd ‹_› hk2
        · exact absurd ‹_› hk3
        · exact bob h1 step
      · split at hr
        · rename_i f g d hf hg hd
          split at hr
          · rename_i e he
            obtain ⟨en', dep'⟩ := e
            obtain ⟨W2, hset⟩ := dst_ok W hd he
            have okf := fun (H : HP) (WH0 : WH H) => cmpO_ok (Fr := fr n ks en dep S F) (opV_eq W) WH0 hC hf
            replace hr : (mkP P ks ops pm en dep i o s dn g d f).f c (runQ c N (cmpD P n ks ops pm s (i :: dn) en' dep')) pes S F h = some r := hr
            -- what is skipped
            have skip : runQ c N (cmpD P n ks ops pm s (i :: dn) en' dep') pes (dsS d uA S) (dsF d uA F) h = some r → regD (mE P X) ops pm s (⟨i, fr n ks en dep S F, .vl undef, 0, false⟩ :: pd) (setF (fr n ks en dep S F) o.dst (.vl undef)) (asH h) (EndR n ks N r) := fun hr => by
              rw [hset]
              exact runD_ok hC W2 w (hp.push rfl fun hw => by cases hw) hr
            have next : ∀ {pes' : List PE} {pd' : List EntA} {y : AV} {h' : HP}, WH h' → PdOk X ops pm s (i :: dn) pes' pd' → runQ c N (cmpD P n ks ops pm s (i :: dn) en' dep') pes' (dsS d y S) (dsF d y F) h' = some r → regD (mE P X) ops pm s pd' (setF (fr n ks en dep S F) o.dst y) (asH h') (EndR n ks N r) := fun w' hp' hr => by
              rw [hset]
              exact runD_ok hC W2 w' hp' hr
            unfold mkP at hr
            split at hr
            · rename_i hk
              rw [hk] at hki
              split at hr
              · rename_i hsw
                rcases gd_ok W hg hr with ⟨hga, hr⟩ | ⟨hga, hr⟩
                · rw [hga, bo_some, if_pos rfl]
                  simp only [hk]
                  refine ⟨?_, swD_no hsw⟩
                  refine (okf h w).st w hr fun y h' w' hy => ?_
                  obtain ⟨h1, h2⟩ := cond_some hy
                  exact ⟨.inr (ckw hp hki w w' h1), next w' hp.tail h2⟩
                · rw [hga, bo_some]
                  exact skip hr
              · cases hr
              · rename_i p q hsw
                obtain ⟨j, o', t, t', y, y', rfl, hb, ho', e1, e2, a1, a2, a3, a4, b1, b2⟩ := swD_ok hsw
                have hga : gdA ops (fr n ks en dep S F) o = some true := by unfold gdA; rw [a1]
                have hgb : ∀ Fr, gdA ops Fr o' = some true := fun Fr => by unfold gdA; rw [a2]
                have hgc : ∀ Fr, gdA ops Fr o = some true := fun Fr => by unfold gdA; rw [a1]
                have hkj : kdE P o'.op = 3 := by rw [e2]; rfl
                have hkij : kdI P ops j = 3 := by unfold kdI; rw [ho']; exact hkj
                have hdno : d = .no := by
                  rw [a3] at hd
                  exact (Option.some.inj hd).symm
                subst hdno
                obtain ⟨rfl, rfl⟩ : en' = en ∧ dep' = dep := by
                  simp only [dsE, Option.some.injEq, Prod.mk.injEq] at he
                  exact ⟨he.1.symm, he.2.symm⟩
                replace hr : (bif dj ((opV ks en' dep' p).f S F) ((opV ks en' dep' q).f S F) then f.f c S F h fun _ H' => runQ c N (cmpD P n ks ops pm [j] (i :: dn) en' dep') pes S F H' else none) = some r := hr
                obtain ⟨hdj, hr⟩ := cond_some hr
                rw [opV_eq W, opV_eq W] at hdj
                have hw := okf h w _ _ hr
                rw [hk] at hw
                simp only [wrE, e1] at hw
                obtain ⟨s1, t1, hw⟩ := bo_iff hw
                obtain ⟨H1, t2, h1, rfl, w1, hr1⟩ := bo_iff hw
                have hn1 := runD_ok (pd := pd) hC W w1 hp.tail hr1
                have hrest := hn1
                rw [regD, ho'] at hn1
                simp only [hgb, bo_some, if_true, hkj] at hn1
                obtain ⟨hst, _⟩ := hn1
                have hst : stE P o' (fr n ks en' dep' S F) (asH h1) _ := hst
                unfold stE at hst
                rw [hkj] at hst
                simp only [wrE, e2] at hst
                obtain ⟨s2, t3, hst⟩ := bo_iff hst
                obtain ⟨H2, t4, _, hend⟩ := bo_iff hst
                rw [hga, bo_some, if_pos rfl]
                simp only [hk]
                refine ⟨?_, ?_⟩
                · show stE P o _ _ _
                  unfold stE
                  rw [hk]
                  simp only [wrE, e1]
                  refine bob t1 (bob t2 ⟨.inr (ckv hp List.mem_cons_self hki b1), ?_⟩)
                  rw [a3]
                  exact hrest
                · unfold dj at hdj
                  split at hdj
                  · rename_i c1 k1 r1 i1 j1 ep
                    split at hdj
                    · rename_i c2 k2 r2 i2 j2 eq
                      have hne : k1 ≠ k2 := fun e => by subst e; simp [Nat.beq_refl] at hdj
                      obtain ⟨H3, u1, u2⟩ := wrA_comm ep eq hne t2 t4
                      unfold swp
                      simp only [hb, Bool.false_eq_true, if_false, ho']
                      refine bob (hgb _) ⟨rfl, ?_⟩
                      show stE P o' _ _ _
                      unfold stE
                      rw [hkj]
                      simp only [wrE, e2]
                      refine bob t3 (bob u1 ⟨.inr (ckv hp (by simp) hkij b2), bob (hgc _) ⟨rfl, ?_⟩⟩)
                      rw [hk]
                      simp only [a4, e1, setF]
                      refine bob t1 (bob u2 ⟨.inr (ckv hp List.mem_cons_self hki b1), ?_⟩)
                      rw [a3]
                      rw [a4] at hend
                      exact hend
                    · cases hdj
                  · cases hdj
            · rename_i hk
              rw [hk] at hki
              cases hnd : needD P ops pm i s with
              | true =>
                rw [hnd] at hr
                rcases gd_ok W hg (show gdW g S F _ _ = some r from hr) with ⟨hga, hr⟩ | ⟨hga, hr⟩
                · rw [hga, bo_some, if_pos rfl]
                  simp only [hk]
                  have hw := okf h w _ _ hr
                  rw [hk] at hw
                  obtain ⟨ao, mk, h', q1, q2, q3, q4⟩ := hw
                  refine bob q1 ?_
                  simp only
                  rw [← q2]
                  refine next q3 ((hp.more ⟨i, fun H1 H2 => sameE (hget H1 h.n) (hget H2 h.n)⟩).push rfl fun _ _ => .inr ⟨_, List.mem_cons_self, rfl, fun G G' WG WG' hs => ?_⟩) q4
                  unfold ck1
                  simp only [ho]
                  rw [hk]
                  simp only [asH_len]
                  exact sameE_ok WG WG' hs
                · rw [hga, bo_some]
                  exact skip hr
              | false =>
                rw [hnd] at hr
                rcases gd_ok W hg (show gdW g S F _ _ = some r from hr) with ⟨hga, hr⟩ | ⟨hga, hr⟩
                · rw [hga, bo_some, if_pos rfl]
                  simp only [hk]
                  have hw := okf h w _ _ hr
                  rw [hk] at hw
                  obtain ⟨ao, mk, h', q1, q2, q3, q4⟩ := hw
                  refine bob q1 ?_
                  simp only
                  rw [← q2]
                  exact next q3 (hp.push rfl fun _ _ => .inl hnd) q4
                · rw [hga, bo_some]
                  exact skip hr
            · rename_i hk3 hk2
              have hval : ∀ {k : KV}, f.f c S F h k = some r → ∃ x, valE P o (fr n ks en dep S F) (asH h) = some x ∧ k x h = some r := fun {k} hr => by
                have hw := okf h w _ _ hr
                split at hw
                · exact absurd ‹_› hk2
                · exact absurd ‹_› hk3
                · exact hw
              have fin : ∀ {x : AV} {pes' : List PE}, valE P o (fr n ks en dep S F) (asH h) = some x → PdOk X ops pm s (i :: dn) pes' (⟨i, fr n ks en dep S F, x, 0, true⟩ :: pd) → runQ c N (cmpD P n ks ops pm s (i :: dn) en' dep') pes' (dsS d x S) (dsF d x F) h = some r → gdA ops (fr n ks en dep S F) o = some true → bo (gdA ops (fr n ks en dep S F) o) fun b => if b = true then (match (mE P X).kd o.op with
                    | 2 => bo ((mE P X).new o (fr n ks en dep S F)) fun r_1 => regD (mE P X) ops pm s (⟨i, fr n ks en dep S F, r_1.2 (asH h).length, (asH h).length, true⟩ :: pd) (setF (fr n ks en dep S F) o.dst (r_1.2 (asH h).length)) (asH h ++ [r_1.1]) (EndR n ks N r)
                    | 3 => ((mE P X).st o (fr n ks en dep S F) (asH h) fun x H' => (H' = asH h ∨ ckLA (mE P X) ops pm i (asH h) H' pd) ∧ regD (mE P X) ops pm s pd (setF (fr n ks en dep S F) o.dst x) H' (EndR n ks N r)) ∧ swp (mE P X) ops pm i o s pd (fr n ks en dep S F) (asH h) (EndR n ks N r)
                    | _ => bo ((mE P X).val o (fr n ks en dep S F) (asH h)) fun x => regD (mE P X) ops pm s (⟨i, fr n ks en dep S F, x, 0, true⟩ :: pd) (setF (fr n ks en dep S F) o.dst x) (asH h) (EndR n ks N r))
                  else regD (mE P X) ops pm s (⟨i, fr n ks en dep S F, .vl undef, 0, false⟩ :: pd) (setF (fr n ks en dep S F) o.dst (.vl undef)) (asH h) (EndR n ks N r) := fun hv hp' hr hga => by
                rw [hga, bo_some, if_pos rfl]
                split
                · exact absurd ‹_› hk2
                · exact absurd ‹_› hk3
                · exact bob hv (next w hp' hr)
              cases hnd : needD P ops pm i s with
              | true =>
                rw [hnd] at hr
                rcases gd_ok W hg (show gdW g S F _ _ = some r from hr) with ⟨hga, hr⟩ | ⟨hga, hr⟩
                · obtain ⟨x, q1, q2⟩ := hval hr
                  refine fin q1 ((hp.more ⟨i, fun _ H2 => reK f c S F x H2⟩).push rfl fun _ _ => .inr ⟨_, List.mem_cons_self, rfl, fun G G' WG WG' hs => ?_⟩) q2 hga
                  unfold ck1
                  simp only [ho]
                  split
                  · exact re_ok hC W hf hk2 hk3 WG' hs
                  · exact absurd ‹_› hk2
                  · trivial
                · rw [hga, bo_some]
                  exact skip hr
              | false =>
                rw [hnd] at hr
                rcases gd_ok W hg (show gdW g S F _ _ = some r from hr) with ⟨hga, hr⟩ | ⟨hga, hr⟩
                · obtain ⟨x, q1, q2⟩ := hval hr
                  exact fin q1 (hp.push rfl fun _ _ => .inl hnd) q2 hga
                · rw [hga, bo_some]
                  exact skip hr
          · cases hr
        · cases hr
end
end Go.Proofs.YtlgdojkmbfbnjaaGreatDoor
