/- The same: maps that are turned, append, make, texts of bytes. -/
import Derived.Test.YtlgdojkmbfbnjaaGreatDoorEA
import Derived.Deep.Upon
import Derived.Lib.AppendStr
import Derived.Lib.AppendZeros
import Derived.Lib.UnsafeStr
namespace Go.Proofs.YtlgdojkmbfbnjaaGreatDoor
open Go.RowKit

theorem Ve.at : ∀ {l : List (AV × AV)} {i0 : Nat} {g : Gh} {es : List MapEntry}, Ve l i0 g es → ∀ (i : Nat) p, l[i]? = some p → ∃ e, es[i]? = some e ∧ e.born = i0 + i ∧ V p.1 g e.key ∧ V p.2 g e.val
  | [], _, _, _, _, i, p, e => by simp at e
  | x :: l, i0, g, es, h, 0, p, e => by rw [Ve] at h; obtain ⟨e1, r, rfl, a, b, c, _⟩ := h; simp at e; subst e; exact ⟨e1, rfl, a, b, c⟩
  | x :: l, i0, g, es, h, i + 1, p, e => by
    rw [Ve] at h; obtain ⟨e1, r, rfl, _, _, _, f⟩ := h
    obtain ⟨e2, q1, q2, q3⟩ := f.at i p (by simpa using e)
    exact ⟨e2, by simpa using q1, by omega, q3⟩
theorem Ve.setE : ∀ {l : List (AV × AV)} {i0 : Nat} {g : Gh} {es : List MapEntry}, Ve l i0 g es → ∀ (i : Nat) (p : AV × AV) (e : MapEntry), e.born = i0 + i → V p.1 g e.key → V p.2 g e.val → Ve (l.set i p) i0 g (es.set i e)
  | [], _, _, _, h, i, p, e, _, _, _ => by rw [Ve] at h; subst h; simp [Ve]
  | x :: l, i0, g, es, h, 0, p, e, h1, h2, h3 => by rw [Ve] at h; obtain ⟨e1, r, rfl, a, b, c, f⟩ := h; rw [List.set_cons_zero, List.set_cons_zero, Ve]; exact ⟨e, r, rfl, h1, h2, h3, f⟩
  | x :: l, i0, g, es, h, i + 1, p, e, h1, h2, h3 => by
    rw [Ve] at h; obtain ⟨e1, r, rfl, a, b, c, f⟩ := h
    rw [List.set_cons_succ, List.set_cons_succ, Ve]
    exact ⟨e1, _, rfl, a, b, c, f.setE i p e (by omega) h2 h3⟩
theorem Ve.snoc : ∀ {l : List (AV × AV)} {i0 : Nat} {g : Gh} {es : List MapEntry}, Ve l i0 g es → ∀ (p : AV × AV) (e : MapEntry), e.born = i0 + l.length → V p.1 g e.key → V p.2 g e.val → Ve (l ++ [p]) i0 g (es ++ [e])
  | [], _, _, _, h, p, e, h1, h2, h3 => by rw [Ve] at h; subst h; simp only [List.nil_append]; rw [Ve]; exact ⟨e, [], rfl, by simpa using h1, h2, h3, by rw [Ve]⟩
  | x :: l, i0, g, es, h, p, e, h1, h2, h3 => by
    rw [Ve] at h; obtain ⟨e1, r, rfl, a, b, c, f⟩ := h
    rw [List.cons_append, List.cons_append, Ve]
    exact ⟨e1, _, rfl, a, b, c, f.snoc p e (by simp at h1; omega) h2 h3⟩
theorem mod_set (a : Array MapEntry) (i : Nat) (f : MapEntry → MapEntry) {e : MapEntry} (h : a[i]? = some e) : (a.modify i f).toList = a.toList.set i (f e) := by
  apply List.ext_getElem?
  intro j
  rw [Array.getElem?_toList, Array.getElem?_modify, List.getElem?_set, Array.getElem?_toList]
  by_cases hij : i = j
  · subst hij
    rw [if_pos rfl, if_pos rfl, h]
    have := (Array.getElem?_eq_some_iff.1 h).1
    simp [this]
  · rw [if_neg hij, if_neg hij]
/-- The same plain value. -/
def vEq (a b : Value) : Bool := match a with
  | .int k m => (match b with | .int k' n => (if k = k' then iBeq m n else false) | _ => false)
  | .string s => (match b with | .string t => bEq s.data.toList t.data.toList | _ => false)
  | .bool p => (match b with | .bool q => p == q | _ => false)
  | _ => false
theorem vEq_ok {a b : Value} (h : vEq a b = true) : a = b ∧ ∀ n, Instr.sameBits n a b = true := by
  unfold vEq at h
  split at h
  · split at h
    · rename_i k m _ k' n
      by_cases hk : k = k'
      · subst hk
        rw [if_pos rfl, iBeq_eq, beq_iff_eq] at h
        subst h
        exact ⟨rfl, fun n => by cases n <;> simp [Instr.sameBits]⟩
      · rw [if_neg hk] at h; cases h
    · cases h
  · split at h
    · rename_i s _ t
      rw [bEq_iff] at h
      have : s = t := by obtain ⟨⟨a⟩⟩ := s; obtain ⟨⟨b⟩⟩ := t; have h : a = b := h; rw [h]
      subst this
      exact ⟨rfl, fun n => by cases n <;> simp [Instr.sameBits, MapKept.bytes_beq]⟩
    · cases h
  · split at h
    · rw [beq_iff_eq] at h
      subst h
      exact ⟨rfl, fun n => by cases n <;> simp [Instr.sameBits]⟩
    · cases h
  · cases h
def vEqL : List AV → List AV → Bool
  | [], [] => true
  | .vl a :: l, .vl b :: m => vEq a b && vEqL l m
  | _, _ => false
theorem vEqL_ok : ∀ {l m : List AV}, vEqL l m = true → ∃ vs, vlL l = some vs ∧ vlL m = some vs ∧ ∀ n, (vs.zip vs).all (fun p => Instr.sameBits n p.1 p.2) = true
  | [], [], _ => ⟨[], rfl, rfl, fun n => rfl⟩
  | x :: l, y :: m, h => by
    unfold vEqL at h
    split at h
    · rename_i h1 _; cases h1
    · rename_i a l' b m' h1 h2
      simp only [List.cons.injEq] at h1 h2
      obtain ⟨rfl, rfl⟩ := h1
      obtain ⟨rfl, rfl⟩ := h2
      rw [Bool.and_eq_true] at h
      obtain ⟨rfl, h1⟩ := vEq_ok h.1
      obtain ⟨vs, h2, h3, h4⟩ := vEqL_ok h.2
      exact ⟨a :: vs, by rw [vlL, h2]; rfl, by rw [vlL, h3]; rfl, fun n => by rw [List.zip_cons_cons, List.all_cons, h4 n, h1 n]; rfl⟩
    · cases h
  | [], _ :: _, h => by simp [vEqL] at h
  | _ :: _, [], h => by unfold vEqL at h; split at h <;> simp_all
def kSame (a b : AV) : Bool := match a with
  | .vl u => (match b with | .vl v => vEq u v | _ => false)
  | .ag l => (match b with | .ag m => vEqL l m | _ => false)
  | _ => false
theorem kSame_ok {a b : AV} (h : kSame a b = true) {g : Gh} {u v : Value} (hu : V a g u) (hv : V b g v) : u = v ∧ Instr.sameBits 10000 u v = true := by
  unfold kSame at h
  split at h
  · split at h
    · rw [V] at hu hv
      subst hu hv
      exact ⟨(vEq_ok h).1, (vEq_ok h).2 _⟩
    · cases h
  · split at h
    · obtain ⟨vs, h1, h2, h3⟩ := vEqL_ok h
      rw [V] at hu hv
      obtain ⟨us, rfl, s1⟩ := hu
      obtain ⟨ws, rfl, s2⟩ := hv
      rw [vlL_ok h1 s1, vlL_ok h2 s2]
      refine ⟨rfl, ?_⟩
      rw [show (10000 : Nat) = 9999 + 1 from rfl, Instr.sameBits]
      simpa using h3 9999
    · cases h
  · cases h
theorem keyStays {P : Program} {a b : AV} (h : kSame a b = true) {g : Gh} {u v : Value} (hu : V a g u) (hv : V b g v) (w : World) : (Instr.keyThatStays u v).run P w = .ok v w := by
  unfold Instr.keyThatStays
  rw [(kSame_ok h hu hv).2]; rfl
def mpE (H : AS) (m : AV) : Option (List (AV × AV)) := match m with
  | .mr q => (match H[q]? with | some (.mp es) => some es | _ => none)
  | .vl (.map none) => some []
  | _ => none
def lkR (ok : Bool) (z : AV) (r : Option (Nat × AV)) : AV := match r with
  | some p => bif ok then .tu [p.2, .vl (.bool true)] else p.2
  | none => bif ok then .tu [z, .vl (.bool false)] else z
/-- A look-up. -/
noncomputable def lkV (P : Program) (H : AS) (t : TypeId) (ok : Bool) (m k : AV) : Option AV := match P.underlying t with
  | some (.map kt et) => if P.keyTypeAt 20 kt = true then (match zrA P et, mpE H m with
    | some z, some es => (seK P kt k es).map (lkR ok z)
    | _, _ => none) else none
  | _ => none
theorem lkV_ok {P : Program} {H : AS} {t : TypeId} {ok : Bool} {m k z : AV} {g : Gh} {w : World} {u v : Value} (h : lkV P H t ok m k = some z) (R : RelH g H w) (hm : V m g u) (hk : V k g v) : ∃ r, (Instr.lookup t u v ok).run P w = .ok r w ∧ V z g r := by
  unfold lkV at h
  split at h
  · rename_i kt et hu
    obtain ⟨ht, h⟩ := ite_some h
    split at h
    · rename_i z0 es hz he
      cases hr : seK P kt k es with
      | none => rw [hr] at h; cases h
      | some r =>
        rw [hr] at h
        simp only [Option.map_some, Option.some.injEq] at h
        subst h
        have hzz : ∃ zv, (zeroValue et).run P w = .ok zv w ∧ V z0 g zv := by
          unfold zrA at hz
          split at hz
          · rename_i i hi
            cases hz2 : i.zero with
            | none => rw [hz2] at hz; cases hz
            | some zv =>
              rw [hz2] at hz
              simp only [Option.map_some, Option.some.injEq] at hz
              subst hz
              exact ⟨zv, by simp [zeroValue, typeInfo, hi, hz2], V_cst _ _⟩
          · cases hz
        obtain ⟨zv, hz1, hz2⟩ := hzz
        have fin : ∀ (l : Array MapEntry), Ve es 0 g l.toList → ∃ r', (do
            Instr.checkKey l.isEmpty 10000 kt v
            let (v, o) ← match ← Instr.findKey kt v l.toList with
              | some (_, v) => pure (v, true)
              | none => pure (← zeroValue et, false)
            pure (if ok then .tuple #[v, .bool o] else v) : Sem Value).run P w = .ok r' w ∧ V (lkR ok z0 r) g r' := fun l q => by
          obtain ⟨q0, r', q1, q2⟩ := seK_ok ht hr hk q w
          simp only [Sem.run_bind, q0, Result.andThen, q1]
          cases r with
          | none =>
            cases r' with
            | some p => exact q2.elim
            | none =>
              simp only [Sem.run_bind, hz1, Result.andThen, Sem.run_pure]
              cases ok
              · exact ⟨zv, rfl, hz2⟩
              · refine ⟨_, rfl, ?_⟩
                simp only [lkR, cond_true, V, Vs]
                exact ⟨[zv, .bool false], rfl, _, _, rfl, hz2, _, _, rfl, rfl, rfl⟩
          | some p =>
            cases r' with
            | none => exact q2.elim
            | some p' =>
              obtain ⟨_, q2⟩ := q2
              simp only
              cases ok
              · exact ⟨p'.2, rfl, q2⟩
              · refine ⟨_, rfl, ?_⟩
                simp only [lkR, cond_true, V, Vs]
                exact ⟨[p'.2, .bool true], rfl, _, _, rfl, q2, _, _, rfl, rfl, rfl⟩
        unfold mpE at he
        split at he
        · rename_i q
          split at he
          · rename_i es' hq
            simp only [Option.some.injEq] at he
            subst he
            rw [V] at hm
            obtain ⟨b, hb, rfl⟩ := hm
            obtain ⟨l, h1, h2⟩ := R.mb q _ hq b hb
            obtain ⟨r', q1, q2⟩ := fin l h2
            refine ⟨r', ?_, q2⟩
            unfold Instr.lookup
            simp only [Sem.run_bind, run_underlying hu, Result.andThen, MapKept.run_getObj_map h1, Sem.run_pure] at q1 ⊢
            exact q1
          · cases he
        · simp only [Option.some.injEq] at he
          subst he
          rw [V] at hm
          subst hm
          obtain ⟨r', q1, q2⟩ := fin #[] (by rw [Ve])
          refine ⟨r', ?_, q2⟩
          unfold Instr.lookup
          simp only [Sem.run_bind, run_underlying hu, Result.andThen, Sem.run_pure] at q1 ⊢
          exact q1
        · cases he
    · cases h
  · cases h
end Go.Proofs.YtlgdojkmbfbnjaaGreatDoor

namespace Go.Proofs.YtlgdojkmbfbnjaaGreatDoor
open Go.RowKit

theorem set_self {A : Type} : ∀ {l : List A} {i : Nat} {p : A}, l[i]? = some p → l.set i p = l
  | [], _, _, h => by simp at h
  | x :: l, 0, p, h => by simp at h; subst h; rfl
  | x :: l, i + 1, p, h => by rw [List.set_cons_succ, set_self (by simpa using h)]
/-- What a step on objects must show. -/
def OkS (P : Program) (g : Gh) (w : World) (H : AS) (s : Sem Next) (x : AV) (H' : AS) : Prop := ∃ v w' g', (s.run P w = .ok (.value v) w' ∨ (s.run P w = .ok .skip w' ∧ v = undef)) ∧ g.le g' ∧ RelH g' H' w' ∧ TX g w g' w' ∧ V x g' v ∧ EX g H g' H'
noncomputable def muV (P : Program) (H : AS) (t : TypeId) (m k x : AV) : Option AS := match m with
  | .mr q => (match H[q]?, P.underlying t with
    | some (.mp es), some (.map kt _) => if P.keyTypeAt 20 kt = true then (match seK P kt k es with
        | some (some (i, _)) => (match es[i]? with
          | some p => if kSame p.1 k = true then some (H.set q (.mp (es.set i (k, x)))) else none
          | none => none)
        | some none => some (H.set q (.mp (es ++ [(k, x)])))
        | none => none) else none
    | _, _ => none)
  | _ => none
theorem noCells (l : Array MapEntry) (n : Nat) : ∀ c t f, Obj.map l n ≠ .cells c t f := fun _ _ _ h => by cases h
theorem run_setO {P : Program} {w : World} {b : Nat} {o : Obj} (ob : Obj) (h : w.heap[b]? = some o) (hc : ∀ c t f, o ≠ .cells c t f) : (setObj b ob).run P w = .ok () { w with heap := w.heap.setIfInBounds b ob } := by
  simp only [setObj, Sem.run, h]
theorem muV_ok {P : Program} {H H' : AS} {t : TypeId} {m k x : AV} {g : Gh} {w : World} {u v y : Value} (h : muV P H t m k x = some H') (R : RelH g H w) (hm : V m g u) (hk : V k g v) (hx : V x g y) :
    OkS P g w H (do Instr.mapUpdate t u v y; pure .skip) .top H' := by
  unfold muV at h
  split at h
  · rename_i q
    split at h
    · rename_i es kt et hq hu
      obtain ⟨ht, h⟩ := ite_some h
      · rw [V] at hm
        obtain ⟨b, hb, rfl⟩ := hm
        obtain ⟨l, h1, h2⟩ := R.mb q _ hq b hb
        have set : ∀ (es' : List (AV × AV)) (l' : Array MapEntry), Ve es' 0 g l'.toList → RelH g (H.set q (.mp es')) { w with heap := w.heap.setIfInBounds b (.map l' es'.length) } ∧ TX g w g { w with heap := w.heap.setIfInBounds b (.map l' es'.length) } ∧ EX g H g (H.set q (.mp es')) := fun es' l' hv =>
          R.mset hq rfl rfl hb h1 (noCells _ _) .rfl (fun _ _ => rfl) (fun _ _ => rfl) rfl (fun _ _ => rfl) ⟨l', by
            show (w.heap.setIfInBounds b _)[b]? = _
            rw [Array.getElem?_setIfInBounds_self_of_lt (Array.getElem?_eq_some_iff.1 h1).1], hv⟩
        have head : ∀ (s : Option (Nat × Value) → Sem Unit), (∀ r', (∀ em, (Instr.checkKey em 10000 kt v).run P w = .ok () w) → (Instr.findKey kt v l.toList).run P w = .ok r' w → (Instr.mapUpdate t (.map (some b)) v y).run P w = (match r' with
            | some (i, _) => (do
              let key ← Instr.keyThatStays ((l[i]?.map MapEntry.key).getD v) v
              setObj b (.map (l.modify i fun e => { e with key, val := y }) es.length) : Sem Unit)
            | none => setObj b (.map (l.push { key := v, val := y, born := es.length }) (es.length + 1))).run P w) := fun _ r' h0 hr => by
          unfold Instr.mapUpdate
          simp only [Sem.run_bind, run_underlying hu, Result.andThen, MapKept.run_getObj_map h1, h0, hr]
          cases r' with
          | none => rfl
          | some p => rfl
        split at h
        · rename_i i x0 hr
          obtain ⟨q0, r', q1, q2⟩ := seK_ok ht hr hk h2 w
          split at h
          · rename_i p hp
            obtain ⟨hs, h⟩ := ite_some h
            simp only [Option.some.injEq] at h
            subst h
            cases r' with
            | none => exact q2.elim
            | some p' =>
              obtain ⟨i', v'⟩ := p'
              obtain ⟨rfl, q2⟩ := q2
              obtain ⟨e, e1, e2, e3, e4⟩ := h2.at i p hp
              rw [Array.getElem?_toList] at e1
              have hl' := mod_set l i (fun e => { e with key := v, val := y }) e1
              have hv' : Ve (es.set i (k, x)) 0 g (l.modify i fun e => { e with key := v, val := y }).toList := by
                rw [hl']; exact h2.setE i (k, x) _ e2 hk hx
              obtain ⟨r1, r2, r3⟩ := set _ _ hv'
              rw [List.length_set] at r1 r2
              refine ⟨undef, _, g, .inr ⟨?_, rfl⟩, .rfl, r1, r2, by rw [V]; trivial, r3⟩
              rw [Sem.run_bind, head (fun _ => pure ()) _ q0 q1]
              simp only [e1, Option.map_some, Option.getD_some, Sem.run_bind, keyStays hs e3 hk, Result.andThen, run_setO _ h1 (noCells _ _), Sem.run_pure]
          · cases h
        · rename_i hr
          obtain ⟨q0, r', q1, q2⟩ := seK_ok ht hr hk h2 w
          simp only [Option.some.injEq] at h
          subst h
          cases r' with
          | some p => exact q2.elim
          | none =>
            have hv' : Ve (es ++ [(k, x)]) 0 g (l.push { key := v, val := y, born := es.length }).toList := by
              rw [Array.toList_push]; exact h2.snoc (k, x) _ (by simp) hk hx
            obtain ⟨r1, r2, r3⟩ := set _ _ hv'
            rw [List.length_append, List.length_singleton] at r1 r2
            refine ⟨undef, _, g, .inr ⟨?_, rfl⟩, .rfl, r1, r2, by rw [V]; trivial, r3⟩
            rw [Sem.run_bind, head (fun _ => pure ()) _ q0 q1]
            simp only [run_setO _ h1 (noCells _ _), Result.andThen, Sem.run_pure]
        · cases h
    · cases h
  · cases h
/-- The first step of 'm[k] = f(m[k])'. -/
noncomputable def meV (P : Program) (H : AS) (t : TypeId) (m k : AV) : Option (AV × AS) := match m with
  | .mr q => (match H[q]?, P.underlying t with
    | some (.mp es), some (.map kt et) => if P.keyTypeAt 20 kt = true then (match zrA P et with
      | some z => (match seK P kt k es with
        | some (some (i, x)) => (match es[i]? with
          | some p => if kSame p.1 k = true then some (.tu [x, .vl (.int .i64 i)], H) else none
          | none => none)
        | some none => some (.tu [z, .vl (.int .i64 es.length)], H.set q (.mp (es ++ [(k, z)])))
        | none => none)
      | none => none) else none
    | _, _ => none)
  | _ => none
theorem zero_ok {P : Program} {et : TypeId} {z : AV} (hz : zrA P et = some z) (w : World) : ∃ zv, (zeroValue et).run P w = .ok zv w ∧ ∀ g, V z g zv := by
  unfold zrA at hz
  split at hz
  · rename_i i hi
    cases hz2 : i.zero with
    | none => rw [hz2] at hz; cases hz
    | some zv =>
      rw [hz2] at hz
      simp only [Option.map_some, Option.some.injEq] at hz
      subst hz
      exact ⟨zv, by simp [zeroValue, typeInfo, hi, hz2], fun g => V_cst _ _⟩
  · cases hz
theorem V_pair {x y : AV} {g : Gh} {u v : Value} (h1 : V x g u) (h2 : V y g v) : V (.tu [x, y]) g (.tuple #[u, v]) := by
  simp only [V, Vs]
  exact ⟨[u, v], rfl, _, _, rfl, h1, _, _, rfl, h2, rfl⟩
theorem meV_ok {P : Program} {H H' : AS} {t : TypeId} {m k z : AV} {g : Gh} {w : World} {u v : Value} (h : meV P H t m k = some (z, H')) (R : RelH g H w) (hm : V m g u) (hk : V k g v) :
    OkS P g w H (do pure (.value (← Instr.mapEntry t u v))) z H' := by
  unfold meV at h
  split at h
  · rename_i q
    split at h
    · rename_i es kt et hq hu
      obtain ⟨ht, h⟩ := ite_some h
      split at h
      · rename_i z0 hz
        obtain ⟨zv, hz1, hz2⟩ := zero_ok hz w
        rw [V] at hm
        obtain ⟨b, hb, rfl⟩ := hm
        obtain ⟨l, h1, h2⟩ := R.mb q _ hq b hb
        have set : ∀ (es' : List (AV × AV)) (l' : Array MapEntry), Ve es' 0 g l'.toList → RelH g (H.set q (.mp es')) { w with heap := w.heap.setIfInBounds b (.map l' es'.length) } ∧ TX g w g { w with heap := w.heap.setIfInBounds b (.map l' es'.length) } ∧ EX g H g (H.set q (.mp es')) := fun es' l' hv =>
          R.mset hq rfl rfl hb h1 (noCells _ _) .rfl (fun _ _ => rfl) (fun _ _ => rfl) rfl (fun _ _ => rfl) ⟨l', by
            show (w.heap.setIfInBounds b _)[b]? = _
            rw [Array.getElem?_setIfInBounds_self_of_lt (Array.getElem?_eq_some_iff.1 h1).1], hv⟩
        split at h
        · rename_i i x0 hr
          obtain ⟨q0, r', q1, q2⟩ := seK_ok ht hr hk h2 w
          split at h
          · rename_i p hp
            obtain ⟨hs, h⟩ := ite_some h
            simp only [Option.some.injEq, Prod.mk.injEq] at h
            obtain ⟨rfl, rfl⟩ := h
            cases r' with
            | none => exact q2.elim
            | some p' =>
              obtain ⟨i', v'⟩ := p'
              obtain ⟨rfl, q2⟩ := q2
              obtain ⟨e, e1, e2, e3, e4⟩ := h2.at i p hp
              rw [Array.getElem?_toList] at e1
              have hl' := mod_set l i (fun e => { e with key := v }) e1
              have hsame := (kSame_ok hs e3 hk).1
              have hv' : Ve es 0 g (l.modify i fun e => { e with key := v }).toList := by
                rw [hl']
                have := h2.setE i p { e with key := v } e2 (by rw [← hsame]; exact e3) e4
                rwa [set_self hp] at this
              obtain ⟨r1, r2, r3⟩ := set _ _ hv'
              rw [set_self hq] at r1 r3
              refine ⟨_, _, g, .inl ?_, .rfl, r1, r2, V_pair q2 (v := .int .i64 (i : Int)) (by rw [V]), r3⟩
              unfold Instr.mapEntry
              simp only [Sem.run_bind, run_underlying hu, Result.andThen, MapKept.run_getObj_map h1, q0, q1, e1, Option.map_some, Option.getD_some, keyStays hs e3 hk, run_setO _ h1 (noCells _ _), Sem.run_pure, goInt, e2, Nat.zero_add]
          · cases h
        · rename_i hr
          obtain ⟨q0, r', q1, q2⟩ := seK_ok ht hr hk h2 w
          simp only [Option.some.injEq, Prod.mk.injEq] at h
          obtain ⟨rfl, rfl⟩ := h
          cases r' with
          | some p => exact q2.elim
          | none =>
            have hv' : Ve (es ++ [(k, z0)]) 0 g (l.push { key := v, val := zv, born := es.length }).toList := by
              rw [Array.toList_push]; exact h2.snoc (k, z0) _ (by simp) hk (hz2 g)
            obtain ⟨r1, r2, r3⟩ := set _ _ hv'
            rw [List.length_append, List.length_singleton] at r1 r2
            refine ⟨_, _, g, .inl ?_, .rfl, r1, r2, V_pair (hz2 g) (v := .int .i64 (es.length : Int)) (by rw [V]), r3⟩
            unfold Instr.mapEntry
            simp only [Sem.run_bind, run_underlying hu, Result.andThen, MapKept.run_getObj_map h1, q0, q1, hz1, run_setO _ h1 (noCells _ _), Sem.run_pure, goInt]
        · cases h
      · cases h
    · cases h
  · cases h
/-- The last step of 'm[k] = f(m[k])'. -/
def esV (H : AS) (m s x : AV) : Option AS := match m with
  | .mr q => (match s with
    | .vl (.int _ (.ofNat i)) => (match H[q]? with
      | some (.mp es) => (match es[i]? with
        | some p => some (H.set q (.mp (es.set i (p.1, x))))
        | none => none)
      | _ => none)
    | _ => none)
  | _ => none
theorem find_born : ∀ {l : List (AV × AV)} {i0 : Nat} {g : Gh} {es : List MapEntry}, Ve l i0 g es → ∀ i, i < l.length → es.findIdx? (fun e => (e.born : Int) == ((i0 + i : Nat) : Int)) = some i
  | [], _, _, _, _, i, h => by simp at h
  | x :: l, i0, g, es, h, 0, _ => by rw [Ve] at h; obtain ⟨e, r, rfl, a, _⟩ := h; rw [List.findIdx?_cons]; simp [a]
  | x :: l, i0, g, es, h, i + 1, hi => by
    rw [Ve] at h; obtain ⟨e, r, rfl, a, _, _, f⟩ := h
    rw [List.findIdx?_cons]
    have := find_born f i (by simpa using hi)
    rw [show i0 + 1 + i = i0 + (i + 1) by omega] at this
    rw [this, if_neg (by simp [a]; omega)]; rfl
theorem esV_ok {P : Program} {H H' : AS} {t : TypeId} {m s x : AV} {g : Gh} {w : World} {u v y : Value} (h : esV H m s x = some H') (R : RelH g H w) (hm : V m g u) (hs : V s g v) (hx : V x g y) :
    OkS P g w H (do Instr.entryStore t u v y; pure .skip) .top H' := by
  unfold esV at h
  split at h
  · rename_i q
    split at h
    · rename_i k i
      split at h
      · rename_i es hq
        split at h
        · rename_i p hp
          simp only [Option.some.injEq] at h
          subst h
          rw [V] at hm
          rw [V] at hs
          subst hs
          obtain ⟨b, hb, rfl⟩ := hm
          obtain ⟨l, h1, h2⟩ := R.mb q _ hq b hb
          obtain ⟨e, e1, e2, e3, e4⟩ := h2.at i p hp
          rw [Array.getElem?_toList] at e1
          have hl' := mod_set l i (fun e => { e with val := y }) e1
          have hv' : Ve (es.set i (p.1, x)) 0 g (l.modify i fun e => { e with val := y }).toList := by
            rw [hl']; exact h2.setE i (p.1, x) _ e2 e3 hx
          have hf := find_born h2 i (List.getElem?_eq_some_iff.1 hp).1
          rw [Nat.zero_add] at hf
          have hf2 : l.findIdx? (fun e => (e.born : Int) == (i : Int)) = some i := by obtain ⟨ll⟩ := l; rw [List.findIdx?_toArray]; exact hf
          obtain ⟨r1, r2, r3⟩ := R.mset (ob' := .map (l.modify i fun e => { e with val := y }) es.length) (o' := .mp (es.set i (p.1, x))) hq rfl rfl hb h1 (noCells _ _) .rfl (fun _ _ => rfl) (fun _ _ => rfl) rfl (fun _ _ => rfl) ⟨_, by
            show (w.heap.setIfInBounds b _)[b]? = _
            rw [Array.getElem?_setIfInBounds_self_of_lt (Array.getElem?_eq_some_iff.1 h1).1, List.length_set], hv'⟩
          refine ⟨undef, _, g, .inr ⟨?_, rfl⟩, .rfl, r1, r2, by rw [V]; trivial, r3⟩
          unfold Instr.entryStore
          simp only [Sem.run_bind, MapKept.run_getObj_map h1, Result.andThen, asInt, asIntOf, Sem.run_pure, Int.ofNat_eq_natCast, hf2, run_setO _ h1 (noCells _ _)]
        · cases h
      · cases h
    · cases h
  · cases h
end Go.Proofs.YtlgdojkmbfbnjaaGreatDoor

namespace Go.Proofs.YtlgdojkmbfbnjaaGreatDoor
open Go.RowKit

abbrev nI (n : Nat) : AV := .vl (.int .i64 (.ofNat n))
def lnS : AV → Option AV
  | .vl v => (match v with | .string s => some (nI s.data.toList.length) | _ => none)
  | _ => none
def lnL : AV → Option AV
  | .vl v => (match v with | .slice none 0 0 => some (nI 0) | _ => none)
  | .im _ l => some (nI l.length)
  | .rf _ _ _ _ n => some (nI n)
  | .rl _ _ _ _ n => some (nI n)
  | _ => none
def lnM (H : AS) (m : AV) : Option AV := (mpE H m).map fun es => nI es.length
section
variable {P : Program} {t ty : TypeId} {x z : AV} {g : Gh} {u : Value}
theorem lnS_ok (h : lnS x = some z) (ht : P.underlying t = some .string) (hx : V x g u) (w : World) : ∃ r, (Builtin.len_ #[t] ty #[u]).run P w = .ok r w ∧ V z g r := by
  unfold lnS at h
  split at h
  · split at h
    · rename_i s
      simp only [Option.some.injEq] at h
      subst h
      rw [V] at hx
      subst hx
      exact vl1 (by simp [Builtin.len_, run_underlying ht, goInt])
    · cases h
  · cases h
theorem lnL_ok {e : TypeId} (h : lnL x = some z) (ht : P.underlying t = some (.slice e)) (hx : V x g u) (w : World) : ∃ r, (Builtin.len_ #[t] ty #[u]).run P w = .ok r w ∧ V z g r := by
  have key : ∀ a n c, u = .slice a n c → ∃ r, (Builtin.len_ #[t] ty #[u]).run P w = .ok r w ∧ V (nI n) g r := fun a n c e => by
    subst e
    exact vl1 (by simp [Builtin.len_, run_underlying ht, goInt])
  unfold lnL at h
  split at h
  · split at h
    · simp only [Option.some.injEq] at h
      subst h
      rw [V] at hx
      exact key _ _ _ hx
    · cases h
  · simp only [Option.some.injEq] at h
    subst h
    rw [V] at hx
    obtain ⟨cs, ⟨a, cap, e, _⟩, _⟩ := hx
    exact key _ _ _ e
  · simp only [Option.some.injEq] at h
    subst h
    rw [V] at hx
    rcases hx with ⟨h1, _, _, h2⟩ | ⟨b, cap, _, ⟨o, h2, _⟩, _⟩
    · subst h1; exact key _ _ _ h2
    · exact key _ _ _ h2
  · simp only [Option.some.injEq] at h
    subst h
    rw [V] at hx
    obtain ⟨b, o, _, e, _⟩ := hx
    exact key _ _ _ e
  · cases h
theorem lnM_ok {H : AS} {kt et : TypeId} {w : World} (h : lnM H x = some z) (ht : P.underlying t = some (.map kt et)) (R : RelH g H w) (hx : V x g u) : ∃ r, (Builtin.len_ #[t] ty #[u]).run P w = .ok r w ∧ V z g r := by
  unfold lnM at h
  cases he : mpE H x with
  | none => rw [he] at h; cases h
  | some es =>
    rw [he] at h
    simp only [Option.map_some, Option.some.injEq] at h
    subst h
    unfold mpE at he
    split at he
    · rename_i q
      split at he
      · rename_i es' hq
        simp only [Option.some.injEq] at he
        subst he
        rw [V] at hx
        obtain ⟨b, hb, rfl⟩ := hx
        obtain ⟨l, h1, h2⟩ := R.mb q _ hq b hb
        refine vl1 ?_
        have := h2.len
        simp only [Array.length_toList] at this
        simp [Builtin.len_, run_underlying ht, goInt, MapKept.run_getObj_map h1, this]
      · cases he
    · simp only [Option.some.injEq] at he
      subst he
      rw [V] at hx
      subst hx
      exact vl1 (by simp [Builtin.len_, run_underlying ht, goInt])
    · cases he
def cpN : AV → Option AV
  | .vl v => (match v with | .slice none 0 0 => some (nI 0) | _ => none)
  | _ => none
theorem cpN_ok {e : TypeId} (h : cpN x = some z) (ht : P.underlying t = some (.slice e)) (hx : V x g u) (w : World) : ∃ r, (Builtin.cap_ #[t] ty #[u]).run P w = .ok r w ∧ V z g r := by
  unfold cpN at h
  split at h
  · split at h
    · simp only [Option.some.injEq] at h
      subst h
      rw [V] at hx
      subst hx
      exact vl1 (by simp [Builtin.cap_, run_underlying ht, goInt])
    · cases h
  · cases h
/-- x[i]'s address. -/
def ixR (c k r off n : Nat) (y : AV) : Option AV := match y with
  | .vl v => (match v with
    | .int _ i => (match i with
      | .ofNat j => bif Nat.blt j n then some (.pt c k r (off + j) 0) else none
      | .negSucc _ => none)
    | _ => none)
  | _ => none
def ixI (l : List AV) (y : AV) : Option AV := match y with
  | .vl v => (match v with
    | .int _ i => (match i with
      | .ofNat j => (match l[j]? with | some e => some (.pi e 0) | none => none)
      | .negSucc _ => none)
    | _ => none)
  | _ => none
def ixE (c : Nat) (x y : AV) : Option AV := match x with
  | .rf c' k r off n => bif Nat.beq c c' then ixR c k r off n y else none
  | .rl c' k r off n => bif Nat.beq c c' then ixR c k r off n y else none
  | .im c' l => bif Nat.beq c c' then ixI l y else none
  | _ => none
theorem blt_iff (m n : Nat) : Nat.blt m n = true ↔ m < n := by rw [Nat.blt_eq]
theorem cond_some {A : Type} {b : Bool} {x : Option A} {y : A} (h : (bif b then x else none) = some y) : b = true ∧ x = some y := by
  cases b
  · cases h
  · exact ⟨rfl, h⟩
theorem ixE_ok {e : TypeId} {i : TypeInfo} {y : AV} {v : Value} (h : ixE i.size x y = some z) (ht : P.underlying t = some (.slice e)) (hi : P.info? e = some i) (hx : V x g u) (hy : V y g v) (w : World) : ∃ r, (Instr.indexAt t u v).run P w = .ok r w ∧ V z g r := by
  have e0 : P.elem t = e := by simp [Program.elem, ht]
  have hu' : P.underlying t = some (.slice (P.elem t)) := by rw [e0]; exact ht
  have es : ∀ w : World, (sizeOf (P.elem t)).run P w = .ok i.size w := fun w => by rw [e0]; simp [sizeOf, typeInfo, hi]
  have row : ∀ {c k r off n}, ixR c k r off n y = some z → ∃ kk j, y = .vl (.int kk (.ofNat j)) ∧ j < n ∧ z = .pt c k r (off + j) 0 := fun {c k r off n} h => by
    unfold ixR at h
    split at h
    · split at h
      · split at h
        · obtain ⟨h1, h2⟩ := cond_some h
          exact ⟨_, _, rfl, (blt_iff _ _).1 h1, (Option.some.inj h2).symm⟩
        · cases h
      · cases h
    · cases h
  unfold ixE at h
  split at h
  · rename_i c' k r off n
    obtain ⟨hc, h1⟩ := cond_some h
    obtain rfl := Nat.eq_of_beq_eq_true hc
    clear h
    obtain ⟨kk, j, rfl, hj, rfl⟩ := row h1
    refine ixA_ok (x := .rf i.size k r off n) (y := .vl (.int kk (j : Int))) (z := .pt i.size k r (off + j) 0) ?_ ht hi (by simp [strideOk]) hx hy w
    simp [ixA]; omega
  · rename_i c' k r off n
    obtain ⟨hc, h1⟩ := cond_some h
    obtain rfl := Nat.eq_of_beq_eq_true hc
    clear h
    obtain ⟨kk, j, rfl, hj, rfl⟩ := row h1
    rw [V] at hx
    rw [V] at hy
    subst hy
    obtain ⟨b, o, hb, rfl, ho⟩ := hx
    obtain rfl : o = off * i.size := by omega
    refine ⟨.pointer (some ⟨b, (off + j) * i.size + 0, none⟩), ?_, by rw [V]; exact ⟨b, hb, rfl⟩⟩
    rw [run_indexAt_slice _ _ _ _ _ _ _ hu', if_pos ⟨Int.natCast_nonneg j, by simpa using hj⟩, es]
    simp [Addr.add_lit, Nat.add_mul]
  · rename_i c' l
    obtain ⟨hc, h1⟩ := cond_some h
    obtain rfl := Nat.eq_of_beq_eq_true hc
    clear h
    have h := h1
    clear h1
    unfold ixI at h
    split at h
    · split at h
      · split at h
        · rename_i j
          refine ixA_ok (x := .im i.size l) (z := z) ?_ ht hi (by simp [strideOk]) hx hy w
          simp only [ixA]
          rw [if_pos (show (0 : Int) ≤ Int.ofNat j from Int.natCast_nonneg j)]
          exact h
        · cases h
      · cases h
    · cases h
  · cases h
/-- The first cell of a slice. -/
def usd : AV → Option AV
  | .rf c k r off n => bif Nat.blt 0 n then some (.pt c k r off 0) else none
  | _ => none
theorem usd_ok (h : usd x = some z) (hx : V x g u) (w : World) (ats : Array TypeId) : ∃ r, (Builtin.unsafeSliceData_ ats ty #[u]).run P w = .ok r w ∧ V z g r := by
  unfold usd at h
  split at h
  · rename_i c k r off n
    obtain ⟨h1, h2⟩ := cond_some h
    rw [blt_iff] at h1
    simp only [Option.some.injEq] at h2
    subst h2
    rw [V] at hx
    rcases hx with ⟨h3, _⟩ | ⟨b, cap, hb, ⟨o, rfl, ho⟩, _, hn⟩
    · omega
    · obtain rfl : o = off * c := by omega
      exact ⟨.pointer (some ⟨b, off * c, none⟩), by
        show (if cap ≠ 0 then (pure (.pointer (some ⟨b, off * c, none⟩)) : Sem Value) else _).run P w = _
        rw [if_pos (by omega)]; rfl, by rw [V]; exact ⟨b, hb, rfl⟩⟩
  · cases h
/-- A character of a text. -/
def sxE (x y : AV) : Option AV := match x with
  | .vl v => (match v with
    | .string s => (match y with
      | .vl v => (match v with
        | .int _ i => (match i with
          | .ofNat j => (match s.data.toList[j]? with
            | some b => some (.vl (.int .u8 (.ofNat b.toNat)))
            | none => none)
          | .negSucc _ => none)
        | _ => none)
      | _ => none)
    | _ => none)
  | _ => none
theorem sxE_ok {y : AV} {v : Value} (h : sxE x y = some z) (ht : P.underlying t = some .string) (hx : V x g u) (hy : V y g v) (w : World) : ∃ r, (Instr.index t u v).run P w = .ok r w ∧ V z g r := by
  unfold sxE at h
  split at h
  · split at h
    · rename_i s
      split at h
      · split at h
        · rename_i k i
          split at h
          · rename_i j
            split at h
            · rename_i b hb
              simp only [Option.some.injEq] at h
              subst h
              have hj : j < s.data.toList.length := (List.getElem?_eq_some_iff.1 hb).1
              have hj2 : j < s.size := by simpa using hj
              refine sxA_ok (x := .vl (.string s)) (y := .vl (.int k (j : Int))) ?_ ht hx hy w
              show (if (0 : Int) ≤ (j : Int) ∧ (j : Int) < (s.size : Int) then some (AV.vl (Value.int IntKind.u8 (bt s (j : Int).toNat))) else none) = _
              rw [if_pos ⟨Int.natCast_nonneg j, by exact_mod_cast hj2⟩]
              have : bt s j = b.toNat := by
                rw [← bt_get hj2]
                have : s.data.toList[j]? = some s[j] := by rw [Array.getElem?_toList, Array.getElem?_eq_getElem (by simpa using hj2)]; rfl
                rw [this] at hb
                obtain rfl := Option.some.inj hb
                rfl
              simp [this]
            · cases h
          · cases h
        · cases h
      · cases h
    · cases h
  · cases h
end
end Go.Proofs.YtlgdojkmbfbnjaaGreatDoor

namespace Go.Proofs.YtlgdojkmbfbnjaaGreatDoor
open Go.RowKit

def OkV (P : Program) (g : Gh) (w : World) (H : AS) (s : Sem Value) (x : AV) (H' : AS) : Prop := ∃ v w' g', s.run P w = .ok v w' ∧ g.le g' ∧ RelH g' H' w' ∧ TX g w g' w' ∧ V x g' v ∧ EX g H g' H'
def byV (b : UInt8) : AV := .vl (.int .u8 (.ofNat b.toNat))
def elsR (o : Option AO) (c r off n : Nat) : Option (List AV) := match o with
  | some (.row _ c' l _ _) => if c' = c ∧ r = l.length ∧ off + n ≤ l.length then some ((l.drop off).take n) else none
  | _ => none
/-- The elements of a slice, or the bytes of a text. -/
def elsE (H : AS) (c : Nat) : AV → Option (List AV)
  | .im c' l => if c' = c then some l else none
  | .rf c' k r off n => if c' = c then elsR H[k]? c r off n else none
  | .rl c' k r off n => if c' = c then elsR H[k]? c r off n else none
  | .vl v => (match v with
    | .string s => if c = 1 then some (s.data.toList.map byV) else none
    | .slice none 0 0 => some []
    | _ => none)
  | _ => none
def kindOf (P : Program) (tx : TypeId) (x : AV) : Prop := if isStr x then P.underlying tx = some .string else ∃ e', P.underlying tx = some (.slice e')
theorem byV_cells {g : Gh} : ∀ l : List UInt8, Vc 1 (l.map byV) g (l.map fun b => Value.int .u8 b.toNat)
  | [] => by rw [List.map_nil, List.map_nil, Vc]
  | b :: l => by
    rw [List.map_cons, List.map_cons, Vc]
    exact ⟨.int .u8 b.toNat, _, rfl, rfl, by rw [byV, V]; rfl, byV_cells l⟩
section
variable {P : Program} {H : AS} {g : Gh} {w : World}
theorem els_src {tx e' : TypeId} {x : AV} {c : Nat} {ys : List AV} {v : Value} (h : elsA H x = some (c, ys)) (R : RelH g H w) (hv : V x g v) (ho : ys.all AV.okc = true) (hk : P.underlying tx = some (.slice e')) : ∃ news, Src P c tx v ys.length news w ∧ Vc c ys g news := by
  obtain ⟨ad, cap, cs, rfl, hc, hadr⟩ := elsA_ok h R hv
  have hl := hc.len
  refine ⟨cs, ?_, hc⟩
  rcases Nat.eq_zero_or_pos cs.length with h0 | h0
  · have : cs = [] := List.eq_nil_of_length_eq_zero h0
    subst this
    have hy : ∀ (a : Option Addr) (w' : World), (Builtin.firstCells c ys.length (.slice a ys.length cap)).run P w' = .ok #[] w' := fun a w' => by
      cases a with
      | none => exact run_firstCells_none w' c _ _ cap
      | some a => exact run_firstCells_some w' c _ a _ cap [] hl (fun j u hu => by simp at hu)
    exact ⟨.inl ⟨e', hk⟩, fun _ => rfl, hy _ _, hy _ _, hl, fun u hu => by cases hu⟩
  · obtain ⟨b, o, rfl, q⟩ := hadr h0
    exact Src.ofSlice w hk _ _ cap cs hl (fun j u hu => by rw [Addr.add_lit]; exact q j u hu) (hc.ok1 ho)
theorem row_cells (R : RelH g H w) {k b T c : Nat} {l : List AV} {live hf : Bool} (e : H[k]? = some (.row T c l live hf)) (hb : g.s k l.length = some b) {off n : Nat} (_ : off + n ≤ l.length) : ∃ cs, Vc c ((l.drop off).take n) g cs ∧ ∀ (j : Nat) u, cs[j]? = some u → w.cell? ⟨b, off * c + j, none⟩ = some u := by
  obtain ⟨cs, h1, h2, h3, h4⟩ := R.ob _ _ _ _ _ _ e b hb
  have h1 : Vc c l g cs := by
    cases hf
    · exact h1
    · exact Vc.mono c l _ _ cs g.z_le h1
  refine ⟨(cs.drop (off * c)).take (n * c), (h1.drop off).take n, fun j u hu => ?_⟩
  rw [List.getElem?_take] at hu
  split at hu
  · rename_i hj
    rw [List.getElem?_drop] at hu
    have hlen : 0 < l.length := by
      have := (List.getElem?_eq_some_iff.1 hu).1
      rw [h1.len] at this
      rcases Nat.eq_zero_or_pos l.length with z | z
      · rw [z, Nat.zero_mul] at this; omega
      · exact z
    cases live
    · obtain ⟨b', o', e1, -, q⟩ := Sl.cells h4 R.im hlen
      simp only [Option.some.injEq, Addr.mk.injEq, and_true] at e1
      obtain ⟨rfl, rfl⟩ := e1
      have := q _ _ hu
      simpa using this
    · obtain ⟨g', e1, -, -, -, q, -⟩ := Ow.cell h4 hlen
      simp only [Option.some.injEq, Addr.mk.injEq, and_true] at e1
      subst e1
      exact q _ _ hu
  · cases hu
theorem elsE_ok {tx : TypeId} {x : AV} {c : Nat} {ys : List AV} {v : Value} (h : elsE H c x = some ys) (R : RelH g H w) (hv : V x g v) (ho : ys.all AV.okc = true) (hk : kindOf P tx x) : ∃ news, Src P c tx v ys.length news w ∧ Vc c ys g news := by
  unfold elsE at h
  split at h
  · rename_i c' l
    obtain ⟨e1, h1⟩ := ite_some h
    subst e1
    obtain ⟨e', hk⟩ := hk
    exact els_src (x := .im c' l) (by simp only [Option.some.injEq] at h1; subst h1; rfl) R hv ho hk
  · rename_i c' k r off n
    obtain ⟨e1, h1⟩ := ite_some h
    subst e1
    obtain ⟨e', hk⟩ := hk
    refine els_src (x := .rf c' k r off n) ?_ R hv ho hk
    unfold elsR at h1
    unfold elsA
    split at h1
    · rename_i e
      obtain ⟨hh, h2⟩ := ite_some h1
      simp only [e]
      rw [if_pos hh]
      simp only [Option.some.injEq] at h2
      rw [h2]
    · cases h1
  · rename_i c' k r off n
    obtain ⟨e1, h1⟩ := ite_some h
    subst e1
    obtain ⟨e', hk⟩ := hk
    unfold elsR at h1
    split at h1
    · rename_i T c2 l live hf e
      obtain ⟨hh, h2⟩ := ite_some h1
      obtain ⟨rfl, rfl, hn⟩ := hh
      clear h h1
      rw [V] at hv
      obtain ⟨b, o, hb, rfl, ho2⟩ := hv
      simp only [Option.some.injEq] at h2
      obtain ⟨cs, q1, q2⟩ := row_cells R e hb hn
      have hl : ((l.drop off).take n).length = n := by rw [List.length_take, List.length_drop, Nat.min_eq_left (by omega)]
      have hlen := q1.len
      rw [hl] at hlen
      rw [h2] at q1 hl
      refine ⟨cs, ?_, q1⟩
      rw [hl]
      refine Src.ofSlice w hk _ n n cs hlen (fun j u hu => ?_) (q1.ok1 ho)
      have : 0 < n := by
        rcases Nat.eq_zero_or_pos n with h | h
        · subst h; have := (List.getElem?_eq_some_iff.1 hu).1; rw [hlen, Nat.zero_mul] at this; omega
        · exact h
      obtain rfl : o = off * c2 := by omega
      rw [Addr.add_lit]
      exact q2 j u hu
    · cases h1
  · split at h
    · rename_i s
      obtain ⟨e1, h1⟩ := ite_some h
      subst e1
      clear h
      simp only [Option.some.injEq] at h1
      subst h1
      rw [V] at hv
      subst hv
      have hk : P.underlying tx = some .string := hk
      refine ⟨byteCells s, ?_, byV_cells _⟩
      have := Src.ofString (P := P) w hk s
      rw [List.length_map]
      exact this
    · simp only [Option.some.injEq] at h
      subst h
      rw [V] at hv
      subst hv
      obtain ⟨e', hk⟩ := hk
      exact ⟨[], Src.ofNil w hk 0, by rw [Vc]⟩
    · cases h
  · cases h
end
end Go.Proofs.YtlgdojkmbfbnjaaGreatDoor

namespace Go.Proofs.YtlgdojkmbfbnjaaGreatDoor
open Go.RowKit

theorem Ow.full {w : World} {h : Hp} {B : Nat} {e : TypeId} {c n cap : Nat} {ad : Addr} {xs : List Value} (o : Ow w h B e c (.slice (some ad) n cap) n xs) : ∃ ys, Ow w h B e c (.slice (some ad) cap cap) cap ys ∧ ys.take (n * c) = xs ∧ n ≤ cap ∧ ad.off = 0 ∧ ad.spot = none := by
  rcases o.row with ⟨h1, ⟨hv, _⟩ | ⟨g', cap', cur, hv, hb, hh, hnc, hcm, hcs, htake⟩⟩
  · simp at hv
  · simp only [Value.slice.injEq, Option.some.injEq, true_and] at hv
    obtain ⟨rfl, rfl⟩ := hv
    exact ⟨cur.toList, ⟨⟨by simpa using hcs, .inr ⟨g', cap, cur, rfl, hb, hh, Nat.le_refl _, hcm, hcs, List.take_of_length_le (by rw [Array.length_toList, hcs]; exact Nat.le_refl _)⟩⟩, o.free⟩, htake, hnc, rfl, rfl⟩
theorem Ow.shrink {w : World} {h : Hp} {B : Nat} {e : TypeId} {c n cap : Nat} {ad : Addr} {xs : List Value} (o : Ow w h B e c (.slice (some ad) cap cap) cap xs) (hn : n ≤ cap) : Ow w h B e c (.slice (some ad) n cap) n (xs.take (n * c)) := by
  rcases o.row with ⟨h1, ⟨hv, _⟩ | ⟨g', cap', cur, hv, hb, hh, hnc, hcm, hcs, htake⟩⟩
  · simp at hv
  · simp only [Value.slice.injEq, Option.some.injEq, true_and] at hv
    obtain ⟨rfl, rfl⟩ := hv
    have : n * c ≤ cap * c := Nat.mul_le_mul_right _ hn
    exact ⟨⟨by rw [List.length_take, h1]; omega, .inr ⟨g', cap, cur, rfl, hb, hh, hn, hcm, hcs, by rw [← htake, List.take_take, Nat.min_eq_left this]⟩⟩, o.free⟩
theorem wrL_all {α : Type} : ∀ (a ns : List α), a.length = ns.length → wrL a 0 ns = ns
  | [], [], _ => rfl
  | _ :: _, [], h => by simp at h
  | [], _ :: _, h => by simp at h
  | x :: a, y :: ns, h => by
    rw [wrL, List.set_cons_zero]
    have := wrL_right ns [y] a 0
    rw [List.singleton_append, List.length_singleton] at this
    rw [show 0 + 1 = 1 + 0 from rfl, this, wrL_all a ns (by simpa using h)]; rfl
theorem wrL_take (xs : List Value) (o : Nat) (ns : List Value) (h : o + ns.length ≤ xs.length) : (wrL xs o ns).take (o + ns.length) = xs.take o ++ ns := by
  have e1 : xs = xs.take o ++ ((xs.drop o).take ns.length ++ xs.drop (o + ns.length)) := by
    conv => lhs; rw [← List.take_append_drop o xs, ← List.take_append_drop ns.length (xs.drop o)]
    rw [List.drop_drop]
  have l1 : (xs.take o).length = o := by rw [List.length_take]; omega
  have l2 : ((xs.drop o).take ns.length).length = ns.length := by rw [List.length_take, List.length_drop]; omega
  have key : ∀ (a r : List Value), a.length = ns.length → wrL (a ++ r) 0 ns = ns ++ r := fun a r h => by
    rw [wrL_left ns a r 0 (by omega)]
    congr 1
    exact wrL_all a ns h
  conv => lhs; rw [e1]
  have := wrL_right ns (xs.take o) ((xs.drop o).take ns.length ++ xs.drop (o + ns.length)) 0
  rw [l1, Nat.add_zero] at this
  rw [this, key _ _ l2, ← List.append_assoc]
  exact List.take_left' (by simp [l1])
section
variable {P : Program} {w : World} {h : Hp} {t tx ty e : TypeId} {c b : Nat} {z : List Value}
theorem own_new (hi : Imm h w) (E : ElemT P t e c b z) {zv : Value} (hz : zv.cells = z.toArray) {xs : List Value} {n cap : Nat} (hl : xs.length = n * c) (hn : n ≤ cap) (hc : cap ≤ maxLen) : Ow (w.drew.alloc (.cells (xs.toArray ++ Builtin.zeroCells zv.cells (cap - n)) e)) h 0 e c (.slice (some ⟨w.heap.size, 0, none⟩) n cap) n xs := by
  have hi2 : Imm h w.drew := hi.below (Below.refl _ _).drew
  refine Ow.of (w := w.drew) (row := none) ⟨hl, .inr ⟨w.heap.size, cap, _, rfl, Nat.zero_le _, heap_alloc_new w.drew _, hn, hc, ?_, ?_⟩⟩ hi2 (fun g hg => by cases hg) fun g hg => by
    simp only [Value.ownBlock, Option.some.injEq] at hg
    exact .inl (by subst hg; exact Nat.le_refl _)
  · have : zv.cells.size = c := by rw [hz]; simpa using E.zlen
    rw [Array.size_append, size_zeroCells, this, List.size_toArray, hl, ← Nat.add_mul]
    congr 1; omega
  · rw [Array.toList_append, ← hl]
    exact List.take_left
theorem grown_new (w : World) (o : Obj) (row : Option Nat) : w.grownBy (w.drew.alloc o) row := ⟨rfl, rfl, rfl, by simp, fun k hk _ => Below.heap_alloc w.drew o k hk⟩
theorem app_src (E : ElemT P t e c b z) (hi : Imm h w) {u : Value} {n : Nat} {xs : List Value} (ow : Ow w h 0 e c u n xs) {x : Value} {m : Nat} {news : List Value} (hs : Src P c tx x m news w) (hm : 0 < m) (hb : (n + m) * b ≤ 140737488355328) :
    ∃ v' w', (Builtin.append_ #[t, tx] ty #[u, x]).run P w = .ok v' w' ∧ Ow w' h 0 e c v' (n + m) (xs ++ news) ∧ w.grownBy w' u.ownBlock ∧ (v'.ownBlock = u.ownBlock ∨ v'.ownBlock = some w.heap.size) := by
  obtain ⟨i, zv, hif, hz, hsz, hby, hzc⟩ := E.info
  subst hsz hby
  have hbp := E.bpos
  have hmax : n + m ≤ maxLen := by
    have := Nat.le_mul_of_pos_right (n + m) hbp
    simp only [maxLen]; omega
  have h63 : ((n + m : Nat) : Int) ≤ 9223372036854775807 := by simp only [maxLen] at hmax; omega
  have hlx := ow.len
  have grow : ∀ (bs : Option Addr) (sc : Nat), u = .slice bs n sc → sc < n + m → (Builtin.firstCells i.size n (.slice bs n sc)).run P w.drew = .ok xs.toArray w.drew →
      ∃ v' w', (Builtin.append_ #[t, tx] ty #[u, x]).run P w = .ok v' w' ∧ Ow w' h 0 e i.size v' (n + m) (xs ++ news) ∧ w.grownBy w' u.ownBlock ∧ (v'.ownBlock = u.ownBlock ∨ v'.ownBlock = some w.heap.size) := by
    rintro bs sc rfl hg hold
    exact ⟨_, _, run_append_grow_src (P := P) w t tx ty e i zv E.und hif hz bs n sc xs hold x m news hs hg h63 (growslice_fits hg hb), own_new hi E hzc (by rw [List.length_append, hlx, hs.newsLen, Nat.add_mul]) (grownCap_ge w _ sc e) (grownCap_le_maxLen w _ sc e hmax), grown_new _ _ _, .inr rfl⟩
  rcases ow.row.2 with ⟨rfl, rfl⟩ | ⟨g, cap, cur, rfl, hbg, hg, hnc, hcm, hcs, htake⟩
  · have : xs = [] := List.eq_nil_of_length_eq_zero (by simpa using hlx)
    subst this
    exact grow _ _ rfl (by omega) (run_firstCells_none w.drew i.size 0 0 0)
  · by_cases hroom : n + m ≤ cap
    · obtain ⟨ys, of, ht, _, _, _⟩ := ow.full
      have hly := of.len
      have hcc : (n + m) * i.size ≤ cap * i.size := Nat.mul_le_mul_right _ hroom
      have hnl := hs.newsLen
      rw [Nat.add_mul] at hcc
      have hcp : 0 < cap := by omega
      obtain ⟨g', e1, _, _, _, q1, q2⟩ := of.cell hcp
      simp only [Option.some.injEq, Addr.mk.injEq, and_true] at e1
      subst e1
      have hrun := run_append_room_src (P := P) w t tx ty e i E.und hif g 0 n cap x m news hs hroom (fun j hj => by
        rw [q1 (0 + n * i.size + j) _ (List.getElem?_eq_getElem (by rw [hly]; omega))]; rfl) (fun j hj => q2 _)
      rw [Nat.zero_add] at hrun
      have o2 := (Ow.setCells news of (n * i.size) (by omega)).shrink hroom
      have e3 : (wrL ys (n * i.size) news).take ((n + m) * i.size) = xs ++ news := by
        rw [Nat.add_mul, ← hnl, wrL_take _ _ _ (by rw [hly]; omega), ht]
      rw [e3] at o2
      have T0 := setCells_tu (S := fun q => q = g) rfl news (n * i.size) w w (Tu.refl _ _)
      exact ⟨_, _, hrun, o2, ⟨T0.os, T0.tape, T0.output, T0.size, fun k hk hne => setCells_heap g _ _ _ _ fun e => hne (by subst e; rfl)⟩, .inl rfl⟩
    · have holds : ∀ j u, xs[j]? = some u → w.cell? ((⟨g, 0, none⟩ : Addr).add j) = some u := ow.row.cells (g := g) rfl
      exact grow _ _ rfl (by omega) (run_firstCells_some w.drew i.size n _ n cap xs hlx (by simpa using holds))
end
end Go.Proofs.YtlgdojkmbfbnjaaGreatDoor

namespace Go.Proofs.YtlgdojkmbfbnjaaGreatDoor
open Go.RowKit

abbrev lim : Nat := 140737488355328
def isSl : AV → Bool
  | .vl v => (match v with | .slice none 0 0 => true | _ => false)
  | .rf .. => true
  | .rl .. => true
  | .im .. => true
  | _ => false
/-- Elements are laid over those that are there. -/
def wrQ (c : Nat) : List AV → Nat → List AV → Option (List AV)
  | l, _, [] => some l
  | l, n, y :: ys => (match l[n]? with
    | some x => if y.okc = true ∧ y.cells.length = c ∧ (isAg x = true ∨ (c = 1 ∧ y.ok1 = true)) then wrQ c (l.set n (x.put 0 y)) (n + 1) ys else none
    | none => none)
theorem wrQ_len {c : Nat} : ∀ {ys l l' : List AV} {n : Nat}, wrQ c l n ys = some l' → l'.length = l.length ∧ (0 < ys.length → n + ys.length ≤ l.length)
  | [], l, l', n, h => by
    rw [wrQ] at h
    obtain rfl := Option.some.inj h
    exact ⟨rfl, fun h => absurd h (by simp)⟩
  | y :: ys, l, l', n, h => by
    rw [wrQ] at h
    split at h
    · rename_i x hx
      obtain ⟨_, h2⟩ := ite_some h
      obtain ⟨q1, q2⟩ := wrQ_len h2
      have hn := (List.getElem?_eq_some_iff.1 hx).1
      rw [List.length_set] at q1 q2
      refine ⟨q1, fun _ => ?_⟩
      rw [List.length_cons]
      rcases Nat.eq_zero_or_pos ys.length with h0 | h0
      · omega
      · have := q2 h0; omega
    · cases h
theorem setCells_app (b : Nat) : ∀ (x y : List Value) (o : Nat) (w : World), w.setCells b o (x ++ y) = (w.setCells b o x).setCells b (o + x.length) y
  | [], y, o, w => rfl
  | v :: x, y, o, w => by
    rw [List.cons_append, World.setCells, setCells_app b x y, World.setCells, List.length_cons]
    congr 1
    omega
theorem RelH.stores {g : Gh} {T : TypeId} {k b : Nat} {c : Nat} : ∀ {ys : List AV} {l l' : List AV} {n : Nat} {H : AS} {w : World} {news : List Value}, RelH g H w → H[k]? = some (.row T c l true false) → g.s k l.length = some b → wrQ c l n ys = some l' → Vc c ys g news → RelH g (H.set k (.row T c l' true false)) (w.setCells b (n * c) news) ∧ TX g w g (w.setCells b (n * c) news) ∧ EX g H g (H.set k (.row T c l' true false))
  | [], l, l', n, H, w, news, R, e, hb, h, hv => by
    rw [wrQ] at h
    obtain rfl := Option.some.inj h
    rw [Vc] at hv
    subst hv
    have hk := (List.getElem?_eq_some_iff.1 e).1
    have : H.set k (.row T c l true false) = H := by
      apply List.ext_getElem?
      intro j
      rw [List.getElem?_set]
      by_cases q : k = j
      · subst q
        rw [if_pos rfl, if_pos hk, e]
      · rw [if_neg q]
    rw [this]
    exact ⟨R, .rfl, .rfl⟩
  | y :: ys, l, l', n, H, w, news, R, e, hb, h, hv => by
    rw [wrQ] at h
    split at h
    · rename_i x hx
      obtain ⟨⟨o1, o2, o3⟩, h2⟩ := ite_some h
      rw [Vc] at hv
      obtain ⟨v, r, rfl, hvs, hv1, hv2⟩ := hv
      have hk := (List.getElem?_eq_some_iff.1 e).1
      obtain ⟨s1, s2, s3⟩ := R.store (i := n) (j := 0) e hb hx hv1 o1 (fun h => by cases h) (o3.imp isAg_iff fun h => ⟨h.1, rfl, h.2⟩) (by omega)
      rw [Nat.add_zero] at s1 s2
      have e2 : (H.set k (.row T c (l.set n (x.put 0 y)) true false))[k]? = some (.row T c (l.set n (x.put 0 y)) true false) := List.getElem?_set_self hk
      obtain ⟨t1, t2, t3⟩ := RelH.stores s1 e2 (by rw [List.length_set]; exact hb) h2 hv2
      rw [List.set_set] at t1 t3
      rw [setCells_app, Array.length_toList, hvs, show n * c + c = (n + 1) * c by rw [Nat.succ_mul]]
      exact ⟨t1, s2.trans t2, s3.trans t3⟩
    · cases h
def apI (H : AS) (e c k r n : Nat) (l : List AV) (ys : List AV) : Option (AV × AS) := match wrQ c l n ys with
  | some l' => some (.rf c k r 0 (n + ys.length), H.set k (.row e c l' true false))
  | none => none
def apR (H : AS) (e c b k r off n : Nat) (ys : List AV) (o : Option AO) : Option (AV × AS) := match o with
  | some (.row T c2 l true false) => if T = e ∧ c2 = c ∧ r = l.length ∧ off = 0 then
      (if n = l.length then (if (l.length + ys.length) * b ≤ lim then some (.rf c k (l.length + ys.length) 0 (l.length + ys.length), H.set k (.row e c (l ++ ys) true false)) else none) else apI H e c k r n l ys) else none
  | _ => none
def apL (H : AS) (e c b r off n : Nat) (ys : List AV) (o : Option AO) : Option (AV × AS) := match o with
  | some (.row _ c2 l _ _) => if c2 = c ∧ r = l.length ∧ off + n ≤ l.length ∧ (n + ys.length) * b ≤ lim then some (.rf c H.length (n + ys.length) 0 (n + ys.length), H ++ [.row e c ((l.drop off).take n ++ ys) true false]) else none
  | _ => none
/-- append. -/
def apE (H : AS) (e c b : Nat) (s : AV) (ys : List AV) : Option (AV × AS) := if ys.length = 0 then (if isSl s then some (s, H) else none) else match s with
  | .vl v => (match v with
    | .slice none 0 0 => if ys.length * b ≤ lim then some (.rf c H.length ys.length 0 ys.length, H ++ [.row e c ys true false]) else none
    | _ => none)
  | .rf c' k r off n => if c' = c then apR H e c b k r off n ys H[k]? else none
  | .rl c' k r off n => if c' = c then apL H e c b r off n ys H[k]? else none
  | _ => none
section
variable {P : Program} {H H' : AS} {g : Gh} {w : World} {t tx ty e : TypeId} {c b : Nat} {z : List Value}
/-- A new row of whatever capacity. -/
theorem RelH.fresh (R : RelH g H w) {w' : World} {ys : List AV} {news : List Value} {v' : Value} (hy : Vc c ys g news) (hm : 0 < ys.length) (hz : ys.length ≤ lim) (o : Ow w' g.h 0 e c v' ys.length news) (gr : w.grownBy w' none) (bk : v'.ownBlock = some w.heap.size) : ∃ g', g.le g' ∧ RelH g' (H ++ [.row e c ys true false]) w' ∧ TX g w g' w' ∧ V (.rf c H.length ys.length 0 ys.length) g' v' ∧ EX g H g' (H ++ [.row e c ys true false]) := by
  have R2 := R.virt e c false
  have e1 : (H ++ [AO.row e c [] true false])[H.length]? = some (.row e c [] true false) := by simp
  obtain ⟨g', q1, q2, q3, q4, q5⟩ := R2.append (v := .slice none 0 0) (v' := v') (cs := []) (news := news) (ys := ys) e1 (by simp [Vc]) (fun b h => by cases h) hy hm (by simpa using hz) (by simpa using o) gr (.inr bk)
  have e2 : (H ++ [AO.row e c [] true false]).set H.length (.row e c ([] ++ ys) true false) = H ++ [.row e c ys true false] := by simp
  rw [e2] at q2 q5
  simp only [List.length_nil, Nat.zero_add] at q4
  exact ⟨g', q1, q2, q3, q4, (EX.virt _).trans q5⟩
theorem slice_shape {s : AV} {u : Value} (h : isSl s = true) (hs : V s g u) : ∃ a n cap, u = .slice a n cap ∧ n ≤ cap := by
  unfold isSl at h
  split at h
  · split at h
    · rw [V] at hs; exact ⟨_, _, _, hs, Nat.le_refl _⟩
    · cases h
  · rw [V] at hs
    rcases hs with ⟨_, _, _, e⟩ | ⟨b, cap, _, ⟨o, e, _⟩, _, h⟩
    · exact ⟨_, _, _, e, Nat.le_refl _⟩
    · exact ⟨_, _, _, e, h⟩
  · rw [V] at hs
    obtain ⟨b, o, _, e, _⟩ := hs
    exact ⟨_, _, _, e, Nat.le_refl _⟩
  · rw [V] at hs
    obtain ⟨cs, ⟨a, cap, e, h⟩, _⟩ := hs
    exact ⟨_, _, _, e, h⟩
  · cases h
theorem apE_ok (E : ElemT P t e c b z) {s y : AV} {ys : List AV} (h : apE H e c b s ys = some (y, H')) (R : RelH g H w) {u x : Value} (hs : V s g u) {news : List Value} (hx : Src P c tx x ys.length news w) (hy : Vc c ys g news) : OkV P g w H (Builtin.append_ #[t, tx] ty #[u, x]) y H' := by
  obtain ⟨i, zv, hif, hz, hsz, hby, hzc⟩ := E.info
  have hbp := E.bpos
  unfold apE at h
  split at h
  · rename_i h0
    split at h
    · rename_i hsl
      simp only [Option.some.injEq, Prod.mk.injEq] at h
      obtain ⟨rfl, rfl⟩ := h
      obtain ⟨a, n, cap, rfl, hn⟩ := slice_shape hsl hs
      have hnews : news = [] := List.eq_nil_of_length_eq_zero (by rw [hx.newsLen, h0]; simp)
      subst hnews
      rw [h0] at hx
      subst hsz
      exact ⟨_, _, g, run_append_nothing w t tx ty e i E.und hif a n cap hn x hx, .rfl, R, .rfl, hs, .rfl⟩
    · cases h
  · rename_i h0
    have hm : 0 < ys.length := by omega
    split at h
    · split at h
      · obtain ⟨hb, h1⟩ := ite_some h
        simp only [Option.some.injEq, Prod.mk.injEq] at h1
        obtain ⟨rfl, rfl⟩ := h1
        rw [V] at hs
        subst hs
        obtain ⟨v', w', q1, q2, q3, q4⟩ := app_src (ty := ty) E R.im (Ow.nil w g.h 0 e c) hx hm (by simpa using hb)
        rw [Nat.zero_add, List.nil_append] at q2
        have hl : ys.length ≤ lim := Nat.le_trans (Nat.le_mul_of_pos_right _ hbp) hb
        have bk : v'.ownBlock = some w.heap.size := by
          rcases q4 with q4 | q4
          · exfalso
            rcases q2.row.2 with ⟨_, h⟩ | ⟨g', cap', cur, e1, _⟩
            · omega
            · rw [e1] at q4; cases q4
          · exact q4
        obtain ⟨g', p1, p2, p3, p4, p5⟩ := R.fresh hy hm hl q2 q3 bk
        exact ⟨_, _, g', q1, p1, p2, p3, p4, p5⟩
      · cases h
    · rename_i c' k r off n
      obtain ⟨e1, h1⟩ := ite_some h
      subst e1
      clear h
      unfold apR at h1
      split at h1
      · rename_i T c2 l hk
        obtain ⟨⟨rfl, rfl, rfl, rfl⟩, h2⟩ := ite_some h1
        clear h1
        split at h2
        · rename_i hn
          subst hn
          obtain ⟨hb, h3⟩ := ite_some h2
          simp only [Option.some.injEq, Prod.mk.injEq] at h3
          obtain ⟨rfl, rfl⟩ := h3
          obtain ⟨cs0, r1, r2, r3⟩ := R.ow hk hs
          obtain ⟨v', w', q1, q2, q3, q4⟩ := app_src (ty := ty) E R.im r2 hx hm hb
          have hl : l.length + ys.length ≤ lim := Nat.le_trans (Nat.le_mul_of_pos_right _ hbp) hb
          obtain ⟨g', p1, p2, p3, p4, p5⟩ := R.append hk r1 r3 hy hm hl q2 q3 q4
          exact ⟨_, _, g', q1, p1, p2, p3, p4, p5⟩
        · rename_i hn
          unfold apI at h2
          split at h2
          · rename_i l' hl'
            simp only [Option.some.injEq, Prod.mk.injEq] at h2
            obtain ⟨rfl, rfl⟩ := h2
            obtain ⟨hll, hle⟩ := wrQ_len hl'
            have hpos : 0 < ys.length := by omega
            have hle := hle hpos
            rw [V] at hs
            rcases hs with ⟨h4, _, h5, _⟩ | ⟨bl, cap, hb, ⟨o, rfl, ho⟩, hcp, hncap⟩
            · omega
            · obtain rfl : o = 0 := by omega
              obtain ⟨cs0, r1, r2, r3, r4⟩ := R.ob _ _ _ _ _ _ hk bl hb
              rw [Nat.zero_add] at hcp
              subst hsz
              obtain ⟨s1, s2, s3⟩ := R.stores hk hb hl' hy
              have hroom : n + ys.length ≤ cap := by omega
              have hyl := hy.len
              have hci : 0 < news.length → 0 < i.size := fun h => by
                rw [hyl] at h
                exact Nat.pos_of_mul_pos_left h
              have hrun := run_append_room_src (P := P) w t tx ty _ i E.und hif bl 0 n cap x ys.length _ hx hroom (fun j hj => by
                have hc0 := hci (by omega)
                have hq : j / i.size < ys.length := by
                  rw [hyl] at hj
                  exact Nat.div_lt_of_lt_mul (by rw [Nat.mul_comm]; exact hj)
                obtain ⟨x0, hx0⟩ : ∃ x0, l[n + j / i.size]? = some x0 := ⟨_, List.getElem?_eq_getElem (by omega)⟩
                obtain ⟨u', p1, p2, p3, p4⟩ := R.cell hk hb hx0
                have hm := Nat.mod_lt j hc0
                have e3 : 0 + n * i.size + j = (n + j / i.size) * i.size + j % i.size := by
                  rw [Nat.add_mul, Nat.zero_add, Nat.add_assoc, Nat.mul_comm (j / i.size), Nat.div_add_mod]
                rw [e3, p3 _ hm, Array.getElem?_eq_getElem (by omega)]; rfl) (fun j hj => by
                obtain ⟨x0, hx0⟩ : ∃ x0, l[n]? = some x0 := ⟨_, List.getElem?_eq_getElem (by omega)⟩
                obtain ⟨u', p1, p2, p3, p4⟩ := R.cell hk hb hx0
                exact p4 rfl _)
              rw [Nat.zero_add] at hrun
              refine ⟨_, _, g, hrun, .rfl, s1, s2, ?_, s3⟩
              rw [V]
              exact .inr ⟨bl, cap, hb, ⟨0, rfl, .inr (by simp)⟩, by rw [Nat.zero_add]; exact hcp, hroom⟩
          · cases h2
      · cases h1
    · rename_i c' k r off n
      obtain ⟨e1, h1⟩ := ite_some h
      subst e1
      clear h
      unfold apL at h1
      split at h1
      · rename_i T c2 l live hf hk
        obtain ⟨⟨rfl, rfl, hn, hb⟩, h2⟩ := ite_some h1
        clear h1
        simp only [Option.some.injEq, Prod.mk.injEq] at h2
        obtain ⟨rfl, rfl⟩ := h2
        rw [V] at hs
        obtain ⟨bl, o, hb2, rfl, ho⟩ := hs
        obtain ⟨cs, r1, r2⟩ := row_cells R hk hb2 hn
        have hll : ((l.drop off).take n).length = n := by rw [List.length_take, List.length_drop, Nat.min_eq_left (by omega)]
        have hlen := r1.len
        rw [hll] at hlen
        have hmax : n + ys.length ≤ lim := Nat.le_trans (Nat.le_mul_of_pos_right _ hbp) hb
        subst hsz hby
        have hold : (Builtin.firstCells i.size n (.slice (some ⟨bl, o, none⟩) n n)).run P w.drew = .ok cs.toArray w.drew := by
          refine run_firstCells_some w.drew i.size n _ n n cs hlen fun j q hq => ?_
          have hn0 : 0 < n := by
            rcases Nat.eq_zero_or_pos n with h | h
            · subst h; have := (List.getElem?_eq_some_iff.1 hq).1; rw [hlen, Nat.zero_mul] at this; omega
            · exact h
          obtain rfl : o = off * i.size := by omega
          rw [Addr.add_lit]
          exact r2 j q hq
        have h63 : n + ys.length ≤ maxLen := by simp only [maxLen]; unfold lim at hmax; omega
        have hrun := run_append_grow_src (P := P) w t tx ty e i zv E.und hif hz (some ⟨bl, o, none⟩) n n cs hold x ys.length news hx (by omega) (by simp only [maxLen] at h63; omega) (growslice_fits (by omega) hb)
        have ho2 := own_new R.im E hzc (xs := cs ++ news) (n := n + ys.length) (cap := grownCap w (n + ys.length) n e) (by rw [List.length_append, hlen, hx.newsLen, Nat.add_mul]) (grownCap_ge w _ _ e) (grownCap_le_maxLen w _ _ e h63)
        have hv2 : Vc i.size ((l.drop off).take n ++ ys) g (cs ++ news) := r1.app hy
        have hl2 : ((l.drop off).take n ++ ys).length = n + ys.length := by rw [List.length_append, hll]
        obtain ⟨g', p1, p2, p3, p4, p5⟩ := R.fresh (e := e) (v' := .slice (some ⟨w.heap.size, 0, none⟩) (n + ys.length) (grownCap w (n + ys.length) n e)) hv2 (by rw [hl2]; omega) (by rw [hl2]; exact hmax) (by rw [hl2]; exact ho2) (grown_new _ _ _) rfl
        rw [hl2] at p4
        exact ⟨_, _, g', hrun, p1, p2, p3, p4, p5⟩
      · cases h1
    · cases h
end
end Go.Proofs.YtlgdojkmbfbnjaaGreatDoor

namespace Go.Proofs.YtlgdojkmbfbnjaaGreatDoor
open Go.RowKit

section
variable {P : Program} {H H' : AS} {g : Gh} {w : World} {t tx ty e : TypeId} {c b : Nat}
/-- append(nil, make([]T, n)...). -/
def apZ (H : AS) (e c b : Nat) (za s x : AV) : Option (AV × AS) := match s with
  | .vl v => (match v with
    | .slice none 0 0 => (match x with
      | .vl v => (match v with
        | .int _ i => (match i with
          | .ofNat n => if 0 < n ∧ n * b ≤ lim then some (.rf c H.length n 0 n, H ++ [.row e c (List.replicate n za) true false]) else none
          | .negSucc _ => none)
        | _ => none)
      | _ => none)
    | _ => none)
  | _ => none
theorem apZ_ok {kn : IntKind} {za s x y : AV} {u v : Value} (ht : elA P t = some (e, c, b)) (hz : zrA P e = some za) (htx : P.underlying tx = some (.int kn)) (h : apZ H e c b za s x = some (y, H')) (R : RelH g H w) (hs : V s g u) (hx : V x g v) : OkV P g w H (Builtin.append_ #[t, tx] ty #[u, v]) y H' := by
  obtain ⟨zz, E, hu, i, zv, hi, hsz, hby, hz2, hzs, hc⟩ := elA_ok ht
  unfold zrA at hz
  rw [hi] at hz
  simp only [hz2, Option.map_some, Option.some.injEq] at hz
  subst hz
  have hbp := E.bpos
  unfold apZ at h
  split at h
  · split at h
    · split at h
      · split at h
        · rename_i k i0
          split at h
          · rename_i n
            obtain ⟨⟨h0, hb⟩, h1⟩ := ite_some h
            simp only [Option.some.injEq, Prod.mk.injEq] at h1
            obtain ⟨rfl, rfl⟩ := h1
            rw [V] at hs
            rw [V] at hx
            subst hs hx
            subst hsz hby
            have hn : n ≤ lim := Nat.le_trans (Nat.le_mul_of_pos_right _ hbp) hb
            have hmax : n ≤ maxLen := by simp only [maxLen]; unfold lim at hn; omega
            have hrun := Lib.run_append_nil_zeros (P := P) w t tx ty e i zv k kn hu htx hi hz2 n h0 hc (by simp only [maxLen] at hmax; omega) (by unfold lim at hb; omega)
            have ez : Builtin.zeroCells zv.cells n = madeCells zv.cells (n * i.size) := by rw [← hzs]; rfl
            have hv := Vc_rep (V_cst g zv) hzs n
            have hmk := mk_cells zv.cells i.size hzs hc n
            rw [← hmk, ← ez] at hv
            obtain ⟨i2, zv2, hi2, hz3, hsz2, hby2, hzc⟩ := E.info
            rw [hi] at hi2
            obtain rfl := Option.some.inj hi2
            rw [hz2] at hz3
            obtain rfl := Option.some.inj hz3
            have hlr : (Builtin.zeroCells zv.cells n).toList.length = n * i.size := by rw [Array.length_toList, size_zeroCells, hzs]
            have ho := own_new R.im E hzc (xs := (Builtin.zeroCells zv.cells n).toList) (n := n) (cap := grownCap w n 0 e) hlr (grownCap_ge w _ _ e) (grownCap_le_maxLen w _ _ e hmax)
            rw [Array.toArray_toList] at ho
            obtain ⟨g', p1, p2, p3, p4, p5⟩ := R.fresh (e := e) (v' := .slice (some ⟨w.heap.size, 0, none⟩) n (grownCap w n 0 e)) hv (by simpa using h0) (by simpa using hn) (by simpa using ho) (grown_new _ _ _) rfl
            rw [List.length_replicate] at p4
            exact ⟨_, _, g', hrun, p1, p2, p3, p4, p5⟩
          · cases h
        · cases h
      · cases h
    · cases h
  · cases h
/-- make([]T, n, m). -/
def mkE (H : AS) (e c b : Nat) (za x y : AV) : Option (AV × AS) := match x with
  | .vl v => (match v with
    | .int _ i => (match i with
      | .ofNat n => (match y with
        | .vl v => (match v with
          | .int _ i => (match i with
            | .ofNat m => if n ≤ m ∧ m * b ≤ lim then some (.rf c H.length m 0 n, H ++ [.row e c (List.replicate m za) true false]) else none
            | .negSucc _ => none)
          | _ => none)
        | _ => none)
      | .negSucc _ => none)
    | _ => none)
  | _ => none
theorem mkE_ok {za x y z : AV} {u v : Value} (ht : elA P t = some (e, c, b)) (hz : zrA P e = some za) (h : mkE H e c b za x y = some (z, H')) (R : RelH g H w) (hx : V x g u) (hy : V y g v) : OkV P g w H (Instr.makeSlice t u v) z H' := by
  obtain ⟨zz, E, hu, i, zv, hi, hsz, hby, hz2, hzs, hc⟩ := elA_ok ht
  unfold zrA at hz
  rw [hi] at hz
  simp only [hz2, Option.map_some, Option.some.injEq] at hz
  subst hz
  have hbp := E.bpos
  unfold mkE at h
  split at h
  · split at h
    · rename_i k1 _
      split at h
      · rename_i n
        split at h
        · split at h
          · rename_i k2 _
            split at h
            · rename_i m
              obtain ⟨⟨hnm, hb⟩, h1⟩ := ite_some h
              simp only [Option.some.injEq, Prod.mk.injEq] at h1
              obtain ⟨rfl, rfl⟩ := h1
              rw [V] at hx
              rw [V] at hy
              subst hx hy
              subst hsz hby
              have hm : m ≤ lim := Nat.le_trans (Nat.le_mul_of_pos_right _ hbp) hb
              obtain ⟨q1, q2, q3, q5⟩ := R.new e i.size (List.replicate m (cst zv)) false _ (Vc_rep (V_cst g zv) hzs m) (by simpa using hm)
              rw [List.length_replicate] at q1 q2 q3 q5
              have hbytes : (i.bytes : Int) * (m : Int) ≤ 281474976710656 := by
                have hcast : (i.bytes : Int) * (m : Int) = ((m * i.bytes : Nat) : Int) := by rw [Int.natCast_mul, Int.mul_comm]
                unfold lim at hb; omega
              have hrun := run_make (P := P) w t e i zv hu hi hz2 k1 k2 (n : Int) (m : Int) (by omega) (by omega) hbytes (by unfold lim at hm; omega)
              simp only [Int.toNat_natCast] at hrun
              rw [← mk_cells zv.cells i.size hzs hc m] at q1 q3
              refine ⟨_, _, _, hrun, q2, q1, q3, ?_, q5⟩
              rw [V]
              exact .inr ⟨w.heap.size, m, (Gh.put_s _ _ _ _ _).1, ⟨0, rfl, .inr (by simp)⟩, by rw [(Gh.put_s _ _ _ _ _).2]; simp, hnm⟩
            · cases h
          · cases h
        · cases h
      · cases h
    · cases h
  · cases h
/-- make(map). -/
theorem mm_ok (R : RelH g H w) : OkV P g w H (Instr.makeMap t none) (.mr H.length) (H ++ [.mp []]) := by
  obtain ⟨g', q1, q2, q3, q4, q5⟩ := R.mnew (.mp []) (.map #[] 0) rfl 0 fun g' h1 h2 h3 => ⟨#[], heap_alloc_new w _, by simp [Ve]⟩
  exact ⟨.map (some w.heap.size), _, g', by simp [Instr.makeMap, newObj]; rfl, q1, q3, q4, by rw [V]; exact ⟨_, q2, rfl⟩, q5⟩
end
end Go.Proofs.YtlgdojkmbfbnjaaGreatDoor

namespace Go.Proofs.YtlgdojkmbfbnjaaGreatDoor
open Go.RowKit

theorem freeze_blk (w : World) (b n : Nat) {cur : Array Value} {T : TypeId} {fz0 : Nat × Nat} (h : w.heap[b]? = some (.cells cur T fz0)) : (∀ k, k ≠ b → (w.freeze ⟨b, 0, none⟩ n).heap[k]? = w.heap[k]?) ∧ (∃ fz, (w.freeze ⟨b, 0, none⟩ n).heap[b]? = some (.cells cur T fz)) ∧ (w.freeze ⟨b, 0, none⟩ n).heap.size = w.heap.size ∧ (w.freeze ⟨b, 0, none⟩ n).os = w.os ∧ (w.freeze ⟨b, 0, none⟩ n).tape = w.tape ∧ (w.freeze ⟨b, 0, none⟩ n).output = w.output := by
  unfold World.freeze
  split
  · exact ⟨fun _ _ => rfl, ⟨_, h⟩, rfl, rfl, rfl, rfl⟩
  · refine ⟨fun k hk => ?_, ?_, by simp, rfl, rfl, rfl⟩
    · simp only [Array.getElem?_modify]
      rw [if_neg fun e => hk e.symm]
    · simp only [Array.getElem?_modify, h, if_true, Option.map_some]
      exact ⟨_, rfl⟩
/-- A row that is dead anyhow: its block may be frozen. -/
theorem RelH.frozen {g : Gh} {H : AS} {w w' : World} (R : RelH g H w) {k b : Nat} {T : TypeId} {c : Nat} {l : List AV} {hf : Bool} (e : H[k]? = some (.row T c l false hf)) (hb : g.s k l.length = some b) {cc : Array Value} (hcc : g.h b = some cc) (h1 : ∀ q, q ≠ b → w'.heap[q]? = w.heap[q]?) {fz : Nat × Nat} (h2 : w'.heap[b]? = some (.cells cc T fz)) (h3 : w'.heap.size = w.heap.size) : RelH g H w' := by
  refine ⟨fun q c1 hq => ?_, fun k1 T1 c1 l1 live1 hf1 e1 b1 hb1 => ?_, R.ver, R.inj, fun k1 r1 b1 h => by rw [h3]; exact R.lo _ _ _ h, R.mbK .rfl fun k1 o e1 hm => ⟨e1, fun b1 hb1 => ⟨hb1, h1 b1 fun e2 => ?_, rfl⟩⟩⟩
  · by_cases hqb : q = b
    · subst hqb
      rw [hcc] at hq
      obtain rfl := Option.some.inj hq
      unfold Go.Proofs.YtlgdojkmbfbnjaaGreatDoor.blk
      rw [h2]
    · have := R.im q c1 hq
      unfold Go.Proofs.YtlgdojkmbfbnjaaGreatDoor.blk at this ⊢
      rw [h1 q hqb]; exact this
  · by_cases hkk : k1 = k
    · subst hkk
      rw [e] at e1
      simp only [Option.some.injEq, AO.row.injEq] at e1
      obtain ⟨rfl, rfl, rfl, rfl, rfl⟩ := e1
      exact R.ob _ _ _ _ _ _ e b1 hb1
    · exact (R.ob _ _ _ _ _ _ e1 b1 hb1).mono .rfl hb1 (h1 b1 fun e2 => hkk (by subst e2; exact R.inj _ _ _ _ _ hb1 hb)) fun _ => rfl
  · subst e2
    obtain rfl := R.inj _ _ _ _ _ hb1 hb
    rw [e] at e1
    obtain rfl := Option.some.inj e1
    cases hm
theorem TX.frozen {g : Gh} {w w' : World} {b : Nat} (hb : img g b) (h1 : ∀ q, q ≠ b → w'.heap[q]? = w.heap[q]?) (h3 : w'.heap.size = w.heap.size) (h4 : w'.os = w.os) (h5 : w'.tape = w.tape) (h6 : w'.output = w.output) : TX g w g w' :=
  ⟨⟨h4, h5, h6, by rw [h3]; exact Nat.le_refl _, fun k _ hn => h1 k fun e => hn (by subst e; exact hb)⟩, fun _ h => .inl h, fun _ => .inl (Eq.refl _)⟩
def usE (e : TypeId) (H : AS) (p x : AV) : Option (AV × AS) := match p with
  | .pt c k r i j => (match x with
    | .vl v => (match v with
      | .int kk n => (match n with
        | .ofNat n => (match H[k]? with
          | some (.row T c2 l true hf) => if T = e ∧ c = 1 ∧ c2 = 1 ∧ i = 0 ∧ j = 0 ∧ r = l.length ∧ n = l.length ∧ 0 < n ∧ kk = .i64 then (match bytesOf l with
            | some bs => some (.vl (.string ⟨⟨bs⟩⟩), H.set k (.row T 1 l false hf))
            | none => none) else none
          | _ => none)
        | .negSucc _ => none)
      | _ => none)
    | _ => none)
  | _ => none
section
variable {P : Program} {H H' : AS} {g : Gh} {w : World} {pt it ty e : TypeId}
theorem usE_ok {p x y : AV} {u v : Value} (hp : P.underlying pt = some (.pointer e)) (hc : P.cellsOf e = 1)  (h : usE e H p x = some (y, H')) (R : RelH g H w) (h1 : V p g u) (h2 : V x g v) : OkV P g w H (Builtin.unsafeString_ #[pt, it] ty #[u, v]) y H' := by
  unfold usE at h
  split at h
  · rename_i c k r i j
    split at h
    · split at h
      · rename_i kk _
        split at h
        · rename_i n
          split at h
          · rename_i T c2 l hf hk
            obtain ⟨hh, h3⟩ := ite_some h
            obtain ⟨rfl, rfl, rfl, rfl, rfl, rfl, rfl, h0, rfl⟩ := hh
            clear h
            split at h3
            · rename_i bs hbs
              simp only [Option.some.injEq, Prod.mk.injEq] at h3
              obtain ⟨rfl, rfl⟩ := h3
              rw [V] at h1
              rw [V] at h2
              obtain ⟨b, hb, rfl⟩ := h1
              subst h2
              obtain ⟨cs, q1, q2, q3, q4⟩ := R.ob _ _ _ _ _ _ hk b hb
              have q1g : Vc 1 l g cs := by
                cases hf
                · exact q1
                · exact Vc.mono 1 l _ _ cs g.z_le q1
              have hcs := bytesOf_ok hbs q1g
              have hbl : bs.length = l.length := by
                have := q1g.len
                rw [hcs, List.length_map] at this; omega
              obtain ⟨cur, cap, e1, e2, e3, _⟩ := R.blk hk hb
              have hne : bs ≠ [] := fun e => by subst e; simp at hbl; omega
              have hrun := Lib.run_unsafeString_row (P := P) w pt it ty T hp hc b cur.size (by simp [World.shape?, e1]) bs hne (by rw [hbl, e2]; omega) (by rw [hbl]; omega) fun j x hj => by
                rw [Addr.add_lit, Nat.zero_add]
                have hjl : j < l.length := by have := (List.getElem?_eq_some_iff.1 hj).1; omega
                obtain ⟨cs', r1, r2⟩ := row_cells R hk hb (off := 0) (n := l.length) (by omega)
                have : (l.drop 0).take l.length = l := by simp
                rw [this] at r1
                have hcs' := bytesOf_ok hbs r1
                have := r2 j (.int .u8 (x.toNat : Int)) (by rw [hcs', List.getElem?_map, hj]; rfl)
                simpa using this
              obtain ⟨p1, p2, cs2, cc, p3, p4, p5⟩ := R.gr hk hb
              have hcc : cc = cur := by
                have : blk w b = some cc := by
                  have h := p4
                  have h : (if b = b then blk w b else g.h b) = some cc := h
                  rwa [if_pos rfl] at h
                unfold Go.Proofs.YtlgdojkmbfbnjaaGreatDoor.blk at this
                rw [e1] at this
                exact (Option.some.inj this).symm
              subst hcc
              obtain ⟨f1, ⟨fz, f2⟩, f3, f4, f5, f6⟩ := freeze_blk w b bs.length e1
              have hk2 : (H.set k (.row T 1 l false hf))[k]? = some (.row T 1 l false hf) := by rw [List.getElem?_set_self (List.getElem?_eq_some_iff.1 hk).1]
              have R2 := p2.frozen hk2 hb p4 f1 f2 f3
              rw [hbl] at hrun
              refine ⟨_, _, _, by simpa using hrun, p1, by rw [← hbl]; exact R2, ?_, by rw [V], EX.set hk rfl fun _ _ => rfl⟩
              rw [← hbl]
              have T1 : TX g w (g.fz w b) w := TX.ghost ⟨fun _ _ => rfl, fun q => by
                show (if q = b then blk w b else g.h q) = g.h q ∨ img g q
                split
                · subst_vars; exact .inr ⟨k, _, hb⟩
                · exact .inl rfl⟩
              exact T1.trans (TX.frozen ⟨k, _, hb⟩ f1 f3 f4 f5 f6)
            · cases h3
          · cases h
        · cases h
      · cases h
    · cases h
  · cases h
end
end Go.Proofs.YtlgdojkmbfbnjaaGreatDoor
