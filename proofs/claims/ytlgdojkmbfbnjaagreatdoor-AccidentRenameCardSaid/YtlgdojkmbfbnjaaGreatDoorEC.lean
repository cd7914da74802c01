/- All operations together: what an operation gives holds of the model. -/
import Derived.Test.YtlgdojkmbfbnjaaGreatDoorEB
import Derived.Maps.RangeRun
namespace Go.Proofs.YtlgdojkmbfbnjaaGreatDoor
open Go.RowKit

def ncE (x : AV) : Option AV := match x with
  | .pt .. => some x
  | .pi .. => some x
  | .fn .. => some x
  | .fb .. => some x
  | _ => none
def mfE (_ : Program) (f : FuncId) (a b : List AV) : Option AV := match a with
  | [] => some (.fn f b)
  | _ :: _ => (match b with | [] => some (.fb f a) | _ :: _ => none)
/-- What the length is taken of: a text, a slice, a map. -/
def lnT (P : Program) (t : TypeId) : Nat := match P.underlying t with
  | some .string => 0
  | some (.slice _) => 1
  | some (.map _ _) => 2
  | _ => 3
def lnQ (n : Nat) (H : AS) (x : AV) : Option AV := match n with
  | 0 => lnS x
  | 1 => lnL x
  | 2 => lnM H x
  | _ => none
/-- Functions without a body: abi.NoEscape, bytealg.IndexByteString. -/
def extK (P : Program) (f : FuncId) : Nat := match P.funcs[f]? with
  | some fn => (match fn.body with
    | some _ => 0
    | none => if fn.name = "internal/abi.NoEscape" then 1 else if fn.name = "internal/bytealg.IndexByteString" then 2 else 0)
  | none => 0
structure ExtOk (P : Program) : Prop where
  a : ∀ f (v : Value) (w : World), extK P f = 1 → (callFunc f #[v]).run P w = .ok (.value v) w
  b : ∀ f (s : ByteArray) (c : Int) (w : World), extK P f = 2 → (callFunc f #[.string s, .int .u8 c]).run P w = .ok (.value (.int .i64 (firstIdx s c.toNat.toUInt8))) w
noncomputable def fiB (c : Nat) (l : List UInt8) : Nat → Int := List.rec (fun _ => .negSucc 0) (fun b _ ih i => bif Nat.beq b.toNat c then .ofNat i else ih (Nat.succ i)) l
theorem fiB_eq {c : UInt8} (s : ByteArray) : ∀ (l : List UInt8) (k : Nat), s.data.toList.drop k = l → (match (List.range' k l.length).find? fun i => s[i]! == c with | some i => (i : Int) | none => -1) = fiB c.toNat l k
  | [], k, h => rfl
  | b :: l, k, h => by
    have hk : s.data.toList[k]? = some b := by
      have := congrArg (·[0]?) h
      simpa using this
    have hs : s[k]! = b := by
      have hlt : k < s.size := by
        have := (List.getElem?_eq_some_iff.1 hk).1
        simpa using this
      rw [getElem!_pos s k hlt]
      rw [Array.getElem?_toList] at hk
      exact (Array.getElem?_eq_some_iff.1 hk).2
    rw [List.length_cons, List.range'_succ, List.find?_cons]
    show _ = (bif Nat.beq b.toNat c.toNat then Int.ofNat k else fiB c.toNat l (k + 1))
    rw [hs]
    by_cases e : b = c
    · subst e
      simp [Nat.beq_refl]
    · have e1 : (b == c) = false := by simpa using e
      have e2 : Nat.beq b.toNat c.toNat = false := by
        cases q : Nat.beq b.toNat c.toNat with
        | false => rfl
        | true => exact absurd (UInt8.toNat_inj.1 (Nat.eq_of_beq_eq_true q)) e
      rw [e1, e2]
      exact fiB_eq s l (k + 1) (by rw [← List.drop_drop, h]; rfl)
noncomputable def ibE (x y : AV) : Option AV := match x with
  | .vl v => (match v with
    | .string s => (match y with
      | .vl v => (match v with
        | .int k n => (match n with
          | .ofNat c => if k = .u8 ∧ c < 256 then some (.vl (.int .i64 (fiB c s.data.toList 0))) else none
          | .negSucc _ => none)
        | _ => none)
      | _ => none)
    | _ => none)
  | _ => none
/-- Values that only read. -/
noncomputable def valE (P : Program) (o : Oper) (F : List AV) (H : AS) : Option AV :=
  match o.op with
  | .move x | .assign x => some (evA F x)
  | .pick c x y => pkA (evA F c) (evA F x) (evA F y)
  | .nilCheck x => ncE (evA F x)
  | .binOp op t x y _ => bnE P op t (evA F x) (evA F y)
  | .unOp op _ x => unA op (evA F x)
  | .convert s d x => cvE P H s d (evA F x)
  | .build t ps => bldA P t (ps.toList.map fun p => (p.1, evA F p.2))
  | .load t p => (tyA P t).bind fun s => rdA H (evA F p) s.1 s.2
  | .slice t x lo hi mx => if slK P t (evA F x) = true then slE (evA F x) (lo.map (evA F)) (hi.map (evA F)) (mx.map (evA F)) else none
  | .fieldAddr s x f => (fiA P s f).bind fun q => faA (evA F x) q.1
  | .field s x f => (fiA P s f).bind fun q => fdA (evA F x) q.1 q.2.1 q.2.2
  | .indexAddr t x y => (elA P t).bind fun e => ixE e.2.1 (evA F x) (evA F y)
  | .index t x y => if isStrT P t = true then sxE (evA F x) (evA F y) else none
  | .extract x i => exxA (evA F x) i
  | .lookup t m k ok => lkV P H t ok (evA F m) (evA F k)
  | .makeFunc f a b => (match f with
    | .func f => mfE P f (a.toList.map (evA F)) (b.toList.map (evA F))
    | _ => none)
  | .call c => match c.callee, c.args.toList, c.argTypes.toList with
    | .builtin .len, [x], [t] => lnQ (lnT P t) H (evA F x)
    | .builtin .cap, [x], [t] => (elA P t).bind fun _ => cpN (evA F x)
    | .builtin .max, [x, y], _ => mxA true (evA F x) (evA F y)
    | .builtin .min, [x, y], _ => mxA false (evA F x) (evA F y)
    | .builtin .unsafeSliceData, [x], [_] => usd (evA F x)
    | .value (.func f), [x], _ => if extK P f = 1 then some (evA F x) else none
    | .value (.func f), [x, y], _ => if extK P f = 2 then ibE (evA F x) (evA F y) else none
    | _, _, _ => none
  | _ => none
theorem valE_ok {P : Program} (X : ExtOk P) {o : Oper} {F : List AV} {H : AS} {x : AV} {g : Gh} {w : World} {a : Act} (h : valE P o F H = some x) (f : RelF g F a) (R : RelH g H w) : ∃ v, (execOp a.eval o).run P w = .ok (.value v) w ∧ V x g v := by
  have val : ∀ {s : Sem Value} {r : Value}, s.run P w = .ok r w → (do pure (.value (← s)) : Sem Next).run P w = .ok (.value r) w := fun hs => by simp [hs, Result.andThen]
  have lift : ∀ {s : Sem Value} {z : AV}, execOp a.eval o = (do pure (.value (← s)) : Sem Next) → (∃ r, s.run P w = .ok r w ∧ V z g r) → ∃ v, (execOp a.eval o).run P w = .ok (.value v) w ∧ V z g v := fun he ⟨r, h1, h2⟩ => ⟨r, by rw [he]; exact val h1, h2⟩
  unfold valE at h
  split at h
  · rename_i y ho
    simp only [Option.some.injEq] at h; subst h
    exact ⟨_, by simp [execOp, ho], f.ev y⟩
  · rename_i y ho
    simp only [Option.some.injEq] at h; subst h
    exact ⟨_, by simp [execOp, ho], f.ev y⟩
  · rename_i c y z ho
    have hc := f.ev c
    unfold pkA at h
    split at h
    · rename_i b e
      simp only [Option.some.injEq] at h; subst h
      rw [e, V] at hc
      cases b
      · exact ⟨_, by simp [execOp, ho, hc, asBool], f.ev z⟩
      · exact ⟨_, by simp [execOp, ho, hc, asBool], f.ev y⟩
    · cases h
  · rename_i y ho
    have hx := f.ev y
    have key : x = evA F y ∧ ((∃ ad, a.eval y = .pointer (some ad)) ∨ ∃ f p q, a.eval y = .func (.func f) p q) := by
      unfold ncE at h
      split at h <;> simp only [Option.some.injEq, reduceCtorEq] at h
      · rename_i e
        rw [e, V] at hx
        obtain ⟨b, _, e3⟩ := hx
        exact ⟨by rw [← h, e], .inl ⟨_, e3⟩⟩
      · rename_i e
        rw [e, V] at hx
        obtain ⟨b, o, c, u, e3, _⟩ := hx
        exact ⟨by rw [← h, e], .inl ⟨_, e3⟩⟩
      · rename_i e
        rw [e, V] at hx
        obtain ⟨vs, e3, _⟩ := hx
        exact ⟨by rw [← h, e], .inr ⟨_, _, _, e3⟩⟩
      · rename_i e
        rw [e, V] at hx
        obtain ⟨vs, e3, _⟩ := hx
        exact ⟨by rw [← h, e], .inr ⟨_, _, _, e3⟩⟩
    obtain ⟨rfl, ⟨ad, e⟩ | ⟨f', p, q, e⟩⟩ := key
    · exact ⟨a.eval y, by simp [execOp, ho, e], hx⟩
    · exact ⟨a.eval y, by simp [execOp, ho, e], hx⟩
  · rename_i op t y z t' ho
    refine lift ?_ (bnE_ok h (f.ev y) (f.ev z) y z w)
    simp only [execOp, ho]
  · rename_i op t y ho
    exact lift (by simp only [execOp, ho]) (unA_ok h (f.ev y) w)
  · rename_i s d y ho
    exact lift (by simp only [execOp, ho]) (cvE_ok h R (f.ev y))
  · rename_i t ps ho
    exact lift (by simp only [execOp, ho]) (bldA_ok (pv := ps.map fun p => (p.1, a.eval p.2)) h (by simpa using evp f ps.toList) w)
  · rename_i t p ho
    obtain ⟨s, t1, t2⟩ := Option.bind_eq_some_iff.1 h
    exact lift (by simp only [execOp, ho]) (rdA_ok (P := P) t2 t1 R (f.ev p))
  · rename_i t y lo hi mx ho
    obtain ⟨t1, t2⟩ := ite_some h
    exact lift (by simp only [execOp, ho]) (slE_ok t2 t1 (f.ev y) (evo f lo) (evo f hi) (evo f mx) w)
  · rename_i s y fi ho
    obtain ⟨q, t1, t2⟩ := Option.bind_eq_some_iff.1 h
    exact lift (by simp only [execOp, ho]) (faA_ok (P := P) (o := q.1) (n := q.2.1) (b := q.2.2) t2 t1 (f.ev y) w)
  · rename_i s y fi ho
    obtain ⟨q, t1, t2⟩ := Option.bind_eq_some_iff.1 h
    exact lift (by simp only [execOp, ho]) (fdA_ok (P := P) (o := q.1) (n := q.2.1) (b := q.2.2) t2 t1 (f.ev y) w)
  · rename_i t y z ho
    obtain ⟨e1, t1, t2⟩ := Option.bind_eq_some_iff.1 h
    obtain ⟨zz, E, hu, i, zv, hi, hsz, _⟩ := elA_ok (c := e1.2.1) (b := e1.2.2) t1
    rw [← hsz] at t2
    exact lift (by simp only [execOp, ho]) (ixE_ok t2 hu hi (f.ev y) (f.ev z) w)
  · rename_i t y z ho
    obtain ⟨t1, t2⟩ := ite_some h
    have hu : P.underlying t = some .string := by
      unfold isStrT at t1
      split at t1
      · assumption
      · cases t1
    exact lift (by simp only [execOp, ho]) (sxE_ok t2 hu (f.ev y) (f.ev z) w)
  · rename_i y i ho
    exact lift (by simp only [execOp, ho]) (exA_ok (P := P) h (f.ev y) w)
  · rename_i t m k ok ho
    exact lift (by simp only [execOp, ho]) (lkV_ok h R (f.ev m) (f.ev k))
  · rename_i fn a1 b1 ho
    split at h
    · rename_i f0
      have ha := evs f a1.toList
      have hb := evs f b1.toList
      unfold mfE at h
      split at h
      · rename_i e
        simp only [Option.some.injEq] at h
        subst h
        have e1 : a1 = #[] := by have := congrArg List.length e; simp at this; exact this
        subst e1
        refine ⟨.func (.func f0) #[] (b1.map a.eval), by simp [execOp, ho, Instr.makeFunc], ?_⟩
        rw [V]
        exact ⟨_, by rw [← Array.toList_map, Array.toArray_toList], hb⟩
      · rename_i x0 l0 e
        split at h
        · rename_i e2
          simp only [Option.some.injEq] at h
          subst h
          have e1 : b1 = #[] := by have := congrArg List.length e2; simp at this; exact this
          subst e1
          refine ⟨.func (.func f0) (a1.map a.eval) #[], by simp [execOp, ho, Instr.makeFunc], ?_⟩
          rw [V]
          exact ⟨a1.toList.map a.eval, by rw [← Array.toList_map, Array.toArray_toList], ha⟩
        · cases h
    · cases h
  · rename_i c ho
    obtain ⟨callee, args, tys⟩ := c
    obtain ⟨args⟩ := args
    obtain ⟨tys⟩ := tys
    simp only at h
    split at h
    · rename_i y t
      have key : ∃ r, (Builtin.len_ #[t] o.type #[a.eval y]).run P w = .ok r w ∧ V x g r := by
        have ht : lnT P t = 0 → P.underlying t = some .string := fun e => by
          unfold lnT at e; split at e <;> first | assumption | cases e
        have ht1 : lnT P t = 1 → ∃ e, P.underlying t = some (.slice e) := fun e => by
          unfold lnT at e; split at e <;> first | exact ⟨_, ‹_›⟩ | cases e
        have ht2 : lnT P t = 2 → ∃ k e, P.underlying t = some (.map k e) := fun e => by
          unfold lnT at e; split at e <;> first | exact ⟨_, _, ‹_›⟩ | cases e
        generalize lnT P t = n at *
        unfold lnQ at h
        split at h
        · exact lnS_ok h (ht rfl) (f.ev y) w
        · obtain ⟨e, q⟩ := ht1 rfl; exact lnL_ok h q (f.ev y) w
        · obtain ⟨k, e, q⟩ := ht2 rfl; exact lnM_ok h q R (f.ev y)
        · cases h
      obtain ⟨r, q1, q2⟩ := key
      exact ⟨r, by simp [execOp, ho, resolve, invoke, builtin, q1, Result.andThen], q2⟩
    · rename_i y t
      obtain ⟨e1, t1, t2⟩ := Option.bind_eq_some_iff.1 h
      obtain ⟨zz, E, hu, _⟩ := elA_ok (c := e1.2.1) (b := e1.2.2) t1
      obtain ⟨r, q1, q2⟩ := cpN_ok (ty := o.type) t2 hu (f.ev y) w
      exact ⟨r, by simp [execOp, ho, resolve, invoke, builtin, q1, Result.andThen], q2⟩
    · rename_i y z
      obtain ⟨r, q1, q2⟩ := mxA_ok (P := P) h (f.ev y) (f.ev z) w
      simp only [if_true] at q1
      exact ⟨r, by simp [execOp, ho, resolve, invoke, builtin, Go.Builtin.max_, q1, Result.andThen], q2⟩
    · rename_i y z
      obtain ⟨r, q1, q2⟩ := mxA_ok (P := P) h (f.ev y) (f.ev z) w
      simp only [Bool.false_eq_true, if_false] at q1
      exact ⟨r, by simp [execOp, ho, resolve, invoke, builtin, Go.Builtin.min_, q1, Result.andThen], q2⟩
    · rename_i y t
      obtain ⟨r, q1, q2⟩ := usd_ok (P := P) (ty := o.type) h (f.ev y) w #[t]
      exact ⟨r, by simp [execOp, ho, resolve, invoke, builtin, q1, Result.andThen], q2⟩
    · rename_i fn y
      obtain ⟨h1, h2⟩ := ite_some h
      simp only [Option.some.injEq] at h2
      subst h2
      have hq := X.a fn (a.eval y) w h1
      exact ⟨a.eval y, by simpa [execOp, ho, resolve, invoke, Act.eval, Deferred.ofValue] using hq, f.ev y⟩
    · rename_i fn y z
      obtain ⟨h1, h2⟩ := ite_some h
      have hy := f.ev y
      have hz := f.ev z
      generalize evA F y = Y at *
      generalize evA F z = Z at *
      unfold ibE at h2
      split at h2
      · split at h2
        · rename_i s
          split at h2
          · split at h2
            · split at h2
              · rename_i c
                obtain ⟨⟨rfl, hc⟩, h3⟩ := ite_some h2
                simp only [Option.some.injEq] at h3
                subst h3
                rw [V] at hy
                rw [V] at hz
                have hq := X.b fn s (c : Int) w h1
                refine ⟨.int .i64 (fiB c s.data.toList 0), ?_, by rw [V]⟩
                have e8 : (c.toUInt8).toNat = c := by simp [Nat.toUInt8, UInt8.toNat_ofNat']; omega
                have e9 : firstIdx s c.toUInt8 = fiB c s.data.toList 0 := by
                  have := fiB_eq (c := c.toUInt8) s s.data.toList 0 rfl
                  rw [e8] at this
                  rw [← this]
                  unfold firstIdx
                  rw [List.range_eq_range']
                  rfl
                rw [show (c : Int).toNat = c from rfl, e9] at hq
                have hz' : a.eval z = .int .u8 (c : Int) := hz
                have e0 : a.eval (.func fn) = .func (.func fn) #[] #[] := rfl
                simpa [execOp, ho, resolve, invoke, e0, Deferred.ofValue, hy, hz'] using hq
              · cases h2
            · cases h2
          · cases h2
        · cases h2
      · cases h2
    · cases h
  · cases h
end Go.Proofs.YtlgdojkmbfbnjaaGreatDoor

namespace Go.Proofs.YtlgdojkmbfbnjaaGreatDoor
open Go.RowKit

def mkN (e c b : Nat) (za x y : AV) : Option (AO × (Nat → AV)) := match x with
  | .vl v => (match v with
    | .int _ i => (match i with
      | .ofNat n => (match y with
        | .vl v => (match v with
          | .int _ i => (match i with
            | .ofNat m => if n ≤ m ∧ m * b ≤ lim then some (.row e c (List.replicate m za) true false, fun k => .rf c k m 0 n) else none
            | .negSucc _ => none)
          | _ => none)
        | _ => none)
      | .negSucc _ => none)
    | _ => none)
  | _ => none
/-- New objects. -/
def newE (P : Program) (o : Oper) (F : List AV) : Option (AO × (Nat → AV)) := match o.op with
  | .makeSlice t l c => (elA P t).bind fun e => (zrA P e.1).bind fun z => mkN e.1 e.2.1 e.2.2 z (evA F l) (evA F c)
  | _ => newA P (fun _ => false) o F
section
variable {P : Program}
theorem newE_ok {o : Oper} {F : List AV} {x : AO} {mk : Nat → AV} {g : Gh} {a : Act} (h : newE P o F = some (x, mk)) (f : RelF g F a) (w : World) :
    ∃ T c l hf v cs, x = .row T c l true hf ∧ (execOp a.eval o).run P w = .ok (.value v) (w.alloc (.cells cs.toArray T)) ∧ Vc c l (if hf then g.z else g) cs ∧ l.length ≤ 140737488355328 ∧ ∀ g' n, g'.s n l.length = some w.heap.size → g'.cp n l.length = l.length → V (mk n) g' v := by
  unfold newE at h
  split at h
  · rename_i t l c ho
    obtain ⟨⟨e, cc, b⟩, t1, h'⟩ := Option.bind_eq_some_iff.1 h
    clear h
    obtain ⟨za, t2, h⟩ := Option.bind_eq_some_iff.1 h'
    clear h'
    simp only at h t2
    obtain ⟨zz, E, hu, i, zv, hi, hsz, hby, hz2, hzs, hc⟩ := elA_ok t1
    unfold zrA at t2
    rw [hi] at t2
    simp only [hz2, Option.map_some, Option.some.injEq] at t2
    subst t2
    have hx := f.ev l
    have hy := f.ev c
    have hbp := E.bpos
    generalize evA F l = X at *
    generalize evA F c = Y at *
    unfold mkN at h
    split at h
    · split at h
      · rename_i k1 _
        split at h
        · rename_i n
          split at h
          · split at h
            · rename_i k2 _
              split at h
              · rename_i m
                obtain ⟨⟨hnm, hb⟩, h1⟩ := ite_some h
                simp only [Option.some.injEq, Prod.mk.injEq] at h1
                obtain ⟨rfl, rfl⟩ := h1
                rw [V] at hx
                rw [V] at hy
                subst hsz hby
                have hm : m ≤ lim := Nat.le_trans (Nat.le_mul_of_pos_right _ hbp) hb
                have hbytes : (i.bytes : Int) * (m : Int) ≤ 281474976710656 := by
                  have hcast : (i.bytes : Int) * (m : Int) = ((m * i.bytes : Nat) : Int) := by rw [Int.natCast_mul, Int.mul_comm]
                  unfold lim at hb; omega
                have hrun := run_make (P := P) w t e i zv hu hi hz2 k1 k2 (n : Int) (m : Int) (by omega) (by omega) hbytes (by unfold lim at hm; omega)
                simp only [Int.toNat_natCast] at hrun
                refine ⟨_, _, _, _, .slice (some ⟨w.heap.size, 0, none⟩) n m, (List.replicate m zv.cells.toList).flatten, rfl, ?_, ?_, by simpa using hm, fun g' k h1 h2 => ?_⟩
                · rw [← mk_cells zv.cells i.size hzs hc]
                  have e1 : a.eval l = .int k1 (n : Int) := hx
                  have e2 : a.eval c = .int k2 (m : Int) := hy
                  simp [execOp, ho, e1, e2, hrun, Result.andThen]
                · exact Vc_rep (V_cst g zv) hzs m
                · rw [List.length_replicate] at h1 h2
                  rw [V]
                  exact .inr ⟨w.heap.size, m, h1, ⟨0, rfl, .inr (by simp)⟩, by rw [h2]; simp, hnm⟩
              · cases h
            · cases h
          · cases h
        · cases h
      · cases h
    · cases h
  · exact newA_ok h f w
theorem newE_row {o : Oper} {F : List AV} {r : AO × (Nat → AV)} (h : newE P o F = some r) : ∃ T c l hf, r.1 = .row T c l true hf := by
  unfold newE at h
  split at h
  · obtain ⟨⟨e, cc, b⟩, t1, h⟩ := Option.bind_eq_some_iff.1 h
    obtain ⟨za, t2, h⟩ := Option.bind_eq_some_iff.1 h
    unfold mkN at h
    repeat' split at h
    all_goals first
      | (cases h; done)
      | (obtain ⟨_, h1⟩ := ite_some h; simp only [Option.some.injEq] at h1; subst h1; exact ⟨_, _, _, _, rfl⟩)
      | (simp only [Option.some.injEq] at h; subst h; exact ⟨_, _, _, _, rfl⟩)
  · exact newA_row h
theorem newE_congr {o : Oper} {F F' : List AV} (h : agr F F' o) : newE P o F = newE P o F' := by
  unfold newE
  split
  · rename_i ho
    unfold agr at h
    rw [ho] at h
    simp only [Op.operands] at h
    simp at h
    simp only [h]
  · exact newA_congr h
end
def kdE (P : Program) (o : Op) : Nat := match o with
  | .load .. => 1
  | .lookup .. => 1
  | .convert s d _ => (match P.underlying s, P.underlying d with
    | some (.int _), some (.int _) => 0
    | _, _ => 1)
  | .alloc _ | .box .. | .makeSlice .. | .buildSlice .. => 2
  | .store .. | .makeMap .. | .mapUpdate .. | .mapEntry .. | .entryStore .. | .range .. | .entry .. => 3
  | .call c => (match c.callee with
    | .builtin .len => (match c.argTypes.toList with
      | [t] => (match lnT P t with | 0 => 0 | 1 => 0 | _ => 1)
      | _ => 3)
    | .builtin .cap | .builtin .max | .builtin .min | .builtin .unsafeSliceData => 0
    | .value (.func f) => (match extK P f with | 0 => 3 | _ => 0)
    | _ => 3)
  | _ => 0
theorem kdE_le {P : Program} (o : Op) : kdE P o ≤ 3 := by
  unfold kdE
  repeat' split
  all_goals omega
section
variable {P : Program}
theorem valE_pure {o : Oper} {F : List AV} {H H' : AS} (h : kdE P o.op = 0) : valE P o F H = valE P o F H' := by
  unfold valE
  split <;> rename_i ho <;> first
    | rfl
    | (rw [ho] at h; simp [kdE] at h; done)
    | skip
  · rw [ho] at h
    unfold kdE at h
    simp only at h
    unfold cvE
    split at h
    · rename_i e1 e2; rw [e1, e2]
    · cases h
  · rename_i c
    rw [ho] at h
    unfold kdE at h
    simp only at h
    obtain ⟨callee, args, tys⟩ := c
    obtain ⟨tys⟩ := tys
    simp only at h ⊢
    split <;> first | rfl | skip
    rename_i y t e1
    simp only at h
    generalize lnT P t = n at *
    unfold lnQ
    match n, h with
    | 0, _ => rfl
    | 1, _ => rfl
    | n + 2, h => simp at h
theorem elsA_app {H : AS} {x : AV} {r : Nat × List AV} (q : AO) (h : elsA H x = some r) : elsA (H ++ [q]) x = some r := by
  unfold elsA at h ⊢
  split at h
  · exact h
  · rename_i c k r off n
    split at h
    · rename_i e
      rw [List.getElem?_append_left (List.getElem?_eq_some_iff.1 e).1, e]; exact h
    · cases h
  · cases h
theorem mpE_app {H : AS} {x : AV} {r : List (AV × AV)} (q : AO) (h : mpE H x = some r) : mpE (H ++ [q]) x = some r := by
  unfold mpE at h ⊢
  split at h
  · split at h
    · rename_i e
      rw [List.getElem?_append_left (List.getElem?_eq_some_iff.1 e).1, e]; exact h
    · cases h
  · exact h
  · cases h
theorem cvE_app {H : AS} {s d : TypeId} {x z : AV} (q : AO) (h : cvE P H s d x = some z) : cvE P (H ++ [q]) s d x = some z := by
  unfold cvE at h ⊢
  split at h
  · exact h
  · exact h
  · split at h
    · split at h
      · rename_i e3 e4
        rw [List.getElem?_append_left (List.getElem?_eq_some_iff.1 e3).1, e3, e4]; exact h
      · cases h
    · cases h
  · split at h
    · split at h
      · rename_i e3 e4
        rw [List.getElem?_append_left (List.getElem?_eq_some_iff.1 e3).1, e3, e4]; exact h
      · cases h
    · cases h
  · split at h
    · split at h
      · exact h
      · rename_i hne
        split at h
        · rename_i l e4
          rw [elsA_app q e4]; exact h
        · cases h
    · cases h
  · cases h
theorem valE_app {o : Oper} {F : List AV} {H : AS} {x : AV} (q : AO) (h : valE P o F H = some x) : valE P o F (H ++ [q]) = some x := by
  by_cases hk : kdE P o.op = 0
  · rw [valE_pure (H' := H) hk]; exact h
  · unfold valE at h ⊢
    split at h <;> first
      | exact h
      | skip
    · exact cvE_app q h
    · obtain ⟨s, t1, t2⟩ := Option.bind_eq_some_iff.1 h
      rw [t1]
      exact rdA_app q t2
    · unfold lkV at h ⊢
      split at h
      · obtain ⟨t1, h⟩ := ite_some h
        rw [if_pos t1]
        split at h
        · rename_i e1 e2
          rw [e1, mpE_app q e2]; exact h
        · cases h
      · cases h
    · rename_i c ho
      split at h <;> first
        | exact h
        | skip
      · rename_i y t e1 e2 e3
        unfold lnQ at h ⊢
        split at h
        · exact h
        · exact h
        · unfold lnM at h ⊢
          obtain ⟨r, e4, e5⟩ := Option.map_eq_some_iff.1 h
          rw [mpE_app q e4]; simp [e5]
        · cases h
end
end Go.Proofs.YtlgdojkmbfbnjaaGreatDoor

namespace Go.Proofs.YtlgdojkmbfbnjaaGreatDoor
open Go.RowKit

/-- An iterator over a map comes. -/
def rgE (P : Program) (H : AS) (t : TypeId) (x : AV) : Option AS := match P.underlying t with
  | some (.map _ _) => (match x with
    | .vl v => (match v with | .map none => some (H ++ [.ir none 0 none]) | _ => none)
    | .mr q => (match H[q]? with | some (.mp es) => some (H ++ [.ir (some q) es.length none]) | _ => none)
    | _ => none)
  | _ => none
/-- The entry that came last. -/
def enE (H : AS) (x : AV) : Option AV := match x with
  | .it k => (match H[k]? with
    | some (.ir (some q) n (some i)) => (match H[q]? with
      | some (.mp es) => if es.length = n then (match es[i]? with | some e => some (.tu [e.1, e.2]) | none => none) else none
      | _ => none)
    | _ => none)
  | _ => none
theorem Ve.born : ∀ {l : List (AV × AV)} {i : Nat} {g : Gh} {es : List MapEntry}, Ve l i g es → es.map (·.born) = List.range' i es.length
  | [], _, _, _, h => by rw [Ve] at h; subst h; rfl
  | y :: l, i, g, es, h => by
    rw [Ve] at h
    obtain ⟨e0, r, rfl, h1, h2, h3, h4⟩ := h
    rw [List.map_cons, List.length_cons, List.range'_succ, h4.born, h1]
section
variable {P : Program} {g : Gh} {H H' : AS} {w : World}
theorem rg_ok {t : TypeId} {x : AV} {v : Value} (h : rgE P H t x = some H') (R : RelH g H w) (hx : V x g v) : OkV P g w H (Instr.range t v) (.it H.length) H' := by
  unfold rgE at h
  split at h
  · rename_i kt et hu
    split at h
    · split at h
      · obtain rfl := Option.some.inj h
        rw [V] at hx
        subst hx
        obtain ⟨g', q1, q2, q3, q4, q5⟩ := R.mnew (.ir none 0 none) (.mapIter none 0 #[] 0) rfl 0 fun g' h1 h2 h3 => ⟨_, _, _, heap_alloc_new w _⟩
        refine ⟨.pointer (some ⟨w.heap.size, 0, none⟩), _, g', ?_, q1, q3, q4, by rw [V]; exact ⟨_, q2, rfl⟩, q5⟩
        simp [Instr.range, underlying, newObj, program, hu, Sem.run, Result.andThen]
      · cases h
    · rename_i q
      split at h
      · rename_i es hq
        obtain rfl := Option.some.inj h
        rw [V] at hx
        obtain ⟨bm, hs, rfl⟩ := hx
        obtain ⟨l, hl, hv⟩ := R.mb q _ hq bm hs
        obtain ⟨g', q1, q2, q3, q4, q5⟩ := R.mnew (.ir (some q) es.length none) (.mapIter (some bm) es.length #[] es.length) rfl 0 fun g' h1 h2 h3 => ⟨bm, #[], (h1.s _ _ _ hs).1, heap_alloc_new w _, by simp [h3], by simp, by simp, by simp⟩
        refine ⟨.pointer (some ⟨w.heap.size, 0, none⟩), _, g', ?_, q1, q3, q4, by rw [V]; exact ⟨_, q2, rfl⟩, q5⟩
        exact run_range_map w t kt et bm l es.length hu hl
      · cases h
    · cases h
  · cases h
theorem en_ok {x y : AV} {v : Value} (h : enE H x = some y) (R : RelH g H w) (hx : V x g v) : OkV P g w H (Instr.entry v) y H := by
  unfold enE at h
  split at h
  · rename_i k
    split at h
    · rename_i q n i hk
      split at h
      · rename_i es hq
        obtain ⟨hn, h2⟩ := ite_some h
        split at h2
        · rename_i e he
          obtain rfl := Option.some.inj h2
          rw [V] at hx
          obtain ⟨b, hb, rfl⟩ := hx
          obtain ⟨bm, s, k1, k2, k3, k4, k5, k6⟩ := R.mb k _ hk b hb
          obtain ⟨l, hl, hv⟩ := R.mb q _ hq bm k1
          obtain ⟨e0, p1, p2, p3, p4⟩ := hv.at i e he
          have hs := k6 i rfl
          have hnd : (l.toList.map (·.born)).Nodup := by rw [hv.born]; exact List.nodup_range'
          have hf : l.find? (·.born == i) = some e0 := by
            have := _root_.Go.find_born e0 l.toList hnd (List.mem_of_getElem? p1)
            rw [← Array.find?_toList]
            rw [p2, Nat.zero_add] at this; exact this
          refine ⟨.tuple #[e0.key, e0.val], w, g, ?_, .rfl, R, .rfl, by rw [V]; exact ⟨[e0.key, e0.val], rfl, by rw [Vs]; exact ⟨_, _, rfl, p3, by rw [Vs]; exact ⟨_, _, rfl, p4, by rw [Vs]⟩⟩⟩, .rfl⟩
          subst hn
          simp only [Instr.entry, getObj, Sem.run_bind, Sem.run, k2, hl, Result.andThen, hs, bne_self_eq_false, Bool.false_eq_true, if_false, hf]
          rfl
        · cases h2
      · cases h
    · cases h
  · cases h
end
end Go.Proofs.YtlgdojkmbfbnjaaGreatDoor

namespace Go.Proofs.YtlgdojkmbfbnjaaGreatDoor
open Go.RowKit

def kindB (P : Program) (t : TypeId) (x : AV) : Bool := match P.underlying t with
  | some .string => isStr x
  | some (.slice _) => !isStr x
  | _ => false
def intT (P : Program) (t : TypeId) : Bool := match P.underlying t with
  | some (.int _) => true
  | _ => false
/-- What 'append' appends. -/
def apQ (P : Program) (H : AS) (t t' : TypeId) (s x : AV) : Option (AV × AS) := (elA P t).bind fun e =>
  if intT P t' then (zrA P e.1).bind fun z => apZ H e.1 e.2.1 e.2.2 z s x
  else if kindB P t' x = true then (elsE H e.2.1 x).bind fun ys => if (isStr x || ys.all AV.okc) = true then apE H e.1 e.2.1 e.2.2 s ys else none else none
/-- The element of a pointer's type, one cell wide. -/
def ptE (P : Program) (t : TypeId) : Option TypeId := match P.underlying t with
  | some (.pointer e) => if P.cellsOf e = 1 then some e else none
  | _ => none
/-- What turns objects. -/
def wrE (P : Program) (o : Oper) (F : List AV) (H : AS) (K : AV → AS → Prop) : Prop :=
  match o.op with
  | .store t p y => bo (tyA P t) fun s => bo (wrA H (evA F p) (evA F y) s.1) fun H' => K .top H'
  | .makeMap _ none => K (.mr H.length) (H ++ [.mp []])
  | .mapUpdate t m k v => bo (muV P H t (evA F m) (evA F k) (evA F v)) fun H' => K .top H'
  | .mapEntry t m k => bo (meV P H t (evA F m) (evA F k)) fun r => K r.1 r.2
  | .entryStore _ m s v => bo (esV H (evA F m) (evA F s) (evA F v)) fun H' => K .top H'
  | .range t x => bo (rgE P H t (evA F x)) fun H' => K (.it H.length) H'
  | .entry x => bo (enE H (evA F x)) fun y => K y H
  | .call c => match c.callee, c.args.toList, c.argTypes.toList with
    | .builtin .append, [s, x], [t, t'] => bo (apQ P H t t' (evA F s) (evA F x)) fun r => K r.1 r.2
    | .builtin .unsafeString, [p, x], [pt, _] => bo (ptE P pt) fun e => bo (usE e H (evA F p) (evA F x)) fun r => K r.1 r.2
    | .value f, args, _ => (match evA F f with
      | .fn f l => CallA P f (args.map (evA F) ++ l) H K
      | .fb f l => CallA P f (l ++ args.map (evA F)) H K
      | _ => False)
    | _, _, _ => False
  | _ => False
def stE (P : Program) (o : Oper) (F : List AV) (H : AS) (K : AV → AS → Prop) : Prop := match kdE P o.op with
  | 2 => bo (newE P o F) fun r => K (r.2 H.length) (H ++ [r.1])
  | 3 => wrE P o F H K
  | _ => bo (valE P o F H) fun x => K x H
section
variable {P : Program}
theorem apQ_ok {H H' : AS} {t t' ty : TypeId} {s x y : AV} {g : Gh} {w : World} {u v : Value} (h : apQ P H t t' s x = some (y, H')) (R : RelH g H w) (hs : V s g u) (hx : V x g v) : OkV P g w H (Builtin.append_ #[t, t'] ty #[u, v]) y H' := by
  unfold apQ at h
  obtain ⟨⟨e, c, b⟩, t1, h1⟩ := Option.bind_eq_some_iff.1 h
  clear h
  simp only at h1
  split at h1
  · rename_i hi
    obtain ⟨z, t2, h2⟩ := Option.bind_eq_some_iff.1 h1
    have : ∃ kn, P.underlying t' = some (.int kn) := by
      unfold intT at hi
      split at hi
      · exact ⟨_, ‹_›⟩
      · cases hi
    obtain ⟨kn, hk⟩ := this
    exact apZ_ok t1 t2 hk h2 R hs hx
  · obtain ⟨hk, h2⟩ := ite_some h1
    clear h1
    obtain ⟨ys, h3, h4⟩ := Option.bind_eq_some_iff.1 h2
    clear h2
    obtain ⟨ho, h5⟩ := ite_some h4
    obtain ⟨zz, E, hu, i, zv, hi, hsz, hby, hz2, hzs, hc⟩ := elA_ok t1
    have hkind : kindOf P t' x := by
      unfold kindB at hk
      unfold kindOf
      split at hk
      · rename_i e1; rw [if_pos hk]; exact e1
      · rename_i e1
        rw [if_neg (by simpa using hk)]; exact ⟨_, e1⟩
      · cases hk
    have hall : ys.all AV.okc = true := by
      rw [Bool.or_eq_true] at ho
      rcases ho with ho | ho
      · unfold isStr at ho
        split at ho
        · rename_i s
          unfold elsE at h3
          simp only at h3
          obtain ⟨_, h6⟩ := ite_some h3
          simp only [Option.some.injEq] at h6
          subst h6
          exact List.all_eq_true.2 fun y hy => by
            obtain ⟨b, _, rfl⟩ := List.mem_map.1 hy
            rfl
        · cases ho
      · exact ho
    obtain ⟨news, q1, q2⟩ := elsE_ok h3 R hx hall hkind
    exact apE_ok E h5 R hs q1 q2
theorem wrE_ok {o : Oper} {F : List AV} {H : AS} {K : AV → AS → Prop} {g : Gh} {w : World} {a : Act} {next : Act → World → Prop} {Q : Exit → Act → World → Prop} (h : wrE P o F H K) (f : RelF g F a) (R : RelH g H w) (G : GoodA g H w o a K next) : o.wp P a w next Q := by
  have fromV : ∀ {s : Sem Value} {x H'}, (execOp a.eval o).run P w = (do pure (.value (← s)) : Sem Next).run P w → OkV P g w H s x H' → K x H' → o.wp P a w next Q := fun he ⟨v, w', g', q1, q2, q3, q4, q5, q6⟩ hk =>
    ops_val (v := v) (w' := w') (by rw [he]; simp [q1, Result.andThen]) (G _ _ _ _ _ q2 q3 q5 q4 q6 hk)
  have fromS : ∀ {s : Sem Next} {x H'}, execOp a.eval o = s → OkS P g w H s x H' → K x H' → o.wp P a w next Q := fun he ⟨v, w', g', q1, q2, q3, q4, q5, q6⟩ hk => by
    rcases q1 with q1 | ⟨q1, rfl⟩
    · exact ops_val (by rw [he]; exact q1) (G _ _ _ _ _ q2 q3 q5 q4 q6 hk)
    · exact ops_skip (by rw [he]; exact q1) (G _ _ _ _ _ q2 q3 q5 q4 q6 hk)
  have call : ∀ {fn : FuncId} {vs : List Value} {xs : List AV}, (execOp a.eval o).run P w = (callFunc fn vs.toArray).run P w → Vs xs g vs → CallA P fn xs H K → o.wp P a w next Q := fun {fn vs xs} he hv ⟨t0, hc⟩ => by
    have hc := hc g w _ R f.gl hv
    have hrun : (execOp a.eval o).run P w = .ok (.enter fn vs.toArray) w := by
      rw [he]
      unfold enterOk at t0
      split at t0
      · rename_i fd hfd
        simp only [Bool.and_eq_true, bne_iff_ne, ne_eq] at t0
        have hb2 : ¬ fd.body = none := by cases hb : fd.body <;> simp_all
        simp [hb2, callFunc, hfd, t0.2]
      · cases t0
    unfold Oper.wp
    rw [hrun, Oper.upon_enter]
    refine hc.mono fun e w' ⟨v, x, H', g', h1, h2, h3, h4, h5, h7, h6⟩ => ?_
    subst h1
    exact G _ _ _ _ _ h2 h3 h5 h4 h7 h6
  unfold wrE at h
  split at h
  · rename_i t p y ho
    obtain ⟨s, t1, h⟩ := bo_iff h
    obtain ⟨H', t3, h⟩ := bo_iff h
    obtain ⟨w', q1, q2, q3, q4⟩ := wrA_ok (P := P) t3 t1 R (f.ev p) (f.ev y)
    exact ops_skip (w' := w') (by simp [execOp, ho, q1, Result.andThen]) (G .top H' g w' undef .rfl q2 (by rw [V]; trivial) q3 q4 h)
  · rename_i t ho
    exact fromV (s := Instr.makeMap t none) (by simp only [execOp, ho]; rfl) (mm_ok R) h
  · rename_i t m k v ho
    obtain ⟨H', t1, h⟩ := bo_iff h
    exact fromS (by simp only [execOp, ho]) (muV_ok t1 R (f.ev m) (f.ev k) (f.ev v)) h
  · rename_i t m k ho
    obtain ⟨r, t1, h⟩ := bo_iff h
    exact fromS (by simp only [execOp, ho]) (meV_ok (z := r.1) (H' := r.2) t1 R (f.ev m) (f.ev k)) h
  · rename_i t m s v ho
    obtain ⟨H', t1, h⟩ := bo_iff h
    exact fromS (by simp only [execOp, ho]) (esV_ok (t := t) t1 R (f.ev m) (f.ev s) (f.ev v)) h
  · rename_i t x ho
    obtain ⟨H', t1, h⟩ := bo_iff h
    exact fromV (s := Instr.range t (a.eval x)) (by simp only [execOp, ho]) (rg_ok t1 R (f.ev x)) h
  · rename_i x ho
    obtain ⟨y, t1, h⟩ := bo_iff h
    exact fromV (s := Instr.entry (a.eval x)) (by simp only [execOp, ho]) (en_ok t1 R (f.ev x)) h
  · rename_i c ho
    obtain ⟨callee, args, tys⟩ := c
    obtain ⟨args⟩ := args
    obtain ⟨tys⟩ := tys
    simp only at h
    split at h
    · rename_i s x t t'
      obtain ⟨r, t1, h⟩ := bo_iff h
      exact fromV (by simp [execOp, ho, resolve, invoke, builtin]) (apQ_ok (ty := o.type) (y := r.1) (H' := r.2) t1 R (f.ev s) (f.ev x)) h
    · rename_i p x pt it
      obtain ⟨e, t1, h⟩ := bo_iff h
      obtain ⟨r, t2, h⟩ := bo_iff h
      have : P.underlying pt = some (.pointer e) ∧ P.cellsOf e = 1 := by
        unfold ptE at t1
        split at t1
        · rename_i e1
          obtain ⟨e2, e3⟩ := ite_some t1
          obtain rfl := Option.some.inj e3
          exact ⟨e1, e2⟩
        · cases t1
      exact fromV (by simp [execOp, ho, resolve, invoke, builtin]) (usE_ok (it := it) (ty := o.type) this.1 this.2 (y := r.1) (H' := r.2) t2 R (f.ev p) (f.ev x)) h
    · rename_i fo
      have hf := f.ev fo
      split at h
      · rename_i fn l e1
        rw [e1, V] at hf
        obtain ⟨vs, e2, hv⟩ := hf
        refine call (fn := fn) (vs := args.map a.eval ++ vs) (xs := args.map (evA F) ++ l) ?_ ((evs f args).app hv) h
        simp [execOp, ho, resolve, invoke, e2, Deferred.ofValue]
      · rename_i fn l e1
        rw [e1, V] at hf
        obtain ⟨vs, e2, hv⟩ := hf
        refine call (fn := fn) (vs := vs ++ args.map a.eval) (xs := l ++ args.map (evA F)) ?_ (hv.app (evs f args)) h
        simp [execOp, ho, resolve, invoke, e2, Deferred.ofValue]
      · exact h.elim
    · exact h.elim
  · exact h.elim
end
end Go.Proofs.YtlgdojkmbfbnjaaGreatDoor

namespace Go.Proofs.YtlgdojkmbfbnjaaGreatDoor
open Go.RowKit

section
variable {P : Program}
theorem stE_ok (X : ExtOk P) {o : Oper} {F : List AV} {H : AS} {K : AV → AS → Prop} {g : Gh} {w : World} {a : Act} {next : Act → World → Prop} {Q : Exit → Act → World → Prop} (h : stE P o F H K) (f : RelF g F a) (R : RelH g H w) (G : GoodA g H w o a K next) : o.wp P a w next Q := by
  unfold stE at h
  split at h
  · obtain ⟨r, h1, hk⟩ := bo_iff h
    obtain ⟨T, c, l, hf, v, cs, e1, e2, e3, e4, e5⟩ := newE_ok (x := r.1) (mk := r.2) h1 f w
    obtain ⟨q1, q2, q3, q5⟩ := R.new T c l hf cs e3 e4
    rw [e1] at hk
    exact ops_val e2 (G _ _ _ _ _ q2 q1 (e5 _ _ (Gh.put_s _ _ _ _ _).1 (Gh.put_s _ _ _ _ _).2) q3 q5 hk)
  · exact wrE_ok h f R G
  · obtain ⟨x, h1, hk⟩ := bo_iff h
    obtain ⟨v, e1, e2⟩ := valE_ok X h1 f R
    exact ops_val e1 (G _ _ _ _ _ .rfl R e2 .rfl .rfl hk)
theorem valE_st {o : Oper} {F : List AV} {H : AS} {x : AV} {K : AV → AS → Prop} (h : valE P o F H = some x) (hk : K x H) (h2 : kdE P o.op ≠ 2) (h3 : kdE P o.op ≠ 3) : stE P o F H K := by
  unfold stE
  split
  · exact absurd ‹_› h2
  · exact absurd ‹_› h3
  · rw [h]; exact hk
theorem valE_kd {o : Oper} {F : List AV} {H : AS} {x : AV} (h : valE P o F H = some x) : kdE P o.op ≠ 2 ∧ kdE P o.op ≠ 3 := by
  unfold valE at h
  split at h <;> first
    | (cases h; done)
    | (rename_i ho; rw [ho]; constructor <;> (intro q; cases q; done))
    | (rename_i ho; rw [ho])
  · unfold kdE
    simp only
    split <;> exact ⟨by omega, by omega⟩
  · rename_i c
    obtain ⟨callee, args, tys⟩ := c
    obtain ⟨tys⟩ := tys
    unfold kdE
    simp only at h ⊢
    split at h <;> first
      | (constructor <;> (intro q; cases q; done))
      | skip
    · rename_i y t _
      have key : ∀ n : Nat, (match n with | 0 => 0 | 1 => 0 | _ => 1) ≠ 2 ∧ (match n with | 0 => 0 | 1 => 0 | _ => 1) ≠ 3 := fun n => by
        split <;> exact ⟨by decide, by decide⟩
      exact key _
    · rename_i fn y _
      obtain ⟨h1, _⟩ := ite_some h
      simp only [h1]
      exact ⟨by decide, by decide⟩
    · rename_i fn y z _
      obtain ⟨h1, _⟩ := ite_some h
      simp only [h1]
      exact ⟨by decide, by decide⟩
    · cases h
theorem valE_congr {o : Oper} {F F' : List AV} {H : AS} (h : agr F F' o) : valE P o F H = valE P o F' H := by
  unfold agr at h
  unfold valE
  split <;> rename_i ho <;> simp only [ho, Op.operands] at h <;> first
    | rfl
    | (simp at h; simp only [h]; done)
    | skip
  · rw [(map_agr (fun x hx => h x (by simpa using hx))).1]
  · rename_i x0 lo0 hi0 mx0
    have h1 := h x0 (Array.mem_append_left _ (Array.mem_append_left _ (Array.mem_append_left _ (by simp))))
    have h2 := opt_agr fun x hx => h x (Array.mem_append_left _ (Array.mem_append_left _ (Array.mem_append_right _ hx)))
    have h3 := opt_agr fun x hx => h x (Array.mem_append_left _ (Array.mem_append_right _ hx))
    have h4 := opt_agr fun x hx => h x (Array.mem_append_right _ hx)
    simp only [h1, h2, h3, h4]
  · rename_i fn a1 b1
    rw [map_agr1 (fun x hx => h x (by simp at hx ⊢; simp [hx])), map_agr1 (l := b1.toList) (fun x hx => h x (by simp at hx ⊢; simp [hx]))]
  · rename_i c
    obtain ⟨callee, args, tys⟩ := c
    obtain ⟨args⟩ := args
    simp only
    split <;> first
      | rfl
      | skip
    · rename_i x t e
      have h1 := h x (by simp [Call.operands])
      simp only [h1]
    · rename_i x t e
      have h1 := h x (by simp [Call.operands])
      simp only [h1]
    · rename_i x y
      have h1 := h x (by simp [Call.operands])
      have h2 := h y (by simp [Call.operands])
      simp only [h1, h2]
    · rename_i x y
      have h1 := h x (by simp [Call.operands])
      have h2 := h y (by simp [Call.operands])
      simp only [h1, h2]
    · rename_i x t e
      have h1 := h x (by simp [Call.operands])
      simp only [h1]
    · rename_i x
      have h1 := h x (by simp [Call.operands])
      simp only [h1]
    · rename_i x y
      have h1 := h x (by simp [Call.operands])
      have h2 := h y (by simp [Call.operands])
      simp only [h1, h2]
theorem wrE_congr {o : Oper} {F F' : List AV} {H : AS} {K : AV → AS → Prop} (h : agr F F' o) : wrE P o F H K = wrE P o F' H K := by
  unfold agr at h
  unfold wrE
  split <;> rename_i ho <;> simp only [ho, Op.operands] at h <;> first
    | rfl
    | (simp at h; simp only [h]; done)
    | skip
  rename_i c
  obtain ⟨callee, args, tys⟩ := c
  obtain ⟨args⟩ := args
  simp only
  split <;> first
    | rfl
    | skip
  · rename_i s x t t' e
    have h1 := h s (by simp [Call.operands])
    have h2 := h x (by simp [Call.operands])
    simp only [h1, h2]
  · rename_i s x t t' e
    have h1 := h s (by simp [Call.operands])
    have h2 := h x (by simp [Call.operands])
    simp only [h1, h2]
  · rename_i fo
    rw [map_agr1 fun x hx => h x (by simp [Call.operands, hx]), h fo (by simp [Call.operands])]
theorem stE_congr {o : Oper} {F F' : List AV} {H : AS} {K : AV → AS → Prop} (h : agr F F' o) : stE P o F H K = stE P o F' H K := by
  unfold stE
  rw [newE_congr h, wrE_congr h, valE_congr h]
end
theorem bo_mono {α : Type} {e : Option α} {K K' : α → Prop} (h : bo e K) (q : ∀ x, K x → K' x) : bo e K' := by
  obtain ⟨x, h1, h2⟩ := bo_iff h
  rw [h1]; exact q x h2
theorem wrE_mono {P : Program} {o : Oper} {F : List AV} {H : AS} {K K' : AV → AS → Prop} (h : wrE P o F H K) (q : ∀ x H', K x H' → K' x H') : wrE P o F H K' := by
  unfold wrE at h ⊢
  split at h <;> rename_i ho <;> first
    | exact bo_mono h fun _ h => bo_mono h fun _ h => q _ _ h
    | exact bo_mono h fun _ h => q _ _ h
    | exact q _ _ h
    | exact h.elim
    | skip
  rename_i c
  split at h <;> rename_i e1 e2 e3 <;> first
    | exact bo_mono h fun _ h => bo_mono h fun _ h => q _ _ h
    | exact bo_mono h fun _ h => q _ _ h
    | exact h.elim
    | skip
  split at h <;> rename_i e4
  · exact h.mono q
  · exact h.mono q
  · exact h.elim
theorem stE_mono {P : Program} {o : Oper} {F : List AV} {H : AS} {K K' : AV → AS → Prop} (h : stE P o F H K) (q : ∀ x H', K x H' → K' x H') : stE P o F H K' := by
  unfold stE at h ⊢
  split at h
  · exact bo_mono h fun _ h => q _ _ h
  · exact wrE_mono h q
  · exact bo_mono h fun _ h => q _ _ h
section
variable {P : Program}
@[reducible] noncomputable def mE (P : Program) (X : ExtOk P) : Mch P := ⟨stE P, valE P, newE P, kdE P, stE_ok X, fun h k => valE_st h k (valE_kd h).1 (valE_kd h).2, newE_ok, stE_congr, valE_congr, newE_congr, valE_pure, valE_app, kdE_le, stE_mono, newE_row⟩
end
end Go.Proofs.YtlgdojkmbfbnjaaGreatDoor
