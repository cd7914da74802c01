/- Operations on abstract values, each with its soundness: comparisons, conversions, slices, maps. -/
import Derived.Test.YtlgdojkmbfbnjaaGreatDoorMB
import Derived.DeepKeys
import Derived.Lib.Builder
import Derived.Lib.UnsafeStr
import Derived.Laws.IdiomStrings
import Derived.Deep.WholeRow
import Derived.DeepKeys3
import Derived.MapKept
namespace Go.Proofs.YtlgdojkmbfbnjaaGreatDoor
open Go.RowKit

/-- Plain values' cells. -/
def vlL : List AV → Option (List Value)
  | [] => some []
  | .vl v :: r => (vlL r).map (v :: ·)
  | _ => none
theorem vlL_ok : ∀ {l : List AV} {vs : List Value}, vlL l = some vs → ∀ {g : Gh} {us : List Value}, Vs l g us → us = vs
  | [], vs, h, g, us, q => by
    simp only [vlL, Option.some.injEq] at h
    subst h
    rw [Vs] at q; exact q
  | .vl v :: r, vs, h, g, us, q => by
    rw [vlL] at h
    cases e : vlL r with
    | none => rw [e] at h; cases h
    | some vs' =>
      rw [e] at h
      simp only [Option.map_some, Option.some.injEq] at h
      subst h
      rw [Vs] at q
      obtain ⟨u, us', rfl, h1, h2⟩ := q
      rw [V] at h1
      rw [h1, vlL_ok e h2]
  | .top :: _, vs, h, g, us, q => by cases h
  | .ag _ :: _, vs, h, g, us, q => by cases h
  | .tu _ :: _, vs, h, g, us, q => by cases h
  | .im .. :: _, vs, h, g, us, q => by cases h
  | .rf .. :: _, vs, h, g, us, q => by cases h
  | .rl .. :: _, vs, h, g, us, q => by cases h
  | .pt .. :: _, vs, h, g, us, q => by cases h
  | .pi .. :: _, vs, h, g, us, q => by cases h
  | .fn .. :: _, vs, h, g, us, q => by cases h
  | .fb .. :: _, vs, h, g, us, q => by cases h
  | .mr _ :: _, vs, h, g, us, q => by cases h
  | .it _ :: _, vs, h, g, us, q => by cases h
def bEq : List UInt8 → List UInt8 → Bool
  | [], [] => true
  | a :: x, b :: y => Nat.beq a.toNat b.toNat && bEq x y
  | _, _ => false
theorem bEq_iff : ∀ {a b : List UInt8}, bEq a b = true ↔ a = b
  | [], [] => by simp [bEq]
  | a :: x, b :: y => by
    rw [bEq, Bool.and_eq_true, bEq_iff, List.cons.injEq, Nat.beq_eq]
    exact ⟨fun h => ⟨UInt8.toNat_inj.1 h.1, h.2⟩, fun h => ⟨by rw [h.1], h.2⟩⟩
  | [], _ :: _ => by simp [bEq]
  | _ :: _, [] => by simp [bEq]
def iBeq (a b : Int) : Bool := match a, b with
  | .ofNat m, .ofNat n => Nat.beq m n
  | .negSucc m, .negSucc n => Nat.beq m n
  | _, _ => false
theorem iBeq_eq (a b : Int) : iBeq a b = (a == b) := by
  cases a <;> cases b <;> simp [iBeq] <;> rw [Bool.eq_iff_iff] <;> simp <;> omega
def litEq : Lit → Lit → Bool
  | .bool a, .bool b => a == b
  | .int k a, .int k' b => k == k' && iBeq a b
  | .string a, .string b => bEq a b
  | _, _ => false
/-- Literals of the three kinds that keys have. -/
def litK : Lit → Bool
  | .bool _ | .int .. | .string _ => true
  | _ => false
theorem litEq_iff {a b : Lit} (h : litK a = true) : litEq a b = true ↔ a = b := by
  cases a <;> cases b <;> simp_all [litEq, litK, iBeq_eq, bEq_iff]
def litsEq : List Lit → List Lit → Bool
  | [], [] => true
  | a :: x, b :: y => litEq a b && litsEq x y
  | _, _ => false
theorem litsEq_iff : ∀ {a b : List Lit}, a.all litK = true → (litsEq a b = true ↔ a = b)
  | [], [], _ => by simp [litsEq]
  | a :: x, b :: y, h => by
    simp only [List.all_cons, Bool.and_eq_true] at h
    rw [litsEq, Bool.and_eq_true, litEq_iff h.1, litsEq_iff h.2, List.cons.injEq]
  | [], _ :: _, _ => by simp [litsEq]
  | _ :: _, [], _ => by simp [litsEq]
/-- Two plain values. -/
def eqV (x y : Value) : Option Bool := match x with
  | .int k a => (match y with | .int k' b => if k = k' then some (iBeq a b) else none | _ => none)
  | .string a => (match y with | .string b => some (bEq a.data.toList b.data.toList) | _ => none)
  | .bool a => (match y with | .bool b => some (a == b) | _ => none)
  | _ => none
/-- Whether a type's values can be nil. -/
def nlT (P : Program) (t : TypeId) : Nat := match P.underlying t with
  | some (.pointer _) => 1
  | some (.slice _) => 2
  | some (.map _ _) => 3
  | some (.func _ _ _) => 4
  | _ => 0
/-- 1 to 4: a nil; 11 to 14: none. -/
def nlV (x : AV) : Nat := match x with
  | .vl (.pointer none) => 1
  | .vl (.slice none _ _) => 2
  | .vl (.map none) => 3
  | .vl .nilFunc => 4
  | .pt .. => 11
  | .pi .. => 11
  | .rf _ _ r _ _ => bif Nat.blt 0 r then 12 else 0
  | .im _ (_ :: _) => 12
  | .rl .. => 12
  | .mr _ => 13
  | .fn .. => 14
  | .fb .. => 14
  | _ => 0
def eqN (a b t : Nat) : Option Bool :=
  bif Nat.beq a t && Nat.beq b t && Nat.blt 0 t then some true
  else bif (Nat.beq a t && Nat.beq b (t + 10) || Nat.beq a (t + 10) && Nat.beq b t) && Nat.blt 0 t then some false else none
end Go.Proofs.YtlgdojkmbfbnjaaGreatDoor

namespace Go.Proofs.YtlgdojkmbfbnjaaGreatDoor
open Go.RowKit

/-- A plain value. -/
def avV : AV → Option Value
  | .vl v => some v
  | .ag l => (vlL l).map fun vs => .agg vs.toArray
  | _ => none
theorem avV_ok {x : AV} {v : Value} (h : avV x = some v) {g : Gh} {u : Value} (q : V x g u) : u = v := by
  unfold avV at h
  split at h
  · simp only [Option.some.injEq] at h; subst h; rw [V] at q; exact q
  · rename_i l
    cases e : vlL l with
    | none => rw [e] at h; cases h
    | some vs =>
      rw [e] at h
      simp only [Option.map_some, Option.some.injEq] at h
      subst h
      rw [V] at q
      obtain ⟨us, rfl, s⟩ := q
      rw [vlL_ok e s]
  · cases h
/-- What a key's bytes are made of. -/
def klV (P : Program) (t : TypeId) (v : Value) : Option (List Lit) := if v.formed P t = true then P.keyLits 20 t v.cells.toList else none
def klA (P : Program) (t : TypeId) (x : AV) : Option (List Lit) := match avV x with
  | some v => klV P t v
  | none => none
theorem klA_ok {P : Program} {t : TypeId} {x : AV} {ls : List Lit} (h : klA P t x = some ls) {g : Gh} {u : Value} (q : V x g u) : u.formed P t = true ∧ P.keyLits 20 t u.cells.toList = some ls := by
  unfold klA at h
  split at h
  · rename_i v e
    rw [avV_ok e q]
    unfold klV at h
    split at h
    · exact ⟨‹_›, h⟩
    · cases h
  · cases h
theorem ite_some {α : Type} {c : Prop} [Decidable c] {a : Option α} {b : α} (h : (if c then a else none) = some b) : c ∧ a = some b := by
  split at h
  · exact ⟨‹_›, h⟩
  · cases h
theorem lits_kind {P : Program} : ∀ (d : Nat) (t : TypeId) (cs : List Value) (ls : List Lit), P.keyLits d t cs = some ls → ls.all litK = true
  | 0, t, cs, ls, h => by rw [Program.keyLits] at h; cases h
  | d + 1, t, cs, ls, h => by
    have all : ∀ (ks : List (List Lit)), (∀ k ∈ ks, k.all litK = true) → ks.flatten.all litK = true := fun ks h => by
      rw [List.all_flatten, List.all_eq_true]; exact h
    have mem : ∀ {α : Type} (f : α → Option (List Lit)) (l : List α) (ks : List (List Lit)), l.mapM f = some ks → (∀ a k, f a = some k → k.all litK = true) → ∀ k ∈ ks, k.all litK = true := fun {α} f l => by
      induction l with
      | nil => intro ks h _ k hk; simp at h; subst h; cases hk
      | cons a l ih =>
        intro ks h hf k hk
        rw [List.mapM_cons] at h
        cases e : f a with
        | none => rw [e] at h; cases h
        | some k0 =>
          rw [e] at h
          cases e2 : l.mapM f with
          | none => rw [e2] at h; cases h
          | some k1 =>
            rw [e2] at h
            have h : some (k0 :: k1) = some ks := h
            obtain rfl := Option.some.inj h
            rcases List.mem_cons.1 hk with rfl | hk
            · exact hf a _ e
            · exact ih k1 e2 hf k hk
    have opt : ∀ {α : Type} (f : α → Option (List Lit)) (l : List α), (∀ a k, f a = some k → k.all litK = true) → (l.mapM f).map List.flatten = some ls → ls.all litK = true := fun f l hf h => by
      cases e : l.mapM f with
      | none => rw [e] at h; cases h
      | some ks =>
        rw [e] at h
        simp only [Option.map_some, Option.some.injEq] at h
        subst h
        exact all ks (mem _ _ _ e hf)
    revert h
    rw [Program.keyLits.eq_def]
    simp only
    split <;> intro h
    · simp only [Option.some.injEq] at h; subst h; rfl
    · have h := (ite_some h).2; simp only [Option.some.injEq] at h; subst h; rfl
    · have h := (ite_some h).2; simp only [Option.some.injEq] at h; subst h; rfl
    · exact opt _ _ (fun a k hk => lits_kind d _ _ _ hk) (ite_some h).2
    · exact opt _ _ (fun a k hk => lits_kind d _ _ _ hk) (ite_some h).2
    · cases h
/-- Two keys are compared. -/
theorem eq_key {P : Program} {t : TypeId} (hk : P.keyTypeAt 20 t = true) {u v : Value} {a b : List Lit} (h1 : u.formed P t = true ∧ P.keyLits 20 t u.cells.toList = some a) (h2 : v.formed P t = true ∧ P.keyLits 20 t v.cells.toList = some b) (w : World) : (Op.equal t u v).run P w = .ok (litsEq a b) w := by
  obtain ⟨r, q1, q2⟩ := run_equalIn_deep (P := P) 9980 20 t hk w 20 20 u v a b h1.1 h2.1 h1.2 h2.2
  have : r = litsEq a b := by
    rw [Bool.eq_iff_iff, q2, litsEq_iff (lits_kind _ _ _ _ h1.2)]
  rw [this] at q1
  exact q1
/-- Equality of structs of plain values. -/
def eqS (P : Program) (t : TypeId) (x y : AV) : Option Bool := match klA P t x with
  | some a => match klA P t y with
    | some b => some (litsEq a b)
    | none => none
  | none => none
def isAgT (P : Program) (t : TypeId) : Bool := P.keyTypeAt 20 t && !(P.eqGuardType P.depth t) && (match P.underlying t with
  | some (.struct _) => true
  | some (.array _ _) => true
  | _ => false)
end Go.Proofs.YtlgdojkmbfbnjaaGreatDoor

namespace Go.Proofs.YtlgdojkmbfbnjaaGreatDoor
open Go.RowKit

/-- '==' and '!=' by the law of equality. -/
theorem bin_eq {P : Program} {t : TypeId} {u v : Value} {b : Bool} {ox oy : Operand} {w : World} (hg : ∀ op, (eqGuard op t ox oy u v).run P w = .ok () w) (he : (Op.equal t u v).run P w = .ok b w) (h1 : (binOp .eql t u v) = (do pure (.bool (← Op.equal t u v)))) (h2 : (binOp .neq t u v) = (do pure (.bool (!(← Op.equal t u v))))) :
    (do eqGuard .eql t ox oy u v; binOp .eql t u v : Sem Value).run P w = .ok (.bool b) w ∧ (do eqGuard .neq t ox oy u v; binOp .neq t u v : Sem Value).run P w = .ok (.bool !b) w := by
  rw [h1, h2]
  constructor <;> simp [hg, he, Result.andThen]
theorem eqN_cases {a b t : Nat} {r : Bool} (h : eqN a b t = some r) : 0 < t ∧ ((r = true ∧ a = t ∧ b = t) ∨ (r = false ∧ ((a = t ∧ b = t + 10) ∨ (a = t + 10 ∧ b = t)))) := by
  unfold eqN at h
  cases h1 : (Nat.beq a t && Nat.beq b t && Nat.blt 0 t)
  · rw [h1, cond_false] at h
    cases h2 : ((Nat.beq a t && Nat.beq b (t + 10) || Nat.beq a (t + 10) && Nat.beq b t) && Nat.blt 0 t)
    · rw [h2] at h; cases h
    · rw [h2] at h
      simp only [cond_true, Option.some.injEq] at h
      simp only [Bool.and_eq_true, Bool.or_eq_true, Nat.beq_eq, Nat.blt_eq] at h2
      exact ⟨h2.2, .inr ⟨h.symm, h2.1⟩⟩
  · rw [h1] at h
    simp only [cond_true, Option.some.injEq] at h
    simp only [Bool.and_eq_true, Nat.beq_eq, Nat.blt_eq] at h1
    exact ⟨h1.2, .inl ⟨h.symm, h1.1⟩⟩
theorem eq_d (t : TypeId) (u v : Value) : Op.equal t u v = Op.equalIn (9999 + 1) t u v := rfl
/-- A nil of its kind, or none. -/
def NilK : Nat → Value → Prop
  | 1, v => v = .pointer none
  | 2, v => ∃ a b, v = .slice none a b
  | 3, v => v = .map none
  | 4, v => v = .nilFunc
  | 11, v => ∃ a, v = .pointer (some a)
  | 12, v => ∃ a b c, v = .slice (some a) b c
  | 13, v => ∃ a, v = .map (some a)
  | 14, v => ∃ a b c, v = .func a b c
  | _, _ => True
theorem nlV_ok {x : AV} {g : Gh} {v : Value} (h : V x g v) : NilK (nlV x) v := by
  unfold nlV
  split <;> (try rw [V] at h)
  · exact h
  · exact ⟨_, _, h⟩
  · exact h
  · exact h
  · obtain ⟨b, _, e⟩ := h; exact ⟨_, e⟩
  · obtain ⟨b, o, c, u, e, _⟩ := h; exact ⟨_, e⟩
  · rename_i c k r off n
    cases e : Nat.blt 0 r
    · exact trivial
    · rw [Nat.blt_eq] at e
      rcases h with ⟨_, _, h0, _⟩ | ⟨b, cap, _, ⟨o, h2, _⟩, _⟩
      · omega
      · exact ⟨_, _, _, h2⟩
  · rename_i c x l
    obtain ⟨cs, ⟨a, cap, e, _⟩, S, hv⟩ := h
    obtain ⟨a', cap', e', _, _, h3⟩ := S
    rw [e] at e'
    simp only [Value.slice.injEq] at e'
    obtain ⟨rfl, -, rfl⟩ := e'
    rcases h3 with h3 | ⟨b, off, cc, rfl, _⟩
    · simp at h3
    · exact ⟨_, _, _, e⟩
  · obtain ⟨b, o, _, e, _⟩ := h; exact ⟨_, _, _, e⟩
  · obtain ⟨b, _, e⟩ := h; exact ⟨_, e⟩
  · obtain ⟨vs, e, _⟩ := h; exact ⟨_, _, _, e⟩
  · obtain ⟨vs, e, _⟩ := h; exact ⟨_, _, _, e⟩
  · exact trivial
theorem nlT_cases {P : Program} {t : TypeId} (h : 0 < nlT P t) : (nlT P t = 1 ∧ ∃ e, P.underlying t = some (.pointer e)) ∨ (nlT P t = 2 ∧ ∃ e, P.underlying t = some (.slice e)) ∨ (nlT P t = 3 ∧ ∃ a b, P.underlying t = some (.map a b)) ∨ (nlT P t = 4 ∧ ∃ a b c, P.underlying t = some (.func a b c)) := by
  unfold nlT at h ⊢
  split at h
  · exact .inl ⟨rfl, _, ‹_›⟩
  · exact .inr (.inl ⟨rfl, _, ‹_›⟩)
  · exact .inr (.inr (.inl ⟨rfl, _, _, ‹_›⟩))
  · exact .inr (.inr (.inr ⟨rfl, _, _, _, ‹_›⟩))
  · omega
theorem eq_nil {P : Program} {t : TypeId} {a b : Nat} {r : Bool} {u v : Value} {ox oy : Operand} (h : eqN a b (nlT P t) = some r) (hu : NilK a u) (hv : NilK b v) (w : World) :
    (do eqGuard .eql t ox oy u v; binOp .eql t u v : Sem Value).run P w = .ok (.bool r) w ∧ (do eqGuard .neq t ox oy u v; binOp .neq t u v : Sem Value).run P w = .ok (.bool !r) w := by
  obtain ⟨h0, h1⟩ := eqN_cases h
  rcases nlT_cases h0 with ⟨e, T, hT⟩ | ⟨e, T, hT⟩ | ⟨e, T, T2, hT⟩ | ⟨e, T, T2, T3, hT⟩ <;> rw [e] at h1 <;>
    rcases h1 with ⟨rfl, rfl, rfl⟩ | ⟨rfl, ⟨rfl, rfl⟩ | ⟨rfl, rfl⟩⟩ <;> simp only [NilK] at hu hv
  · subst hu hv; refine bin_eq (fun op => ?_) ?_ rfl rfl
    · cases op <;> simp [eqGuard]
    · rw [eq_d]; unfold Op.equalIn; simp [run_underlying hT, Result.andThen]
  · obtain ⟨a, rfl⟩ := hv; subst hu; refine bin_eq (fun op => ?_) ?_ rfl rfl
    · cases op <;> simp [eqGuard]
    · rw [eq_d]; unfold Op.equalIn; simp [run_underlying hT, Result.andThen]
  · obtain ⟨a, rfl⟩ := hu; subst hv; refine bin_eq (fun op => ?_) ?_ rfl rfl
    · cases op <;> simp [eqGuard]
    · rw [eq_d]; unfold Op.equalIn; simp [run_underlying hT, Result.andThen]
  · obtain ⟨a, b, rfl⟩ := hu; obtain ⟨c, d, rfl⟩ := hv; refine bin_eq (fun op => ?_) ?_ rfl rfl
    · cases op <;> simp [eqGuard]
    · rw [eq_d]; unfold Op.equalIn; simp [run_underlying hT, Result.andThen]
  · obtain ⟨a, b, rfl⟩ := hu; obtain ⟨c, d, f, rfl⟩ := hv; refine bin_eq (fun op => ?_) ?_ rfl rfl
    · cases op <;> simp [eqGuard]
    · rw [eq_d]; unfold Op.equalIn; simp [run_underlying hT, Result.andThen]
  · obtain ⟨a, b, c, rfl⟩ := hu; obtain ⟨d, f, rfl⟩ := hv; refine bin_eq (fun op => ?_) ?_ rfl rfl
    · cases op <;> simp [eqGuard]
    · rw [eq_d]; unfold Op.equalIn; simp [run_underlying hT, Result.andThen]
  · subst hu hv; refine bin_eq (fun op => ?_) ?_ rfl rfl
    · cases op <;> simp [eqGuard]
    · rw [eq_d]; unfold Op.equalIn; simp [run_underlying hT, Result.andThen]
  · obtain ⟨a, rfl⟩ := hv; subst hu; refine bin_eq (fun op => ?_) ?_ rfl rfl
    · cases op <;> simp [eqGuard]
    · rw [eq_d]; unfold Op.equalIn; simp [run_underlying hT, Result.andThen]
  · obtain ⟨a, rfl⟩ := hu; subst hv; refine bin_eq (fun op => ?_) ?_ rfl rfl
    · cases op <;> simp [eqGuard]
    · rw [eq_d]; unfold Op.equalIn; simp [run_underlying hT, Result.andThen]
  · subst hu hv; refine bin_eq (fun op => ?_) ?_ rfl rfl
    · cases op <;> simp [eqGuard]
    · rw [eq_d]; unfold Op.equalIn; simp [run_underlying hT, Result.andThen]
  · obtain ⟨a, b, c, rfl⟩ := hv; subst hu; refine bin_eq (fun op => ?_) ?_ rfl rfl
    · cases op <;> simp [eqGuard]
    · rw [eq_d]; unfold Op.equalIn; simp [run_underlying hT, Result.andThen]
  · obtain ⟨a, b, c, rfl⟩ := hu; subst hv; refine bin_eq (fun op => ?_) ?_ rfl rfl
    · cases op <;> simp [eqGuard]
    · rw [eq_d]; unfold Op.equalIn; simp [run_underlying hT, Result.andThen]
end Go.Proofs.YtlgdojkmbfbnjaaGreatDoor

namespace Go.Proofs.YtlgdojkmbfbnjaaGreatDoor
open Go.RowKit

theorem toL_data (a : ByteArray) : a.toList = a.data.toList := by rw [ByteArray.toList_eq]
theorem bEq_beq (a b : List UInt8) : bEq a b = (a == b) := by
  rw [Bool.eq_iff_iff, bEq_iff]; simp
/-- Plain values. -/
theorem eqV_ok {P : Program} {x y : Value} {b : Bool} (h : eqV x y = some b) (t : TypeId) (ox oy : Operand) (w : World) (hb : (∃ p, x = .bool p) → P.underlying t = some .bool) :
    (do eqGuard .eql t ox oy x y; binOp .eql t x y : Sem Value).run P w = .ok (.bool b) w ∧ (do eqGuard .neq t ox oy x y; binOp .neq t x y : Sem Value).run P w = .ok (.bool !b) w := by
  unfold eqV at h
  split at h
  · split at h
    · rename_i k a _ k' b'
      by_cases hk : k = k'
      · subst hk
        simp only [if_true, Option.some.injEq] at h
        subst h
        rw [iBeq_eq]
        constructor <;> simp [binOp, eqGuard, Op.intCmp]
        rfl
      · rw [if_neg hk] at h; cases h
    · cases h
  · split at h
    · simp only [Option.some.injEq] at h
      subst h
      rw [bEq_beq, ← toL_data, ← toL_data]
      constructor <;> simp [binOp, eqGuard, Op.stringOp]
    · cases h
  · split at h
    · rename_i p _ q
      simp only [Option.some.injEq] at h
      subst h
      have hT := hb ⟨p, rfl⟩
      refine bin_eq (fun op => ?_) ?_ rfl rfl
      · cases op <;> simp [eqGuard]
      · rw [eq_d]; unfold Op.equalIn; simp [run_underlying hT, Result.andThen]
    · cases h
  · cases h
def isBl (x : Value) : Bool := match x with
  | .bool _ => true
  | _ => false
/-- The size of a pointer type's element is not zero. -/
def ptZ (P : Program) (t : TypeId) : Bool := match P.underlying t with
  | some (.pointer e) => (match P.info? e with | some i => Nat.blt 0 i.size | none => false)
  | _ => false
def ptB (c k r i j c' k' r' i' j' : Nat) : Bool := Nat.beq c c' && Nat.beq k k' && Nat.beq r r' && Nat.beq i i' && Nat.beq j j'
/-- How a type's values are compared: 0 as plain ones, 1 to 4 with nil, 5 as structs, 6 not at all. -/
def eqT (P : Program) (t : TypeId) : Nat := match P.underlying t with
  | some (.pointer _) => bif ptZ P t then 1 else 6
  | some (.slice _) => 2
  | some (.map _ _) => 3
  | some (.func _ _ _) => 4
  | some (.struct _) => bif isAgT P t then 5 else 6
  | some (.array _ _) => bif isAgT P t then 5 else 6
  | some .bool => 7
  | some (.int _) => 0
  | some .string => 0
  | _ => 6
def eqQ (x y : AV) : Option Bool := match x with
  | .pt c k r i j => (match y with
    | .pt c' k' r' i' j' => bif ptB c k r i j c' k' r' i' j' then some true else none
    | _ => eqN (nlV x) (nlV y) 1)
  | _ => eqN (nlV x) (nlV y) 1
def eqW (x y : AV) : Option Bool := match x with
  | .vl v => (match y with | .vl w => eqV v w | _ => none)
  | _ => none
def eqU (x y : AV) : Option Bool := match x with
  | .vl (.bool _) => none
  | x => eqW x y
def eqC (P : Program) (t : TypeId) (n : Nat) (x y : AV) : Option Bool := match n with
  | 0 => eqU x y
  | 1 => eqQ x y
  | 2 => eqN (nlV x) (nlV y) 2
  | 3 => eqN (nlV x) (nlV y) 3
  | 4 => eqN (nlV x) (nlV y) 4
  | 5 => eqS P t x y
  | 7 => eqW x y
  | _ => none
theorem isAgT_ok {P : Program} {t : TypeId} (h : isAgT P t = true) : P.keyTypeAt 20 t = true ∧ P.eqGuardType P.depth t = false ∧ ∀ v : Value, v.formed P t = true → ∃ cs, v = .agg cs := by
  unfold isAgT at h
  simp only [Bool.and_eq_true, Bool.not_eq_true'] at h
  refine ⟨h.1.1, h.1.2, fun v hv => ?_⟩
  have h2 := h.2
  split at h2
  · cases v <;> simp_all [Value.formed]
  · cases v <;> simp_all [Value.formed]
  · cases h2
def EqR (P : Program) (t : TypeId) (ox oy : Operand) (u v : Value) (b : Bool) (w : World) : Prop :=
  (do eqGuard .eql t ox oy u v; binOp .eql t u v : Sem Value).run P w = .ok (.bool b) w ∧ (do eqGuard .neq t ox oy u v; binOp .neq t u v : Sem Value).run P w = .ok (.bool !b) w
theorem eqC_ok {P : Program} {t : TypeId} {x y : AV} {b : Bool} {g : Gh} {u v : Value} (h : eqC P t (eqT P t) x y = some b) (hx : V x g u) (hy : V y g v) (ox oy : Operand) (w : World) : EqR P t ox oy u v b w := by
  have nl : ∀ n, nlT P t = n → eqN (nlV x) (nlV y) n = some b → EqR P t ox oy u v b w := fun n hn h => by
    subst hn
    exact eq_nil (ox := ox) (oy := oy) h (nlV_ok hx) (nlV_ok hy) w
  have plain : eqW x y = some b → ((∃ p, x = .vl (.bool p)) → P.underlying t = some .bool) → EqR P t ox oy u v b w := fun h hp => by
    unfold eqW at h
    split at h
    · split at h
      · rw [V] at hx hy
        subst hx hy
        exact eqV_ok h t ox oy w fun ⟨p, e⟩ => hp ⟨p, by rw [e]⟩
      · cases h
    · cases h
  have plain0 : eqU x y = some b → EqR P t ox oy u v b w := fun h => by
    unfold eqU at h
    split at h
    · cases h
    · rename_i hn
      exact plain h fun ⟨p, e⟩ => absurd e (hn p)
  have ag : isAgT P t = true → eqS P t x y = some b → EqR P t ox oy u v b w := fun hT h => by
    obtain ⟨k1, k2, k3⟩ := isAgT_ok hT
    unfold eqS at h
    split at h
    · rename_i a ha
      split at h
      · rename_i c hc
        simp only [Option.some.injEq] at h
        subst h
        have q1 := klA_ok ha hx
        have q2 := klA_ok hc hy
        obtain ⟨us, rfl⟩ := k3 u q1.1
        obtain ⟨vs, rfl⟩ := k3 v q2.1
        refine bin_eq (fun op => ?_) (eq_key k1 q1 q2 w) rfl rfl
        cases op <;> simp [eqGuard, k2]
      · cases h
    · cases h
  unfold eqT at h
  split at h
  · rename_i e hu
    cases hz : ptZ P t
    · rw [hz] at h; cases h
    · rw [hz] at h
      replace h : eqQ x y = some b := h
      unfold eqQ at h
      have hn : nlT P t = 1 := by unfold nlT; rw [hu]
      split at h
      · rename_i c k r i j
        split at h
        · rename_i c' k' r' i' j'
          cases hq : ptB c k r i j c' k' r' i' j'
          · rw [hq] at h; cases h
          · rw [hq] at h
            simp only [cond_true, Option.some.injEq] at h
            subst h
            simp only [ptB, Bool.and_eq_true, Nat.beq_eq] at hq
            obtain ⟨⟨⟨⟨rfl, rfl⟩, rfl⟩, rfl⟩, rfl⟩ := hq
            rw [V] at hx hy
            obtain ⟨p, hp, rfl⟩ := hx
            obtain ⟨p', hp', rfl⟩ := hy
            rw [hp] at hp'
            obtain rfl := Option.some.inj hp'
            refine bin_eq (fun op => ?_) ?_ rfl rfl
            · cases op <;> simp [eqGuard]
            · unfold ptZ at hz
              rw [hu] at hz
              simp only at hz
              split at hz
              · rename_i ie hie
                rw [Nat.blt_eq] at hz
                have : ie.size ≠ 0 := by omega
                rw [eq_d]; unfold Op.equalIn; simp [run_underlying hu, Result.andThen, sizeOf, typeInfo, hie, sameAddr]
              · cases hz
        · exact nl 1 hn h
      · exact nl 1 hn h
  · rename_i e hu; exact nl 2 (by unfold nlT; rw [hu]) h
  · rename_i e e2 hu; exact nl 3 (by unfold nlT; rw [hu]) h
  · rename_i e e2 e3 hu; exact nl 4 (by unfold nlT; rw [hu]) h
  · cases hz : isAgT P t
    · rw [hz] at h; cases h
    · rw [hz] at h; exact ag hz h
  · cases hz : isAgT P t
    · rw [hz] at h; cases h
    · rw [hz] at h; exact ag hz h
  · rename_i hu; exact plain h fun _ => hu
  · exact plain0 h
  · exact plain0 h
  · cases h
end Go.Proofs.YtlgdojkmbfbnjaaGreatDoor

namespace Go.Proofs.YtlgdojkmbfbnjaaGreatDoor
open Go.RowKit

def i64w (n : Int) : Int := match n with
  | .ofNat m => bif Nat.blt m 9223372036854775808 then .ofNat m else IntKind.i64.wrap n
  | .negSucc m => bif Nat.blt m 9223372036854775808 then .negSucc m else IntKind.i64.wrap n
def wrp (k : IntKind) (n : Int) : Int := match k with
  | .i64 => i64w n
  | k => k.wrap n
theorem cB {α : Type} {m n : Nat} {a b : α} (h1 : m < n → a = b) : (bif Nat.blt m n then a else b) = b := by
  cases h : Nat.blt m n
  · simp only [cond_false]
  · rw [Nat.blt_eq] at h
    simp only [cond_true]; exact h1 h
theorem wrp_eq (k : IntKind) (n : Int) : wrp k n = k.wrap n := by
  cases k <;> try rfl
  show i64w n = _
  unfold i64w
  split
  · exact cB fun h => (w64 (n := Int.ofNat _) ⟨by simp only [Int.ofNat_eq_natCast]; omega, by simp only [Int.ofNat_eq_natCast]; omega⟩).symm
  · exact cB fun h => (w64 (n := Int.negSucc _) ⟨by omega, by omega⟩).symm
def iAdd (a b : Int) : Int := match a, b with
  | .ofNat m, .ofNat n => .ofNat (Nat.add m n)
  | a, b => a + b
theorem iAdd_eq (a b : Int) : iAdd a b = a + b := by cases a <;> cases b <;> rfl
def iSub (a b : Int) : Int := match a, b with
  | .ofNat m, .ofNat n => bif Nat.ble n m then .ofNat (Nat.sub m n) else .negSucc (Nat.pred (Nat.sub n m))
  | a, b => a - b
theorem iSub_eq (a b : Int) : iSub a b = a - b := by
  cases a with
  | negSucc m => cases b <;> rfl
  | ofNat m =>
    cases b with
    | negSucc n => rfl
    | ofNat n =>
      show (bif Nat.ble n m then _ else _) = _
      cases h : Nat.ble n m
      · have h : ¬ n ≤ m := fun q => by rw [Nat.ble_eq_true_of_le q] at h; cases h
        show Int.negSucc (n - m - 1) = Int.ofNat m - Int.ofNat n
        simp only [Int.ofNat_eq_natCast]
        omega
      · rw [Nat.ble_eq] at h
        show Int.ofNat (m - n) = Int.ofNat m - Int.ofNat n
        simp only [Int.ofNat_eq_natCast]
        omega
def iLt (a b : Int) : Bool := match a, b with
  | .ofNat m, .ofNat n => Nat.blt m n
  | .negSucc m, .negSucc n => Nat.blt n m
  | .negSucc _, .ofNat _ => true
  | .ofNat _, .negSucc _ => false
theorem iLt_eq (a b : Int) : iLt a b = decide (a < b) := by
  cases a <;> cases b <;> simp only [iLt] <;> rw [Bool.eq_iff_iff] <;> simp <;> omega
def lssB : List UInt8 → List UInt8 → Bool
  | _, [] => false
  | [], _ :: _ => true
  | a :: x, b :: y => Nat.blt a.toNat b.toNat || (Nat.beq a.toNat b.toNat && lssB x y)
theorem lssB_eq : ∀ a b, lssB a b = Op.bytesLess a b
  | [], [] => rfl
  | _ :: _, [] => rfl
  | [], _ :: _ => rfl
  | a :: x, b :: y => by
    rw [lssB, Op.bytesLess, lssB_eq x y]
    congr 1
    · rw [Bool.eq_iff_iff, Nat.blt_eq, decide_eq_true_eq]; exact Iff.rfl
    · congr 1
      rw [Bool.eq_iff_iff, Nat.beq_eq, beq_iff_eq]
      exact UInt8.toNat_inj
structure A2 where
  f : IntKind → Int → IntKind → Int → Option Value
def kq (k k' : IntKind) (x : Value) : Option Value := if k = k' then some x else none
def aO (op : BinOp) : A2 := match op with
  | .add => ⟨fun k a k' b => kq k k' (.int k (wrp k (iAdd a b)))⟩
  | .sub => ⟨fun k a k' b => kq k k' (.int k (wrp k (iSub a b)))⟩
  | .mul => ⟨fun k a k' b => kq k k' (.int k (wrp k (a * b)))⟩
  | .lss => ⟨fun k a k' b => kq k k' (.bool (iLt a b))⟩
  | .leq => ⟨fun k a k' b => kq k k' (.bool (!iLt b a))⟩
  | .gtr => ⟨fun k a k' b => kq k k' (.bool (iLt b a))⟩
  | .geq => ⟨fun k a k' b => kq k k' (.bool (!iLt a b))⟩
  | .quo => ⟨fun k a k' b => bif iBeq b 0 then none else kq k k' (.int k (wrp k (a.tdiv b)))⟩
  | .rem => ⟨fun k a k' b => bif iBeq b 0 then none else kq k k' (.int k (a.tmod b))⟩
  | .and => ⟨fun k a k' b => kq k k' (.int k (wrp k (BitVec.ofInt k.bits a &&& BitVec.ofInt k.bits b).toNat))⟩
  | .or => ⟨fun k a k' b => kq k k' (.int k (wrp k (BitVec.ofInt k.bits a ||| BitVec.ofInt k.bits b).toNat))⟩
  | .xor => ⟨fun k a k' b => kq k k' (.int k (wrp k (BitVec.ofInt k.bits a ^^^ BitVec.ofInt k.bits b).toNat))⟩
  | .shl => ⟨fun k a _ b => bif iLt b 0 then none else some (.int k (wrp k (a * 2 ^ (min b.toNat k.bits))))⟩
  | .shr => ⟨fun k a _ b => bif iLt b 0 then none else some (.int k (a.fdiv (2 ^ (min b.toNat k.bits))))⟩
  | _ => ⟨fun _ _ _ _ => none⟩
theorem kq_some {k k' : IntKind} {x v : Value} (h : kq k k' x = some v) : k = k' ∧ x = v := by
  unfold kq at h
  obtain ⟨h1, h2⟩ := ite_some h
  exact ⟨h1, Option.some.inj h2⟩
theorem aO_ok {P : Program} {op : BinOp} {k k' : IntKind} {a b : Int} {v : Value} (h : (aO op).f k a k' b = some v) (t : TypeId) (ox oy : Operand) (w : World) : (do eqGuard op t ox oy (.int k a) (.int k' b); binOp op t (.int k a) (.int k' b) : Sem Value).run P w = .ok v w := by
  have z : ∀ {x : Option Value}, (bif iBeq b 0 then none else x) = some v → b ≠ 0 ∧ x = some v := fun h => by
    cases e : iBeq b 0
    · rw [e] at h
      rw [iBeq_eq] at e
      exact ⟨by simpa using e, h⟩
    · rw [e] at h; cases h
  have l : ∀ {x : Option Value}, (bif iLt b 0 then none else x) = some v → ¬ b < 0 ∧ x = some v := fun h => by
    cases e : iLt b 0
    · rw [e] at h
      rw [iLt_eq] at e
      exact ⟨by simpa using e, h⟩
    · rw [e] at h; cases h
  cases op <;> simp only [aO] at h <;> first
    | (cases h; done)
    | (obtain ⟨rfl, rfl⟩ := kq_some h; simp [binOp, eqGuard, Op.intArith, Op.intCmp, Op.intBits, wrp_eq, iAdd_eq, iSub_eq, iLt_eq, ← Int.not_le]; done)
    | (obtain ⟨h0, h⟩ := z h; obtain ⟨rfl, rfl⟩ := kq_some h; simp [binOp, eqGuard, Op.intDiv, wrp_eq, h0]; done)
    | (obtain ⟨h0, h⟩ := l h; simp only [Option.some.injEq] at h; subst h; simp [binOp, eqGuard, Op.shift, wrp_eq, h0]; done)
    | skip
def aS (op : BinOp) (a b : ByteArray) : Option Value := match op with
  | .add => if a.size + b.size ≤ 4611686018427387904 then some (.string (a ++ b)) else none
  | .lss => some (.bool (lssB a.data.toList b.data.toList))
  | .gtr => some (.bool (!(lssB a.data.toList b.data.toList || bEq a.data.toList b.data.toList)))
  | .leq => some (.bool (lssB a.data.toList b.data.toList || bEq a.data.toList b.data.toList))
  | .geq => some (.bool (!lssB a.data.toList b.data.toList))
  | _ => none
theorem aS_ok {P : Program} {op : BinOp} {a b : ByteArray} {v : Value} (h : aS op a b = some v) (t : TypeId) (ox oy : Operand) (w : World) : (do eqGuard op t ox oy (.string a) (.string b); binOp op t (.string a) (.string b) : Sem Value).run P w = .ok v w := by
  cases op <;> simp only [aS] at h <;> first
    | (cases h; done)
    | (simp only [Option.some.injEq] at h; subst h; simp [binOp, eqGuard, Op.stringOp, lssB_eq, bEq_beq, toL_data]; done)
    | skip
  obtain ⟨hl, h⟩ := ite_some h
  simp only [Option.some.injEq] at h
  subst h
  have : ¬ IntKind.i64.max < (a.size : Int) + (b.size : Int) := by rw [show IntKind.i64.max = 9223372036854775807 from rfl]; omega
  simp [binOp, eqGuard, Op.stringOp]
  omega
def arA (op : BinOp) (q : A2) (x y : AV) : Option AV := match x with
  | .vl (.int k a) => (match y with | .vl (.int k' b) => (q.f k a k' b).map .vl | _ => none)
  | .vl (.string a) => (match y with | .vl (.string b) => (aS op a b).map .vl | _ => none)
  | _ => none
/-- An operator, with what is reckoned ahead of it. -/
def bnE (P : Program) (op : BinOp) (t : TypeId) (x y : AV) : Option AV := match op with
  | .eql => (eqC P t (eqT P t) x y).map fun b => .vl (.bool b)
  | .neq => (eqC P t (eqT P t) x y).map fun b => .vl (.bool !b)
  | op => arA op (aO op) x y
theorem bnE_ok {P : Program} {op : BinOp} {t : TypeId} {x y z : AV} {g : Gh} {u v : Value} (h : bnE P op t x y = some z) (hx : V x g u) (hy : V y g v) (ox oy : Operand) (w : World) : ∃ r, (do eqGuard op t ox oy u v; binOp op t u v : Sem Value).run P w = .ok r w ∧ V z g r := by
  have ar : arA op (aO op) x y = some z → ∃ r, (do eqGuard op t ox oy u v; binOp op t u v : Sem Value).run P w = .ok r w ∧ V z g r := fun h => by
    unfold arA at h
    split at h
    · split at h
      · rw [V] at hx hy
        subst hx hy
        cases e : (aO op).f _ _ _ _ with
        | none => rw [e] at h; cases h
        | some r => rw [e] at h; simp only [Option.map_some, Option.some.injEq] at h; subst h; exact ⟨r, aO_ok e t ox oy w, by rw [V]⟩
      · cases h
    · split at h
      · rw [V] at hx hy
        subst hx hy
        cases e : aS op _ _ with
        | none => rw [e] at h; cases h
        | some r => rw [e] at h; simp only [Option.map_some, Option.some.injEq] at h; subst h; exact ⟨r, aS_ok e t ox oy w, by rw [V]⟩
      · cases h
    · cases h
  unfold bnE at h
  split at h
  · cases e : eqC P t (eqT P t) x y with
    | none => rw [e] at h; cases h
    | some b =>
      rw [e] at h
      simp only [Option.map_some, Option.some.injEq] at h
      subst h
      exact ⟨_, (eqC_ok e hx hy ox oy w).1, by rw [V]⟩
  · cases e : eqC P t (eqT P t) x y with
    | none => rw [e] at h; cases h
    | some b =>
      rw [e] at h
      simp only [Option.map_some, Option.some.injEq] at h
      subst h
      exact ⟨_, (eqC_ok e hx hy ox oy w).2, by rw [V]⟩
  · exact ar h
end Go.Proofs.YtlgdojkmbfbnjaaGreatDoor

namespace Go.Proofs.YtlgdojkmbfbnjaaGreatDoor
open Go.RowKit

/-- A slice expression: of a nil slice, too, and with its capacity at its end. -/
def slE (x : AV) (lo hi mx : Option AV) : Option AV := match mx with
  | none => match x with
    | .vl (.slice none 0 0) => (match bdA lo 0, bdA hi 0 with
      | some 0, some 0 => some x
      | _, _ => none)
    | _ => slA x lo hi
  | some m => match x with
    | .vl (.slice none 0 0) => (match bdA lo 0, bdA hi 0, bdA (some m) 0, hi with
      | some 0, some 0, some 0, some _ => some x
      | _, _, _, _ => none)
    | .rf c k r off n => (match bdA lo 0, bdA hi n, bdA (some m) 0, hi with
      | some l, some h, some q, some _ => if l ≤ h ∧ h = q ∧ h ≤ n ∧ 0 < r then some (.rl c k r (off + l) (h - l)) else none
      | _, _, _, _ => none)
    | _ => none
def slK (P : Program) (t : TypeId) (x : AV) : Bool := match P.underlying t with
  | some (.slice e) => (match P.info? e with
    | some i => (match x with
      | .vl (.slice none 0 0) => true
      | x => strideOk x i.size)
    | none => false)
  | some .string => isStr x
  | _ => false
theorem run_sl3 {P : Program} {t e : TypeId} {i : TypeInfo} {ad : Option Addr} {n cap l h m : Nat} {vl vh vm : Option Value} (hu : P.underlying t = some (.slice e)) (hi : P.info? e = some i) (h1 : (vl = none ∧ l = 0) ∨ ∃ k, vl = some (.int k (l : Int))) (h2 : ∃ k, vh = some (.int k (h : Int))) (h3 : ∃ k, vm = some (.int k (m : Int))) (hl : l ≤ h) (hh : h ≤ m) (hc : m ≤ cap) (w : World) :
    (Instr.sliceAt t (.slice ad n cap) vl vh vm).run P w = .ok (.slice (if m = l then ad else ad.map (·.add (l * i.size))) (h - l) (m - l)) w := by
  have e0 : P.elem t = e := by simp [Program.elem, hu]
  have hu' : P.underlying t = some (.slice (P.elem t)) := by rw [e0]; exact hu
  have es : (sizeOf (P.elem t)).run P w = .ok i.size w := by rw [e0]; simp [sizeOf, typeInfo, hi]
  rw [run_sliceAt_slice _ _ _ _ _ _ hu']
  obtain ⟨k2, rfl⟩ := h2
  obtain ⟨k3, rfl⟩ := h3
  rcases h1 with ⟨rfl, rfl⟩ | ⟨k, rfl⟩
  · rw [run_slice_hm (w := w) (t := t) (a := ad) (len := n) (cap := cap) (ht := hu') k2 k3 h m (by omega) (by omega) (by omega), es]; rfl
  · rw [run_slice_lhm (w := w) (t := t) (a := ad) (len := n) (cap := cap) (ht := hu') k k2 k3 l h m (by omega) (by omega) (by omega) (by omega), es]; rfl
theorem bdA_int {g : Gh} {x : Option AV} {v : Option Value} {d l : Nat} (h : bdA x d = some l) (hv : Vo g x v) (hs : x ≠ none) : ∃ k, v = some (.int k (l : Int)) := by
  rcases bdA_ok h hv with ⟨rfl, rfl⟩ | h
  · cases x with
    | none => exact absurd rfl hs
    | some x => exact hv.elim
  · exact h
theorem slE_ok {P : Program} {t : TypeId} {x z : AV} {lo hi mx : Option AV} {g : Gh} {u : Value} {vl vh vm : Option Value} (h : slE x lo hi mx = some z) (hk : slK P t x = true) (hx : V x g u) (h1 : Vo g lo vl) (h2 : Vo g hi vh) (h3 : Vo g mx vm) (w : World) :
    ∃ r, (Instr.sliceAt t u vl vh vm).run P w = .ok r w ∧ V z g r := by
  have nilT : x = .vl (.slice none 0 0) → ∃ e i, P.underlying t = some (.slice e) ∧ P.info? e = some i := fun e => by
    subst e
    unfold slK at hk
    split at hk
    · split at hk
      · exact ⟨_, _, ‹_›, ‹_›⟩
      · cases hk
    · cases hk
    · cases hk
  unfold slE at h
  split at h
  · obtain rfl : vm = none := by cases vm with
      | none => rfl
      | some v => exact h3.elim
    split at h
    · split at h
      · rename_i e1 e2
        simp only [Option.some.injEq] at h
        subst h
        obtain ⟨e, i, hu, hi⟩ := nilT rfl
        rw [V] at hx
        subst hx
        exact ⟨_, run_slA hu hi (bdA_ok e1 h1) (bdA_ok e2 h2) (Nat.le_refl _) (Nat.le_refl _) (Nat.le_refl _) w, by rw [V]; simp⟩
      · cases h
    · rename_i hn
      have ht : (isStr x = true ∧ P.underlying t = some .string) ∨ ∃ e i, P.underlying t = some (.slice e) ∧ P.info? e = some i ∧ strideOk x i.size = true := by
        unfold slK at hk
        split at hk
        · split at hk
          · split at hk
            · exact absurd rfl hn
            · exact .inr ⟨_, _, ‹_›, ‹_›, hk⟩
          · cases hk
        · exact .inl ⟨hk, ‹_›⟩
        · cases hk
      rcases ht with ht | ⟨e, i, ht⟩
      · exact slA_ok (e := 0) (i := default) h (.inl ht) hx h1 h2 w
      · exact slA_ok h (.inr ht) hx h1 h2 w
  · split at h
    · split at h
      · rename_i e1 e2 e3
        simp only [Option.some.injEq] at h
        subst h
        obtain ⟨e, i, hu, hi⟩ := nilT rfl
        rw [V] at hx
        subst hx
        exact ⟨_, run_sl3 hu hi (bdA_ok e1 h1) (bdA_int e3 h2 (by simp)) (bdA_int e2 h3 (by simp)) (Nat.le_refl _) (Nat.le_refl _) (Nat.le_refl _) w, by rw [V]; simp⟩
      · cases h
    · rename_i c k r off n
      split at h
      · rename_i l h' q _ e1 e2 e3
        split at h
        · rename_i hh
          obtain ⟨hl, rfl, hn, hr⟩ := hh
          simp only [Option.some.injEq] at h
          subst h
          have ht : ∃ e i, P.underlying t = some (.slice e) ∧ P.info? e = some i ∧ c = i.size := by
            unfold slK at hk
            split at hk
            · split at hk
              · simp only [strideOk, beq_iff_eq] at hk
                exact ⟨_, _, ‹_›, ‹_›, hk⟩
              · cases hk
            · cases hk
            · cases hk
          obtain ⟨e, i, hu, hi, rfl⟩ := ht
          rw [V] at hx
          rcases hx with ⟨_, _, h0, _⟩ | ⟨b, cap, hb, ⟨o, rfl, ho⟩, hcp, hc⟩
          · omega
          refine ⟨_, run_sl3 hu hi (bdA_ok e1 h1) (bdA_int e3 h2 (by simp)) (bdA_int e2 h3 (by simp)) hl (Nat.le_refl _) (by omega) w, ?_⟩
          rw [V]
          by_cases hq : h' = l
          · rw [if_pos hq]
            exact ⟨b, o, hb, rfl, .inl (by omega)⟩
          · rw [if_neg hq]
            refine ⟨b, o + l * i.size, hb, by simp [Addr.add_lit], .inr ?_⟩
            rcases ho with ho | ho
            · omega
            · rw [ho, Nat.add_mul]
        · cases h
      · cases h
    · cases h
end Go.Proofs.YtlgdojkmbfbnjaaGreatDoor

namespace Go.Proofs.YtlgdojkmbfbnjaaGreatDoor
open Go.RowKit

/-- The block of a row that is still owned. -/
theorem RelH.blk {g : Gh} {H : AS} {w : World} (R : RelH g H w) {k : Nat} {T : TypeId} {c : Nat} {l : List AV} {hf : Bool} (e : H[k]? = some (.row T c l true hf)) {b : Nat} (hb : g.s k l.length = some b) : ∃ cur cap, w.heap[b]? = some (.cells cur T (0, 0)) ∧ cur.size = cap * c ∧ l.length ≤ cap ∧ cap = g.cp k l.length := by
  obtain ⟨cs, h1, h2, h3, h4⟩ := R.ob _ _ _ _ _ _ e b hb
  have h4 : Ow w g.h 0 T c (hd b l.length (g.cp k l.length)) l.length cs := h4
  rcases h4.row.2 with ⟨h, _⟩ | ⟨g', cap, cur, e1, _, hh, hnc, _, hcs, _⟩
  · cases h
  · simp only [hd, Value.slice.injEq, Option.some.injEq, Addr.mk.injEq, and_true, true_and] at e1
    obtain ⟨rfl, rfl⟩ := e1
    exact ⟨cur, _, hh, hcs, hnc, rfl⟩
theorem rowAt_mono {p : Program} {fits : TypeId → Bool} {d : Nat} {e : TypeId} {c c' off n : Nat} (hc : c ≤ c') (h : rowAt p fits d e c off n = true) : rowAt p fits d e c' off n = true := by
  cases d with
  | zero => simp [rowAt] at h
  | succ d =>
    unfold rowAt at h ⊢
    simp only at h ⊢
    by_cases h0 : p.cellsOf e = 0
    · rw [if_pos h0] at h; cases h
    · rw [if_neg h0] at h ⊢
      simp only [Bool.or_eq_true, Bool.and_eq_true, decide_eq_true_eq] at h ⊢
      rcases h with ⟨⟨h1, h2⟩, h3⟩ | ⟨h1, h2⟩
      · exact .inl ⟨⟨h1, by omega⟩, h3⟩
      · exact .inr ⟨by omega, h2⟩
theorem liesAt_mono {p : Program} : ∀ {d : Nat} {e : TypeId} {c c' off : Nat} {u : TypeId} {n : Nat}, c ≤ c' → liesAt p d e c off u n = true → liesAt p d e c' off u n = true
  | 0, e, c, c', off, u, n, hc, h => by simp [liesAt] at h
  | d + 1, e, c, c', off, u, n, hc, h => by
    simp only [liesAt, Bool.or_eq_true] at h ⊢
    rcases h with h | h
    · exact .inl (rowAt_mono hc h)
    · refine .inr ?_
      split at h
      · exact liesAt_mono hc h
      · cases h
/-- Bytes of a row. -/
def bytesOf : List AV → Option (List UInt8)
  | [] => some []
  | .vl (.int .u8 n) :: r => match bytesOf r with
    | some l => if 0 ≤ n ∧ n < 256 then some (UInt8.ofNat n.toNat :: l) else none
    | none => none
  | _ => none
theorem bytesOf_ok : ∀ {l : List AV} {bs : List UInt8}, bytesOf l = some bs → ∀ {g : Gh} {cs : List Value}, Vc 1 l g cs → cs = bs.map fun b => .int .u8 (b.toNat : Int)
  | [], bs, h, g, cs, q => by
    simp only [bytesOf, Option.some.injEq] at h
    subst h
    rw [Vc] at q; rw [q]; rfl
  | x :: r, bs, h, g, cs, q => by
    unfold bytesOf at h
    split at h
    · rename_i heq; cases heq
    · rename_i n r' heq
      simp only [List.cons.injEq] at heq
      obtain ⟨rfl, rfl⟩ := heq
      split at h
      · rename_i l hl
        obtain ⟨hn, h⟩ := ite_some h
        simp only [Option.some.injEq] at h
        subst h
        rw [Vc] at q
        obtain ⟨v, r2, rfl, _, hv, q⟩ := q
        rw [V] at hv
        subst hv
        rw [bytesOf_ok hl q]
        have : (UInt8.ofNat n.toNat).toNat = n.toNat := by rw [UInt8.toNat_ofNat']; omega
        simp [Value.cells, this]
        omega
      · cases h
    · cases h
def cvE (P : Program) (H : AS) (s d : TypeId) (x : AV) : Option AV := match P.underlying s, P.underlying d with
  | some (.int _), some (.int k) => (match x with | .vl (.int _ n) => some (.vl (.int k (wrp k n))) | _ => none)
  | some .string, some .string => (match x with | .vl (.string b) => some (.vl (.string b)) | _ => none)
  | some (.pointer t), some .unsafePointer => (match x with
    | .pt c k r i j => (match H[k]?, P.info? t with
      | some (.row _ c' l true _), some ie => if c' = c ∧ r = l.length ∧ i < l.length ∧ j < c ∧ ie.size ≠ 0 then some x else none
      | _, _ => none)
    | _ => none)
  | some .unsafePointer, some (.pointer t) => (match x with
    | .pt c k r i j => (match H[k]?, P.info? t with
      | some (.row T c' l true _), some _ => if c' = c ∧ r = l.length ∧ 0 < c ∧ P.cellsOf T = c ∧ liesAt P P.depth T l.length (i * c + j) t 1 = true then some x else none
      | _, _ => none)
    | _ => none)
  | some (.slice e), some .string => (match P.underlying e with
    | some (.int .u8) => (match x with
      | .vl (.slice none 0 0) => some (.vl (.string .empty))
      | x => (match elsA H x with
        | some (1, l) => (match bytesOf l with | some bs => some (.vl (.string ⟨⟨bs⟩⟩)) | none => none)
        | _ => none))
    | _ => none)
  | _, _ => none
end Go.Proofs.YtlgdojkmbfbnjaaGreatDoor

namespace Go.Proofs.YtlgdojkmbfbnjaaGreatDoor
open Go.RowKit

theorem cvE_ok {P : Program} {H : AS} {s d : TypeId} {x z : AV} {g : Gh} {w : World} {u : Value} (h : cvE P H s d x = some z) (R : RelH g H w) (hx : V x g u) : ∃ r, (convert s d u).run P w = .ok r w ∧ V z g r := by
  unfold cvE at h
  split at h
  · rename_i h1 h2
    split at h
    · simp only [Option.some.injEq] at h
      subst h
      rw [V] at hx
      subst hx
      exact vl1 (by simp [convert, run_underlying h1, run_underlying h2, Conv.intToInt, wrp_eq])
    · cases h
  · rename_i h1 h2
    split at h
    · simp only [Option.some.injEq] at h
      subst h
      rw [V] at hx
      subst hx
      exact vl1 (by simp [convert, run_underlying h1, run_underlying h2])
    · cases h
  · rename_i t h1 h2
    split at h
    · rename_i c k r i j
      split at h
      · rename_i T c' l hf ie e hi
        obtain ⟨⟨rfl, rfl, h3, h4, h5⟩, h⟩ := ite_some h
        simp only [Option.some.injEq] at h
        subst h
        have hx2 := hx
        rw [V] at hx2
        obtain ⟨b, hb, rfl⟩ := hx2
        obtain ⟨cur, cap, hh, hs, hl, _⟩ := R.blk e hb
        refine ⟨_, Lib.run_to_unsafe w _ h1 h2 hi h5 (e := T) (cells := cur.size) (by simp [World.shape?, hh]) ?_, hx⟩
        show i * c' + j < cur.size
        rw [hs]
        have : (i + 1) * c' ≤ cap * c' := Nat.mul_le_mul_right _ (by omega)
        rw [Nat.succ_mul] at this
        omega
      · cases h
    · cases h
  · rename_i t h1 h2
    split at h
    · rename_i c k r i j
      split at h
      · rename_i T c' l hf ie e hi
        obtain ⟨⟨rfl, rfl, h3, h4, h5⟩, h⟩ := ite_some h
        simp only [Option.some.injEq] at h
        subst h
        have hx2 := hx
        rw [V] at hx2
        obtain ⟨b, hb, rfl⟩ := hx2
        obtain ⟨cur, cap, hh, hs, hl, _⟩ := R.blk e hb
        refine ⟨_, Lib.run_from_unsafe w _ h1 h2 hi (e := T) (cells := cur.size) (by simp [World.shape?, hh]) ?_, hx⟩
        rw [hs, h4, Nat.mul_div_cancel _ h3]
        exact liesAt_mono hl h5
      · cases h
    · cases h
  · rename_i e h1 h2
    split at h
    · rename_i he
      split at h
      · simp only [Option.some.injEq] at h
        subst h
        rw [V] at hx
        subst hx
        exact vl1 (by rw [run_convert_bytes_string w s d e none 0 0 h1 he h2]; rfl)
      · split at h
        · rename_i l hel
          split at h
          · rename_i bs hbs
            simp only [Option.some.injEq] at h
            subst h
            obtain ⟨ad, cap, cs, rfl, hc, hcell⟩ := elsA_ok hel R hx
            have hcs := bytesOf_ok hbs hc
            have hlen := hc.len
            rw [Nat.mul_one] at hlen
            refine vl1 ?_
            rw [run_convert_bytes_string w s d e _ _ _ h1 he h2]
            cases ad with
            | none =>
              have : cs = [] := by
                rcases Nat.eq_zero_or_pos cs.length with q | q
                · exact List.eq_nil_of_length_eq_zero q
                · obtain ⟨b, o, e1, _⟩ := hcell q; cases e1
              rw [this] at hcs
              have : bs = [] := by simpa using hcs.symm
              subst this
              rfl
            | some ad =>
              have hl := run_loadCells_list (P := P) w ad cs (fun j v hj => by
                have hp : 0 < cs.length := by have := (List.getElem?_eq_some_iff.1 hj).1; omega
                obtain ⟨b, o, e1, q⟩ := hcell hp
                simp only [Option.some.injEq] at e1
                subst e1
                rw [Addr.add_lit]; exact q j v hj)
              rw [hlen, hcs] at hl
              rw [run_bytesToString w ad l.length cap (bs.map fun b => (b.toNat : Int)) (by rw [hl, List.map_map]; rfl), foldl_push_byteCells]
              simp [ByteArray.empty, ByteArray.emptyWithCapacity]
              try rfl
          · cases h
        · cases h
    · cases h
  · cases h
end Go.Proofs.YtlgdojkmbfbnjaaGreatDoor

namespace Go.Proofs.YtlgdojkmbfbnjaaGreatDoor
open Go.RowKit

/-- A map, or an iterator, is turned. -/
theorem RelH.mset {g g' : Gh} {H : AS} {w : World} (R : RelH g H w) {k b : Nat} {o o' : AO} {ob ob' : Obj} (e : H[k]? = some o) (hm : isM o = true) (hm' : isM o' = true) (hb : g.s k 0 = some b) (hh : w.heap[b]? = some ob) (hc : ∀ c t f, ob ≠ .cells c t f) (q : g.le g') (hs : ∀ k r, g'.s k r = g.s k r) (_ : ∀ k r, g'.cp k r = g.cp k r) (hh' : g'.h = g.h) (hsn : ∀ k1, k1 ≠ k → g'.sn k1 = g.sn k1)
    (ho : ObjM g' { w with heap := w.heap.setIfInBounds b ob' } k b o') : RelH g' (H.set k o') { w with heap := w.heap.setIfInBounds b ob' } ∧ TX g w g' { w with heap := w.heap.setIfInBounds b ob' } ∧ EX g H g' (H.set k o') := by
  have hk : k < H.length := (List.getElem?_eq_some_iff.1 e).1
  have far : ∀ b1, b1 ≠ b → (w.heap.setIfInBounds b ob')[b1]? = w.heap[b1]? := fun b1 h => by rw [Array.getElem?_setIfInBounds_ne (fun e => h e.symm)]
  have hbk : g.h b = none := by
    cases q : g.h b with
    | none => rfl
    | some cc =>
      have := R.im b cc q
      unfold Go.Proofs.YtlgdojkmbfbnjaaGreatDoor.blk at this
      rw [hh] at this
      cases ob <;> first | (exact absurd rfl (hc _ _ _)) | cases this
  refine ⟨⟨fun b1 cc h => ?_, fun k1 T c l live hf e1 b1 hb1 => ?_, fun k1 T c l live hf e1 r hr => ?_, fun k1 r1 k2 r2 b1 h1 h2 => ?_, fun k1 r1 b1 h1 => ?_, fun k1 o1 e1 b1 hb1 => ?_⟩, ⟨⟨rfl, rfl, rfl, by simp, fun b1 _ hn => far b1 fun e2 => hn ⟨k, 0, by rw [e2]; exact hb⟩⟩, fun b1 ⟨k1, r1, h⟩ => .inl ⟨k1, r1, by rw [← hs]; exact h⟩, fun b1 => .inl (by rw [hh'])⟩, by simp, fun k1 T c l live hf e1 => ?_⟩
  · rw [hh'] at h
    have hne : b1 ≠ b := fun e2 => by subst e2; rw [hbk] at h; cases h
    have := R.im b1 cc h
    unfold Go.Proofs.YtlgdojkmbfbnjaaGreatDoor.blk at this ⊢
    rw [far b1 hne]; exact this
  · have hne : k1 ≠ k := fun e2 => by
      subst e2
      rw [List.getElem?_set_self hk] at e1
      obtain rfl := Option.some.inj e1
      cases hm'
    rw [List.getElem?_set_ne (fun e2 => hne e2.symm)] at e1
    rw [hs] at hb1
    exact (R.ob _ _ _ _ _ _ e1 b1 hb1).mono q hb1 (far b1 fun e2 => hne (by subst e2; exact R.inj _ _ _ _ _ hb1 hb)) fun _ => by rw [hh']
  · have hne : k1 ≠ k := fun e2 => by
      subst e2
      rw [List.getElem?_set_self hk] at e1
      obtain rfl := Option.some.inj e1
      cases hm'
    rw [List.getElem?_set_ne (fun e2 => hne e2.symm)] at e1
    rw [hs]
    exact R.ver _ _ _ _ _ _ e1 r hr
  · rw [hs] at h1 h2
    exact R.inj _ _ _ _ _ h1 h2
  · rw [hs] at h1
    rw [List.length_set]
    exact ⟨(R.lo _ _ _ h1).1, by simpa using (R.lo _ _ _ h1).2⟩
  · by_cases hne : k1 = k
    · subst hne
      rw [List.getElem?_set_self hk] at e1
      obtain rfl := Option.some.inj e1
      rw [hs, hb] at hb1
      obtain rfl := Option.some.inj hb1
      exact ho
    · rw [List.getElem?_set_ne (fun e2 => hne e2.symm)] at e1
      rw [hs] at hb1
      exact (R.mb k1 o1 e1 b1 hb1).mono q (far b1 fun e2 => hne (by subst e2; exact R.inj _ _ _ _ _ hb1 hb)) (hsn k1 hne)
  · have hne : k1 ≠ k := fun e2 => by
      subst e2
      rw [e] at e1
      obtain rfl := Option.some.inj e1
      cases hm
    exact ⟨l, live, by rw [List.getElem?_set_ne (fun e2 => hne e2.symm)]; exact e1, Nat.le_refl _, fun _ r => hs _ _⟩
/-- A map, or an iterator, comes. -/
theorem RelH.mnew {g : Gh} {H : AS} {w : World} (R : RelH g H w) (o : AO) (ob : Obj) (hm : isM o = true) (sn : Nat) (ho : ∀ g', g.le g' → g'.s H.length 0 = some w.heap.size → g'.sn H.length = sn → ObjM g' (w.alloc ob) H.length w.heap.size o) :
    ∃ g', g.le g' ∧ g'.s H.length 0 = some w.heap.size ∧ RelH g' (H ++ [o]) (w.alloc ob) ∧ TX g w g' (w.alloc ob) ∧ EX g H g' (H ++ [o]) := by
  have hk : ∀ r', g.s H.length r' = none := fun r' => by
    cases e : g.s H.length r' with
    | none => rfl
    | some b => have := (R.lo _ _ _ e).1; omega
  let g' : Gh := ⟨g.h, fun k r => if k = H.length ∧ r = 0 then some w.heap.size else g.s k r, g.cp, fun k => if k = H.length then sn else g.sn k⟩
  have hst : ∀ k r b, g'.s k r = some b → (k = H.length ∧ r = 0 ∧ b = w.heap.size) ∨ g.s k r = some b := fun k r b e => by
    have e : (if k = H.length ∧ r = 0 then some w.heap.size else g.s k r) = some b := e
    split at e
    · rename_i h; exact .inl ⟨h.1, h.2, (Option.some.inj e).symm⟩
    · exact .inr e
  have q : g.le g' := ⟨Hp.le_refl _, fun k r b e => ⟨by
    show (if _ then _ else _) = _
    rw [if_neg]; exact e
    rintro ⟨rfl, rfl⟩; rw [hk] at e; (cases e), rfl⟩, fun k r b e => by
    show _ ≤ if _ then _ else _
    rw [if_neg]; exact Nat.le_refl _
    rintro rfl; rw [hk] at e; (cases e)⟩
  have h0 : g'.s H.length 0 = some w.heap.size := by show (if _ then _ else _) = _; rw [if_pos ⟨rfl, rfl⟩]
  have hn : g'.sn H.length = sn := by show (if _ then _ else _) = _; rw [if_pos rfl]
  refine ⟨g', q, h0, ⟨R.im.alloc _, fun k T c l live hf e b hb => ?_, fun k T c l live hf e r hr => ?_, fun k r1 k' r2 b e1 e2 => ?_, fun k r b e => ?_, fun k o1 e b hb => ?_⟩, ⟨(Tu.refl _ _).alloc _, fun b ⟨k, r', e⟩ => (hst _ _ _ e).elim (fun h => .inr (Nat.le_of_eq h.2.2.symm)) fun h => .inl ⟨k, r', h⟩, fun _ => .inl rfl⟩, by simp, fun k T c l live hf e => ?_⟩
  · rcases hst _ _ _ hb with ⟨rfl, -, -⟩ | hb
    · rw [List.getElem?_append_right (Nat.le_refl _), Nat.sub_self] at e
      simp only [List.getElem?_cons_zero, Option.some.injEq] at e
      subst e; cases hm
    · have hlt := R.lo _ _ _ hb
      rw [List.getElem?_append_left hlt.1] at e
      exact (R.ob _ _ _ _ _ _ e b hb).mono q hb (Below.heap_alloc _ _ _ hlt.2) fun _ => rfl
  · cases e3 : g'.s k r with
    | none => rfl
    | some b =>
      rcases hst _ _ _ e3 with ⟨rfl, -, -⟩ | hb
      · rw [List.getElem?_append_right (Nat.le_refl _), Nat.sub_self] at e
        simp only [List.getElem?_cons_zero, Option.some.injEq] at e
        subst e; cases hm
      · have hlt := R.lo _ _ _ hb
        rw [List.getElem?_append_left hlt.1] at e
        rw [R.ver _ _ _ _ _ _ e r hr] at hb; cases hb
  · rcases hst _ _ _ e1 with ⟨rfl, rfl, rfl⟩ | h1 <;> rcases hst _ _ _ e2 with ⟨rfl, rfl, h⟩ | h2
    · rfl
    · have := (R.lo _ _ _ h2).2; omega
    · subst h; have := (R.lo _ _ _ h1).2; omega
    · exact R.inj _ _ _ _ _ h1 h2
  · rw [List.length_append, List.length_singleton]
    rcases hst _ _ _ e with ⟨rfl, rfl, rfl⟩ | h
    · simp
    · have := R.lo _ _ _ h; simp; omega
  · rcases hst _ _ _ hb with ⟨rfl, -, rfl⟩ | hb
    · rw [List.getElem?_append_right (Nat.le_refl _), Nat.sub_self] at e
      simp only [List.getElem?_cons_zero, Option.some.injEq] at e
      subst e
      exact ho g' q h0 hn
    · have hlt := R.lo _ _ _ hb
      rw [List.getElem?_append_left hlt.1] at e
      refine (R.mb k o1 e b hb).mono q (Below.heap_alloc _ _ _ hlt.2) ?_
      show (if _ then _ else _) = _
      rw [if_neg (by omega)]
  · have hlt := (List.getElem?_eq_some_iff.1 e).1
    refine ⟨l, live, by rw [List.getElem?_append_left hlt]; exact e, Nat.le_refl _, fun _ r => ?_⟩
    show (if _ then _ else _) = _
    rw [if_neg (by omega)]
end Go.Proofs.YtlgdojkmbfbnjaaGreatDoor

namespace Go.Proofs.YtlgdojkmbfbnjaaGreatDoor
open Go.RowKit

/-- Among a map's entries: which one, and its value. -/
def lkE (P : Program) (kt : TypeId) (lk : List Lit) : List (AV × AV) → Nat → Option (Option (Nat × AV))
  | [], _ => some none
  | p :: r, i => match klA P kt p.1 with
    | some la => bif litsEq lk la then some (some (i, p.2)) else lkE P kt lk r (i + 1)
    | none => none
def KeyOk (P : Program) (kt : TypeId) (v : Value) (ls : List Lit) : Prop := v.formed P kt = true ∧ P.keyLits 20 kt v.cells.toList = some ls
theorem plain_key {P : Program} {kt : TypeId} {v : Value} {ls : List Lit} (h : KeyOk P kt v ls) : (P.underlying kt = some .bool ∧ ∃ b, v = .bool b ∧ ls = [.bool b]) ∨ (∃ q n, P.underlying kt = some (.int q) ∧ v = .int q n ∧ ls = [.int q n]) ∨ (P.underlying kt = some .string ∧ ∃ s, v = .string s ∧ ls = [.string s.data.toList]) ∨ (match P.underlying kt with | some (.array _ _) | some (.struct _) => True | _ => False) := by
  obtain ⟨h1, h2⟩ := h
  revert h2
  rw [Program.keyLits.eq_def]
  simp only
  have one : ∀ {a : Value}, v.cells.toList = [a] → (match P.underlying kt with | some (.array _ _) | some (.struct _) => True | _ => False) ∨ v = a := fun {a} e => by
    cases v with
    | agg cs =>
      refine .inl ?_
      rw [Value.formed] at h1
      cases hu : P.underlying kt with
      | none => rw [hu] at h1; cases h1
      | some D => rw [hu] at h1; cases D <;> first | trivial | cases h1
    | tuple cs => rw [Value.formed] at h1; cases h1
    | _ => simp [Value.cells] at e; exact .inr e
  split <;> intro h2
  · rename_i b hu hc
    simp only [Option.some.injEq] at h2
    rcases one hc with h | h
    · exact .inr (.inr (.inr h))
    · exact .inl ⟨hu, b, h, h2.symm⟩
  · rename_i q q' n hu hc
    obtain ⟨⟨rfl, _⟩, h2⟩ := ite_some h2
    simp only [Option.some.injEq] at h2
    rcases one hc with h | h
    · exact .inr (.inr (.inr h))
    · exact .inr (.inl ⟨_, n, hu, h, h2.symm⟩)
  · rename_i s hu hc
    have h2 := (ite_some h2).2
    simp only [Option.some.injEq] at h2
    rcases one hc with h | h
    · exact .inr (.inr (.inr h))
    · exact .inr (.inr (.inl ⟨hu, s, h, h2.symm⟩))
  · rename_i hu; exact .inr (.inr (.inr (by rw [hu]; trivial)))
  · rename_i hu; exact .inr (.inr (.inr (by rw [hu]; trivial)))
  · cases h2
/-- What the search gives. -/
def FindR (g : Gh) : Option (Nat × AV) → Option (Nat × Value) → Prop
  | none, none => True
  | some (i, x), some (j, v) => i = j ∧ V x g v
  | _, _ => False
theorem find_now {P : Program} {kt : TypeId} {k : Value} {lk : List Lit} {D : TypeDesc} (hk : KeyOk P kt k lk) (hD : P.underlying kt = some D) (hp : D = .bool ∨ (∃ q, D = .int q) ∨ D = .string) : ∀ {es : List (AV × AV)} {i j : Nat} {r : Option (Nat × AV)} {g : Gh} {l : List MapEntry}, lkE P kt lk es i = some r → Ve es j g l → ∃ r', Instr.findNow D k l i = some r' ∧ FindR g r r'
  | [], i, j, r, g, l, h, q => by
    rw [Ve] at q
    subst q
    simp only [lkE, Option.some.injEq] at h
    subst h
    exact ⟨none, rfl, trivial⟩
  | p :: es, i, j, r, g, l, h, q => by
    rw [Ve] at q
    obtain ⟨e, l', rfl, _, q1, q2, q3⟩ := q
    rw [lkE] at h
    split at h
    · rename_i la hla
      have he := klA_ok hla q1
      have same : Instr.sameNow D k e.key = some (litsEq lk la) := by
        have hs : ¬ (match P.underlying kt with | some (.array _ _) | some (.struct _) => True | _ => False) := by
          rw [hD]; rcases hp with rfl | ⟨q, rfl⟩ | rfl <;> simp
        rcases plain_key hk with ⟨h1, b, h2, h3⟩ | ⟨q, n, h1, h2, h3⟩ | ⟨h1, s, h2, h3⟩ | h1
        · rcases plain_key he with ⟨h4, b', h5, h6⟩ | ⟨q', n', h4, h5, h6⟩ | ⟨h4, s', h5, h6⟩ | h4
          · rw [h1] at hD; obtain rfl := Option.some.inj hD
            rw [h2, h5, h3, h6]; simp [Instr.sameNow, litsEq, litEq]
          · rw [h1] at h4; cases h4
          · rw [h1] at h4; cases h4
          · exact absurd h4 hs
        · rcases plain_key he with ⟨h4, b', h5, h6⟩ | ⟨q', n', h4, h5, h6⟩ | ⟨h4, s', h5, h6⟩ | h4
          · rw [h1] at h4; cases h4
          · rw [h1] at h4 hD; obtain rfl := Option.some.inj hD
            simp only [Option.some.injEq, TypeDesc.int.injEq] at h4
            subst h4
            rw [h2, h5, h3, h6]; simp [Instr.sameNow, litsEq, litEq, iBeq_eq]
          · rw [h1] at h4; cases h4
          · exact absurd h4 hs
        · rcases plain_key he with ⟨h4, b', h5, h6⟩ | ⟨q', n', h4, h5, h6⟩ | ⟨h4, s', h5, h6⟩ | h4
          · rw [h1] at h4; cases h4
          · rw [h1] at h4; cases h4
          · rw [h1] at hD; obtain rfl := Option.some.inj hD
            rw [h2, h5, h3, h6]
            have : (s == s') = (s.data.toList == s'.data.toList) := by rw [Bool.eq_iff_iff, MapKept.bytes_beq, beq_iff_eq]; exact ⟨fun h => by rw [h], fun h => by obtain ⟨⟨a⟩⟩ := s; obtain ⟨⟨b⟩⟩ := s'; have h : a = b := h; rw [h]⟩
            simp [Instr.sameNow, litsEq, litEq, bEq_beq, this]
          · exact absurd h4 hs
        · exact absurd h1 hs
      rw [Instr.findNow, same]
      cases hq : litsEq lk la
      · rw [hq] at h
        exact find_now hk hD hp (by simpa using h) q3
      · rw [hq] at h
        simp only [cond_true, Option.some.injEq] at h
        subst h
        exact ⟨_, rfl, rfl, q2⟩
    · cases h
theorem find_ask {P : Program} {kt : TypeId} (ht : P.keyTypeAt 20 kt = true) {k : Value} {lk : List Lit} (hk : KeyOk P kt k lk) (w : World) : ∀ {es : List (AV × AV)} {i j : Nat} {r : Option (Nat × AV)} {g : Gh} {l : List MapEntry}, lkE P kt lk es i = some r → Ve es j g l → ∃ r', (Instr.findAsking kt k l i).run P w = .ok r' w ∧ FindR g r r'
  | [], i, j, r, g, l, h, q => by
    rw [Ve] at q
    subst q
    simp only [lkE, Option.some.injEq] at h
    subst h
    exact ⟨none, rfl, trivial⟩
  | p :: es, i, j, r, g, l, h, q => by
    rw [Ve] at q
    obtain ⟨e, l', rfl, _, q1, q2, q3⟩ := q
    rw [lkE] at h
    split at h
    · rename_i la hla
      have he := eq_key ht hk (klA_ok hla q1) w
      rw [Instr.findAsking]
      simp only [Sem.run_bind, he, Result.andThen]
      cases hq : litsEq lk la
      · rw [hq] at h
        exact find_ask ht hk w (by simpa using h) q3
      · rw [hq] at h
        simp only [cond_true, Option.some.injEq] at h
        subst h
        exact ⟨_, rfl, rfl, q2⟩
    · cases h
theorem find_key {P : Program} {kt : TypeId} (ht : P.keyTypeAt 20 kt = true) {k : Value} {lk : List Lit} (hk : KeyOk P kt k lk) {es : List (AV × AV)} {r : Option (Nat × AV)} {g : Gh} {l : List MapEntry} (h : lkE P kt lk es 0 = some r) (q : Ve es 0 g l) (w : World) : ∃ r', (Instr.findKey kt k l).run P w = .ok r' w ∧ FindR g r r' := by
  unfold Instr.findKey
  have dd : ∃ D, P.underlying kt = some D := by
    cases e : P.underlying kt with
    | none => rw [show (20 : Nat) = 19 + 1 from rfl, Program.keyTypeAt, e] at ht; cases ht
    | some D => exact ⟨D, rfl⟩
  obtain ⟨D, hD⟩ := dd
  simp only [Sem.run_bind, run_underlying hD, Result.andThen]
  by_cases hp : D = .bool ∨ (∃ q, D = .int q) ∨ D = .string
  · obtain ⟨r', h1, h2⟩ := find_now hk hD hp h q
    exact ⟨r', by rw [h1]; rfl, h2⟩
  · cases l with
    | nil =>
      have : es = [] := by have := q.len; exact List.eq_nil_of_length_eq_zero (by simpa using this.symm)
      subst this
      simp only [lkE, Option.some.injEq] at h
      subst h
      exact ⟨none, rfl, trivial⟩
    | cons e l' =>
      have hn : Instr.findNow D k (e :: l') 0 = none := by
        have : Instr.sameNow D k e.key = none := by
          cases D <;> first
            | (exact absurd (.inl rfl) hp)
            | (exact absurd (.inr (.inl ⟨_, rfl⟩)) hp)
            | (exact absurd (.inr (.inr rfl)) hp)
            | rfl
        rw [Instr.findNow, this]
      rw [hn]
      exact find_ask ht hk w h q
end Go.Proofs.YtlgdojkmbfbnjaaGreatDoor

namespace Go.Proofs.YtlgdojkmbfbnjaaGreatDoor
open Go.RowKit

/-- Keys that are texts. -/
noncomputable def lkT (s : List UInt8) (es : List (AV × AV)) : Nat → Option (Option (Nat × AV)) := List.rec (fun _ => some none) (fun p _ ih i => match p.1 with
  | .vl v => (match v with
    | .string t => bif bEq s t.data.toList then some (some (i, p.2)) else ih (Nat.succ i)
    | _ => none)
  | _ => none) es
/-- Keys that are numbers. -/
noncomputable def lkI (k : IntKind) (n : Int) (es : List (AV × AV)) : Nat → Option (Option (Nat × AV)) := List.rec (fun _ => some none) (fun p _ ih i => match p.1 with
  | .vl v => (match v with
    | .int k' m => if k = k' then (bif iBeq n m then some (some (i, p.2)) else ih (Nat.succ i)) else none
    | _ => none)
  | _ => none) es
def kyT (P : Program) (kt : TypeId) : Nat := match P.underlying kt with
  | some .string => 0
  | some (.int _) => 1
  | _ => 2
/-! Keys as numbers: what is reckoned of a key is reckoned once. -/
noncomputable def keyN (x : AV) : Nat := match x with
  | .vl v => (match v with
    | .int k m => (match k with
      | .i64 => (match m with | .ofNat m => Nat.succ m | .negSucc _ => 0)
      | _ => 0)
    | _ => 0)
  | _ => 0
noncomputable def lkC (kc : AV → Nat) (n : Nat) (es : List (AV × AV)) : Nat → Option (Option (Nat × AV)) := List.rec (fun _ => some none) (fun p _ ih i => Nat.rec none (fun m _ => Bool.rec (ih (Nat.succ i)) (some (some (i, p.2))) (Nat.beq m n)) (kc p.1)) es
theorem lkC_cons {kc : AV → Nat} {n : Nat} {p : AV × AV} {es : List (AV × AV)} {i : Nat} {r : Option (Nat × AV)} (h : lkC kc n (p :: es) i = some r) : ∃ m, kc p.1 = m + 1 ∧ ((m = n ∧ r = some (i, p.2)) ∨ (m ≠ n ∧ lkC kc n es (i + 1) = some r)) := by
  replace h : (Nat.rec none (fun m _ => Bool.rec (lkC kc n es (i + 1)) (some (some (i, p.2))) (Nat.beq m n)) (kc p.1) : Option (Option (Nat × AV))) = some r := h
  cases hk : kc p.1 with
  | zero => rw [hk] at h; cases h
  | succ m =>
    rw [hk] at h
    replace h : (Bool.rec (lkC kc n es (i + 1)) (some (some (i, p.2))) (Nat.beq m n) : Option (Option (Nat × AV))) = some r := h
    refine ⟨m, rfl, ?_⟩
    cases e : Nat.beq m n with
    | true =>
      rw [e] at h
      exact .inl ⟨Nat.eq_of_beq_eq_true e, (Option.some.inj h).symm⟩
    | false =>
      rw [e] at h
      exact .inr ⟨fun q => by rw [q, Nat.beq_refl] at e; exact Bool.noConfusion e, h⟩
theorem keyN_ok {x : AV} {m : Nat} (h : keyN x = m + 1) : x = .vl (.int .i64 (.ofNat m)) := by
  unfold keyN at h
  repeat' split at h
  all_goals first | (cases h; done) | skip
  have := Nat.succ.inj h
  subst this
  rfl
theorem lkC_int {n : Nat} : ∀ {es : List (AV × AV)} {i : Nat} {r : Option (Nat × AV)}, lkC keyN n es i = some r → lkI .i64 (.ofNat n) es i = some r
  | [], i, r, h => h
  | p :: es, i, r, h => by
    obtain ⟨m, h1, h2⟩ := lkC_cons h
    have h1 := keyN_ok h1
    show (match p.1 with
      | .vl v => (match v with
        | .int k' m => if IntKind.i64 = k' then (bif iBeq (.ofNat n) m then some (some (i, p.2)) else lkI .i64 (.ofNat n) es (i + 1)) else none
        | _ => none)
      | _ => none) = some r
    rw [h1]
    simp only [if_true]
    rcases h2 with ⟨rfl, rfl⟩ | ⟨h2, h3⟩
    · have : iBeq (.ofNat m) (.ofNat m) = true := Nat.beq_refl m
      rw [this]; rfl
    · have : iBeq (.ofNat n) (.ofNat m) = false := by
        show Nat.beq n m = false
        cases e : Nat.beq n m with
        | false => rfl
        | true => exact absurd (Nat.eq_of_beq_eq_true e).symm h2
      rw [this]
      exact lkC_int h3
noncomputable def encB (l : List UInt8) : Nat := List.rec 0 (fun b _ ih => b.toNat + 1 + 257 * ih) l
theorem encB_inj : ∀ {a b : List UInt8}, encB a = encB b → a = b
  | [], [], _ => rfl
  | [], x :: b, h => by
    have h : 0 = x.toNat + 1 + 257 * encB b := h
    omega
  | x :: a, [], h => by
    have h : x.toNat + 1 + 257 * encB a = 0 := h
    omega
  | x :: a, y :: b, h => by
    have h : x.toNat + 1 + 257 * encB a = y.toNat + 1 + 257 * encB b := h
    have h1 := x.toNat_lt
    have h2 := y.toNat_lt
    have h3 : x.toNat = y.toNat := by omega
    have h4 : encB a = encB b := by omega
    rw [UInt8.toNat_inj.1 h3, encB_inj h4]
/-- A pair's number. -/
def prN (a b : Nat) : Nat := (a + b) * (a + b) + a
theorem prN_inj {a b c d : Nat} (h : prN a b = prN c d) : a = c ∧ b = d := by
  unfold prN at h
  have key : ∀ s t x y : Nat, x ≤ s → y ≤ t → s * s + x = t * t + y → ¬ s < t := fun s t x y h1 h2 h3 h4 => by
    have := Nat.mul_le_mul (show s + 1 ≤ t from h4) (show s + 1 ≤ t from h4)
    rw [Nat.add_mul, Nat.mul_add] at this
    omega
  have h1 := key (a + b) (c + d) a c (by omega) (by omega) h
  have h2 := key (c + d) (a + b) c a (by omega) (by omega) h.symm
  have h3 : a + b = c + d := by omega
  rw [h3] at h
  omega
/-- The number of a key; 0: none. -/
noncomputable def encI (n : Int) : Nat := match n with | .ofNat a => Nat.succ (3 * a) | .negSucc _ => 0
noncomputable def encT (x : Lit) : Nat := match x with
  | .int k n => (match k with | .i64 => encI n | _ => 0)
  | .string s => Nat.succ (3 * encB s + 1)
  | .bool b => Bool.rec (Nat.succ 2) (Nat.succ 5) b
  | _ => 0
noncomputable def encL (l : List Lit) : Nat := List.rec 1 (fun x _ ih => Nat.rec 0 (fun a _ => Nat.rec 0 (fun b _ => Nat.succ (Nat.succ (prN a b))) ih) (encT x)) l
theorem encI_inj {x y : Int} {m : Nat} (h1 : encI x = m + 1) (h2 : encI y = m + 1) : x = y ∧ m % 3 = 0 := by
  cases x with
  | negSucc a => cases h1
  | ofNat a =>
    cases y with
    | negSucc b => cases h2
    | ofNat b =>
      have h1 : Nat.succ (3 * a) = m + 1 := h1
      have h2 : Nat.succ (3 * b) = m + 1 := h2
      have : a = b := by omega
      exact ⟨by rw [this], by omega⟩
theorem encT_int {k : IntKind} {n : Int} {m : Nat} (h : encT (.int k n) = m + 1) : k = .i64 ∧ encI n = m + 1 := by
  cases k <;> first | exact ⟨rfl, h⟩ | (cases h; done)
theorem encT_bool {b : Bool} {m : Nat} (h : encT (.bool b) = m + 1) : m = if b then 5 else 2 := by
  cases b
  · have h : Nat.succ 2 = m + 1 := h
    simp; omega
  · have h : Nat.succ 5 = m + 1 := h
    simp; omega
theorem encT_str {s : List UInt8} {m : Nat} (h : encT (.string s) = m + 1) : m = 3 * encB s + 1 := by
  have h : Nat.succ (3 * encB s + 1) = m + 1 := h
  omega
theorem encT_lit {x : Lit} {m : Nat} (h : encT x = m + 1) : (∃ n, x = .int .i64 n ∧ encI n = m + 1) ∨ (∃ s, x = .string s ∧ m = 3 * encB s + 1) ∨ ∃ b, x = .bool b ∧ m = if b then 5 else 2 := by
  cases x with
  | int k n => obtain ⟨rfl, h⟩ := encT_int h; exact .inl ⟨n, rfl, h⟩
  | string s => exact .inr (.inl ⟨s, rfl, encT_str h⟩)
  | bool b => exact .inr (.inr ⟨b, rfl, encT_bool h⟩)
  | _ => cases h
theorem encT_inj {x y : Lit} {m : Nat} (h1 : encT x = m + 1) (h2 : encT y = m + 1) : x = y := by
  have i0 : ∀ n, encI n = m + 1 → m % 3 = 0 := fun n h => (encI_inj h h).2
  rcases encT_lit h1 with ⟨n, rfl, p⟩ | ⟨s, rfl, p⟩ | ⟨b, rfl, p⟩ <;> rcases encT_lit h2 with ⟨n', rfl, q⟩ | ⟨s', rfl, q⟩ | ⟨b', rfl, q⟩
  · rw [(encI_inj p q).1]
  · have := i0 n p; omega
  · have := i0 n p; cases b' <;> simp at q <;> omega
  · have := i0 n' q; omega
  · rw [encB_inj (a := s) (b := s') (by omega)]
  · cases b' <;> simp at q <;> omega
  · have := i0 n' q; cases b <;> simp at p <;> omega
  · cases b <;> simp at p <;> omega
  · cases b <;> cases b' <;> first | rfl | (simp at p q; omega)
theorem encT_k {x : Lit} {m : Nat} (h : encT x = m + 1) : litK x = true := by
  rcases encT_lit h with ⟨n, rfl, p⟩ | ⟨s, rfl, p⟩ | ⟨b, rfl, p⟩ <;> rfl
theorem encL_cons {x : Lit} {l : List Lit} {m : Nat} (h : encL (x :: l) = m + 1) : ∃ a b, encT x = a + 1 ∧ encL l = b + 1 ∧ m = prN a b + 1 := by
  replace h : (Nat.rec 0 (fun a _ => Nat.rec 0 (fun b _ => Nat.succ (Nat.succ (prN a b))) (encL l)) (encT x) : Nat) = m + 1 := h
  cases e1 : encT x with
  | zero => rw [e1] at h; cases h
  | succ a =>
    rw [e1] at h
    replace h : (Nat.rec 0 (fun b _ => Nat.succ (Nat.succ (prN a b))) (encL l) : Nat) = m + 1 := h
    cases e2 : encL l with
    | zero => rw [e2] at h; cases h
    | succ b =>
      rw [e2] at h
      exact ⟨a, b, rfl, rfl, (Nat.succ.inj h).symm⟩
theorem encL_inj : ∀ {a b : List Lit} {m : Nat}, encL a = m + 1 → encL b = m + 1 → a = b
  | [], [], _, _, _ => rfl
  | [], y :: b, m, h1, h2 => by
    obtain ⟨_, _, _, _, h⟩ := encL_cons h2
    have h1 : 1 = m + 1 := h1
    omega
  | x :: a, [], m, h1, h2 => by
    obtain ⟨_, _, _, _, h⟩ := encL_cons h1
    have h2 : 1 = m + 1 := h2
    omega
  | x :: a, y :: b, m, h1, h2 => by
    obtain ⟨u, v, q1, q2, q3⟩ := encL_cons h1
    obtain ⟨u', v', p1, p2, p3⟩ := encL_cons h2
    obtain ⟨e1, e2⟩ := prN_inj (a := u) (b := v) (c := u') (d := v') (by omega)
    subst e1 e2
    rw [encT_inj q1 p1, encL_inj q2 p2]
theorem encL_k : ∀ {l : List Lit} {m : Nat}, encL l = m + 1 → l.all litK = true
  | [], _, _ => rfl
  | x :: l, m, h => by
    obtain ⟨u, v, q1, q2, q3⟩ := encL_cons h
    rw [List.all_cons, encT_k q1, encL_k q2]; rfl
noncomputable def encO (o : Option (List Lit)) : Nat := match o with | some l => encL l | none => 0
noncomputable def keyS (P : Program) (kt : TypeId) (x : AV) : Nat := encO (klA P kt x)
theorem keyS_ok {P : Program} {kt : TypeId} {x : AV} {m : Nat} (h : keyS P kt x = m + 1) : ∃ l, klA P kt x = some l ∧ encL l = m + 1 := by
  unfold keyS encO at h
  split at h
  · rename_i l e; exact ⟨l, e, h⟩
  · cases h
theorem lkC_lit {P : Program} {kt : TypeId} {n : Nat} {lk : List Lit} (hl : encL lk = n + 1) : ∀ {es : List (AV × AV)} {i : Nat} {r : Option (Nat × AV)}, lkC (keyS P kt) n es i = some r → lkE P kt lk es i = some r
  | [], i, r, h => h
  | p :: es, i, r, h => by
    obtain ⟨m, h1, h2⟩ := lkC_cons h
    obtain ⟨l, h3, h4⟩ := keyS_ok h1
    rw [lkE, h3]
    have hk := litsEq_iff (a := lk) (b := l) (encL_k hl)
    rcases h2 with ⟨rfl, rfl⟩ | ⟨h2, h5⟩
    · have : litsEq lk l = true := hk.2 (encL_inj hl h4)
      simp only [this]; rfl
    · have : litsEq lk l = false := by
        cases e : litsEq lk l with
        | false => rfl
        | true =>
          have := hk.1 e
          subst this
          omega
      simp only [this]
      exact lkC_lit hl h5
noncomputable def seF (P : Program) (kt : TypeId) (q : Nat) (k : AV) (es : List (AV × AV)) : Option (Option (Nat × AV)) := match q with
  | 0 => (match k with | .vl v => (match v with | .string s => lkT s.data.toList es 0 | _ => none) | _ => none)
  | 1 => (match k with | .vl v => (match v with | .int k' n => Nat.rec (lkI k' n es 0) (fun m _ => lkC keyN m es 0) (keyN k) | _ => none) | _ => none)
  | _ => (match klA P kt k with | some lk => Nat.rec (lkE P kt lk es 0) (fun m _ => lkC (keyS P kt) m es 0) (keyS P kt k) | none => none)
noncomputable def seK (P : Program) (kt : TypeId) (k : AV) (es : List (AV × AV)) : Option (Option (Nat × AV)) := seF P kt (kyT P kt) k es
theorem find_str {s : ByteArray} {g : Gh} : ∀ {es : List (AV × AV)} {i j : Nat} {r : Option (Nat × AV)} {l : List MapEntry}, lkT s.data.toList es i = some r → Ve es j g l → ∃ r', Instr.findNow .string (.string s) l i = some r' ∧ FindR g r r'
  | [], i, j, r, l, h, q => by
    rw [Ve] at q
    subst q
    obtain rfl := Option.some.inj h
    exact ⟨none, rfl, trivial⟩
  | p :: es, i, j, r, l, h, q => by
    rw [Ve] at q
    obtain ⟨e, l', rfl, _, q1, q2, q3⟩ := q
    replace h : (match p.1 with
      | .vl v => (match v with
        | .string t => bif bEq s.data.toList t.data.toList then some (some (i, p.2)) else lkT s.data.toList es (i + 1)
        | _ => none)
      | _ => none) = some r := h
    split at h
    · rename_i v e1
      split at h
      · rename_i t
        rw [e1, V] at q1
        have : (s == t) = bEq s.data.toList t.data.toList := by rw [bEq_beq, Bool.eq_iff_iff, MapKept.bytes_beq, beq_iff_eq]; exact ⟨fun h => by rw [h], fun h => by obtain ⟨⟨a⟩⟩ := s; obtain ⟨⟨b⟩⟩ := t; have h : a = b := h; rw [h]⟩
        rw [Instr.findNow, q1]
        simp only [Instr.sameNow, this]
        cases hq : bEq s.data.toList t.data.toList with
        | true =>
          rw [hq] at h
          obtain rfl := Option.some.inj h
          exact ⟨_, rfl, rfl, q2⟩
        | false =>
          rw [hq] at h
          exact find_str h q3
      · cases h
    · cases h
theorem find_int {k q0 : IntKind} {n : Int} {g : Gh} : ∀ {es : List (AV × AV)} {i j : Nat} {r : Option (Nat × AV)} {l : List MapEntry}, lkI k n es i = some r → Ve es j g l → ∃ r', Instr.findNow (.int q0) (.int k n) l i = some r' ∧ FindR g r r'
  | [], i, j, r, l, h, q => by
    rw [Ve] at q
    subst q
    obtain rfl := Option.some.inj h
    exact ⟨none, rfl, trivial⟩
  | p :: es, i, j, r, l, h, q => by
    rw [Ve] at q
    obtain ⟨e, l', rfl, _, q1, q2, q3⟩ := q
    replace h : (match p.1 with
      | .vl v => (match v with
        | .int k' m => if k = k' then (bif iBeq n m then some (some (i, p.2)) else lkI k n es (i + 1)) else none
        | _ => none)
      | _ => none) = some r := h
    split at h
    · rename_i v e1
      split at h
      · rename_i k' m
        rw [e1, V] at q1
        obtain ⟨hk, h⟩ := ite_some h
        rw [Instr.findNow, q1]
        simp only [Instr.sameNow, if_pos hk, ← iBeq_eq]
        cases hq : iBeq n m with
        | true =>
          rw [hq] at h
          obtain rfl := Option.some.inj h
          exact ⟨_, rfl, rfl, q2⟩
        | false =>
          rw [hq] at h
          exact find_int h q3
      · cases h
    · cases h
theorem seK_ok {P : Program} {kt : TypeId} {k : AV} {es : List (AV × AV)} {r : Option (Nat × AV)} (ht : P.keyTypeAt 20 kt = true) (h : seK P kt k es = some r) {g : Gh} {v : Value} (hv : V k g v) {l : List MapEntry} (q : Ve es 0 g l) (w : World) : (∀ em, (Instr.checkKey em 10000 kt v).run P w = .ok () w) ∧ ∃ r', (Instr.findKey kt v l).run P w = .ok r' w ∧ FindR g r r' := by
  unfold seK at h
  have k0 : kyT P kt = 0 → P.underlying kt = some .string := fun e => by
    unfold kyT at e
    split at e <;> first | assumption | cases e
  have k1 : kyT P kt = 1 → ∃ q, P.underlying kt = some (.int q) := fun e => by
    unfold kyT at e
    split at e <;> first | exact ⟨_, ‹_›⟩ | cases e
  generalize kyT P kt = n at *
  unfold seF at h
  split at h
  · have hs := k0 rfl
    split at h
    · split at h
      · rename_i s
        rw [V] at hv
        subst hv
        obtain ⟨r', e1, e2⟩ := find_str h q
        refine ⟨fun em => ?_, r', ?_, e2⟩
        · rw [show (10000 : Nat) = 9999 + 1 from rfl, Instr.checkKey]
          simp [run_underlying hs]
        · unfold Instr.findKey
          simp [run_underlying hs, e1]
      · cases h
    · cases h
  · obtain ⟨q0, hs⟩ := k1 rfl
    split at h
    · split at h
      · rename_i k n
        rw [V] at hv
        subst hv
        replace h : lkI k n es 0 = some r := by
          cases e : keyN (.vl (.int k n)) with
          | zero => rw [e] at h; exact h
          | succ m =>
            rw [e] at h
            have e2 := keyN_ok e
            simp only [AV.vl.injEq, Value.int.injEq] at e2
            obtain ⟨rfl, rfl⟩ := e2
            exact lkC_int h
        obtain ⟨r', e1, e2⟩ := find_int (q0 := q0) h q
        refine ⟨fun em => ?_, r', ?_, e2⟩
        · rw [show (10000 : Nat) = 9999 + 1 from rfl, Instr.checkKey]
          simp [run_underlying hs]
        · unfold Instr.findKey
          simp [run_underlying hs, e1]
      · cases h
    · cases h
  · split at h
    · rename_i lk hl
      have hko : KeyOk P kt v lk := klA_ok hl hv
      replace h : lkE P kt lk es 0 = some r := by
        cases e : keyS P kt k with
        | zero => rw [e] at h; exact h
        | succ m =>
          rw [e] at h
          obtain ⟨l, e1, e2⟩ := keyS_ok e
          rw [hl] at e1
          obtain rfl := Option.some.inj e1
          exact lkC_lit e2 h
      exact ⟨fun em => run_checkKey_deep (P := P) em 9980 20 kt ht w 20 v lk hko.1 hko.2, find_key ht hko h q w⟩
    · cases h
end Go.Proofs.YtlgdojkmbfbnjaaGreatDoor
