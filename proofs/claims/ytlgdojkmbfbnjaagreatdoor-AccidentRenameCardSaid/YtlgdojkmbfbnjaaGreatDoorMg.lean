/- Maps with keys of any kind that is laid by a bundle: the map's object is known whole. -/
import Derived.Test.YtlgdojkmbfbnjaaGreatDoorMp
namespace Go.Proofs.YtlgdojkmbfbnjaaGreatDoor
open Go.RowKit

section
variable {K : Type}

/-- The entries of a map from which nothing was ever taken. -/
def mapEs (enc : K → Value) (l : List (K × Value)) : List MapEntry := l.mapIdx fun i q => { key := enc q.1, val := q.2, born := i }
def mapObj (enc : K → Value) (l : List (K × Value)) : Obj := .map (mapEs enc l).toArray l.length

theorem mapEs_kv (enc : K → Value) (l : List (K × Value)) : (mapEs enc l).map (fun e => (e.key, e.val)) = l.map fun q => (enc q.1, q.2) := by
  apply List.ext_getElem?
  intro i
  simp only [mapEs, List.getElem?_map, List.getElem?_mapIdx, Option.map_map]
  cases l[i]? <;> rfl
theorem mapEs_length (enc : K → Value) (l : List (K × Value)) : (mapEs enc l).length = l.length := by simp [mapEs]

/-- Block r is this map. -/
def MapG (enc : K → Value) (w : World) (r : Nat) (l : List (K × Value)) : Prop := w.heap[r]? = some (mapObj enc l)
theorem MapG.lt {enc : K → Value} {w : World} {r : Nat} {l : List (K × Value)} (m : MapG enc w r l) : r < w.heap.size := by
  rcases Nat.lt_or_ge r w.heap.size with hl | hl
  · exact hl
  · unfold MapG at m; rw [Array.getElem?_eq_none hl] at m; cases m
theorem MapG.keep {enc : K → Value} {w w' : World} {r : Nat} {l : List (K × Value)} (m : MapG enc w r l) (h : w'.heap[r]? = w.heap[r]?) : MapG enc w' r l := by
  unfold MapG; rw [h]; exact m
theorem MapG.new (enc : K → Value) (w : World) : MapG enc (w.alloc (.map #[] 0)) w.heap.size [] := heap_alloc_new w _

theorem MapG.len {enc : K → Value} {w : World} {r : Nat} {l : List (K × Value)} (m : MapG enc w r l) : ∃ es c, w.heap[r]? = some (.map es c) ∧ es.size = l.length := ⟨_, _, m, by simp [mapEs_length]⟩
variable [DecidableEq K]
/-- Where a key stands. -/
def posK {α : Type} (l : List (K × α)) (p : K) : Option Nat := l.findIdx? fun q => decide (q.1 = p)
def getG {α : Type} (l : List (K × α)) (p : K) : Option α := (posK l p).bind fun k => (l[k]?).map (·.2)
def setG {α : Type} (l : List (K × α)) (p : K) (v : α) : List (K × α) := match posK l p with
  | some k => l.set k (p, v)
  | none => l ++ [(p, v)]

/-- What is known of a kind of keys. -/
structure KeyB (kt : TypeId) (enc : K → Value) : Prop where
  check : ∀ (b : Bool) (w : World) (p : K), (Instr.checkKey b 10000 kt (enc p)).run Tryz.prog w = .ok () w
  find : ∀ (w : World) (p : K) (es : List MapEntry) (l : List (K × Value)), es.map (fun e => (e.key, e.val)) = l.map (fun q => (enc q.1, q.2)) →
    (Instr.findKey kt (enc p) es).run Tryz.prog w = .ok ((posK l p).bind fun k => (l[k]?).map fun q => (k, q.2)) w
  bits : ∀ p : K, Instr.sameBits 10000 (enc p) (enc p) = true

theorem posK_lt {α : Type} {l : List (K × α)} {p : K} {k : Nat} (h : posK l p = some k) : k < l.length := by
  unfold posK at h
  rw [List.findIdx?_eq_some_iff_getElem] at h
  exact h.1
theorem posK_key {α : Type} {l : List (K × α)} {p : K} {k : Nat} (h : posK l p = some k) (hk : k < l.length) : (l[k]).1 = p := by
  unfold posK at h
  rw [List.findIdx?_eq_some_iff_getElem] at h
  simpa using h.2.1

/-- A look-up. -/
theorem MapG.look {kt : TypeId} {enc : K → Value} (KB : KeyB kt enc) {w : World} {r : Nat} {l : List (K × Value)} (m : MapG enc w r l) (p : K) (T e : TypeId) (z : Value) (hT : Tryz.prog.underlying T = some (.map kt e)) (hz : ∀ w, (zeroValue e).run Tryz.prog w = .ok z w) :
    (Instr.lookup T (.map (some r)) (enc p) false).run Tryz.prog w = .ok ((getG l p).getD z) w ∧
    (Instr.lookup T (.map (some r)) (enc p) true).run Tryz.prog w = .ok (.tuple #[(getG l p).getD z, .bool (getG l p).isSome]) w := by
  unfold MapG at m
  have hf := KB.find w p (mapEs enc l) l (mapEs_kv enc l)
  unfold Instr.lookup getG
  have hc : ∀ b, (Instr.checkKey b 10000 kt (enc p)).run Tryz.prog w = .ok () w := fun b => KB.check b w p
  cases hk : posK l p with
  | none =>
    rw [hk] at hf
    simp only [Option.bind_none] at hf
    constructor <;> simp [run_underlying hT, getObj, Sem.run, m, mapObj, hc, hf, hz]
  | some k =>
    have hlt := posK_lt hk
    rw [hk] at hf
    simp only [Option.bind_some, List.getElem?_eq_getElem hlt, Option.map_some] at hf
    constructor <;> simp [run_underlying hT, getObj, Sem.run, m, mapObj, hc, hf, hlt]

/-- A store. -/
theorem MapG.put {kt : TypeId} {enc : K → Value} (KB : KeyB kt enc) {w : World} {r : Nat} {l : List (K × Value)} (m : MapG enc w r l) (p : K) (v : Value) (T e : TypeId) (hT : Tryz.prog.underlying T = some (.map kt e)) :
    (Instr.mapUpdate T (.map (some r)) (enc p) v).run Tryz.prog w = .ok () (putMap w r (mapObj enc (setG l p v))) ∧ MapG enc (putMap w r (mapObj enc (setG l p v))) r (setG l p v) ∧ w.grownBy (putMap w r (mapObj enc (setG l p v))) (some r) := by
  have hlt := m.lt
  unfold MapG at m
  have hf := KB.find w p (mapEs enc l) l (mapEs_kv enc l)
  have hc : ∀ b, (Instr.checkKey b 10000 kt (enc p)).run Tryz.prog w = .ok () w := fun b => KB.check b w p
  have hm : MapG enc (putMap w r (mapObj enc (setG l p v))) r (setG l p v) := by unfold MapG; simp [putMap, hlt]
  refine ⟨?_, hm, grown_put _ _ _⟩
  unfold Instr.mapUpdate
  cases hk : posK l p with
  | none =>
    rw [hk] at hf
    simp only [Option.bind_none] at hf
    have e1 : setG l p v = l ++ [(p, v)] := by unfold setG; rw [hk]
    have e2 : mapObj enc (l ++ [(p, v)]) = .map ((mapEs enc l).toArray.push { key := enc p, val := v, born := l.length }) (l.length + 1) := by
      unfold mapObj mapEs
      rw [List.mapIdx_append]
      simp
    rw [e1, e2]
    simp [run_underlying hT, getObj, setObj, Sem.run, m, mapObj, hc, hf, putMap]
  | some k =>
    have hkl := posK_lt hk
    have hkk := posK_key hk hkl
    rw [hk] at hf
    simp only [Option.bind_some, List.getElem?_eq_getElem hkl, Option.map_some] at hf
    have e1 : setG l p v = l.set k (p, v) := by unfold setG; rw [hk]
    have hkey : ((mapEs enc l).toArray[k]?).map (·.key) = some (enc p) := by
      simp [mapEs, List.getElem?_eq_getElem hkl, hkk]
    have e2 : mapObj enc (l.set k (p, v)) = .map ((mapEs enc l).toArray.modify k fun e => { e with key := enc p, val := v }) l.length := by
      unfold mapObj
      rw [List.length_set]
      rw [show (mapEs enc (l.set k (p, v))).toArray = (mapEs enc l).toArray.modify k fun e => { e with key := enc p, val := v } from ?_]
      apply Array.ext'
      apply List.ext_getElem?
      intro i
      simp only [mapEs, List.getElem?_mapIdx, List.getElem?_set, Array.toList_modify, List.getElem?_modify]
      by_cases hi : k = i
      · subst hi; simp [hkl]
      · simp [hi]
    rw [e1, e2]
    have hkey' : ∀ d, (((mapEs enc l)[k]?).map (·.key)).getD d = enc p := fun d => by
      have := hkey
      simp only [List.getElem?_toArray] at this
      rw [this]; rfl
    simp [run_underlying hT, getObj, setObj, Sem.run, m, mapObj, hc, hf, putMap, Instr.keyThatStays, hkey', KB.bits]
end

theorem bytes_beq (a b : ByteArray) : (a == b) = decide (a = b) := by
  obtain ⟨a⟩ := a; obtain ⟨b⟩ := b
  show (a == b) = _
  by_cases h : a = b
  · subst h; simp
  · have : ¬ (ByteArray.mk a = ByteArray.mk b) := fun e => h (by injection e)
    simp [h, this]

/-- Keys that are texts. -/
theorem run_find_string {kt : TypeId} (hu : Tryz.prog.underlying kt = some .string) : KeyB kt (fun s : ByteArray => Value.string s) where
  check b w p := by
    unfold Instr.checkKey
    simp [run_underlying hu]
  bits p := by simp [Instr.sameBits, bytes_beq]
  find w p es l h := by
    unfold Instr.findKey
    simp only [Sem.run_bind, run_underlying hu, Result.andThen_ok]
    have : ∀ (es : List MapEntry) (l : List (ByteArray × Value)) (i : Nat), es.map (fun e => (e.key, e.val)) = l.map (fun q => (Value.string q.1, q.2)) →
        Instr.findNow .string (.string p) es i = some ((posK l p).bind fun k => (l[k]?).map fun q => (i + k, q.2)) := by
      intro es
      induction es with
      | nil =>
        intro l i h
        cases l with
        | nil => rfl
        | cons a l => simp at h
      | cons e es ih =>
        intro l i h
        cases l with
        | nil => simp at h
        | cons a l =>
          simp only [List.map_cons, List.cons.injEq, Prod.mk.injEq] at h
          obtain ⟨⟨h1, h2⟩, h3⟩ := h
          unfold Instr.findNow
          rw [h1]
          unfold posK
          rw [List.findIdx?_cons]
          by_cases hp : a.1 = p
          · simp [Instr.sameNow, hp, h2, bytes_beq]
          · have hp' : ¬ p = a.1 := fun e => hp e.symm
            simp only [Instr.sameNow, bytes_beq, hp', hp, decide_false, Bool.false_eq_true, if_false]
            rw [ih l (i + 1) h3]
            unfold posK
            cases l.findIdx? (fun q => decide (q.1 = p)) with
            | none => rfl
            | some k => simp [Nat.add_assoc, Nat.add_comm 1 k]
    rw [this es l 0 h]
    simp
/-- Keys that are compared by '=='. -/
theorem keyB_asking {K : Type} [DecidableEq K] {kt : TypeId} {enc : K → Value} {U : TypeDesc} (hu : Tryz.prog.underlying kt = some U) (hU : ∀ a b : K, Instr.sameNow U (enc a) (enc b) = none)
    (heq : ∀ (w : World) (p q : K), (Op.equal kt (enc p) (enc q)).run Tryz.prog w = .ok (decide (q = p)) w)
    (check : ∀ (b : Bool) (w : World) (p : K), (Instr.checkKey b 10000 kt (enc p)).run Tryz.prog w = .ok () w) (bits : ∀ p : K, Instr.sameBits 10000 (enc p) (enc p) = true) : KeyB kt enc where
  check := check
  bits := bits
  find w p es l h := by
    unfold Instr.findKey
    simp only [Sem.run_bind, run_underlying hu, Result.andThen_ok]
    have asking : ∀ (es : List MapEntry) (l : List (K × Value)) (i : Nat), es.map (fun e => (e.key, e.val)) = l.map (fun q => (enc q.1, q.2)) →
        (Instr.findAsking kt (enc p) es i).run Tryz.prog w = .ok ((posK l p).bind fun k => (l[k]?).map fun q => (i + k, q.2)) w := by
      intro es
      induction es with
      | nil =>
        intro l i h
        cases l with
        | nil => simp [Instr.findAsking, posK]
        | cons a l => simp at h
      | cons e es ih =>
        intro l i h
        cases l with
        | nil => simp at h
        | cons a l =>
          simp only [List.map_cons, List.cons.injEq, Prod.mk.injEq] at h
          obtain ⟨⟨h1, h2⟩, h3⟩ := h
          rw [Instr.findAsking]
          unfold posK
          rw [List.findIdx?_cons]
          simp only [Sem.run_bind, h1, heq, Result.andThen_ok]
          by_cases hp : a.1 = p
          · simp [hp, h2]
          · simp only [hp, decide_false, Bool.false_eq_true, if_false]
            rw [ih l (i + 1) h3]
            unfold posK
            cases l.findIdx? (fun q => decide (q.1 = p)) with
            | none => rfl
            | some k => simp [Nat.add_assoc, Nat.add_comm 1 k]
    cases es with
    | nil =>
      cases l with
      | nil => simp [Instr.findNow, posK]
      | cons a l => simp at h
    | cons e es =>
      cases l with
      | nil => simp at h
      | cons a l =>
        have hk : e.key = enc a.1 := by simp only [List.map_cons, List.cons.injEq, Prod.mk.injEq] at h; exact h.1.1
        have hn : Instr.findNow U (enc p) (e :: es) 0 = none := by
          unfold Instr.findNow
          rw [hk, hU]
        simp only [hn]
        have := asking (e :: es) (a :: l) 0 h
        simpa using this
end Go.Proofs.YtlgdojkmbfbnjaaGreatDoor
