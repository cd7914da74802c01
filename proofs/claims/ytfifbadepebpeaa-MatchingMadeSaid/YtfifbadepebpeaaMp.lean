/- Maps whose keys are pairs. -/
import Derived.Test.YtfifbadepebpeaaBa
namespace Go.Proofs.Ytfifbadepebpeaa
open Go.RowKit

def keyV (p : Int × Int) : Value := .agg #[.int .i64 p.1, .int .i64 p.2]

/-- Block r is a map with the entries l, in their order. -/
def MapL (w : World) (r : Nat) (l : List ((Int × Int) × Value)) : Prop := ∃ es clock, w.heap[r]? = some (.map es clock) ∧ es.toList.map (fun e => (e.key, e.val)) = l.map fun q => (keyV q.1, q.2)

theorem MapL.keep {w w' : World} {r : Nat} {l : List ((Int × Int) × Value)} (m : MapL w r l) (h : w'.heap[r]? = w.heap[r]?) : MapL w' r l := by
  obtain ⟨es, c, h1, h2⟩ := m; exact ⟨es, c, by rw [h]; exact h1, h2⟩
theorem MapL.lt {w : World} {r : Nat} {l : List ((Int × Int) × Value)} (m : MapL w r l) : r < w.heap.size := by
  obtain ⟨es, c, h1, h2⟩ := m
  rcases Nat.lt_or_ge r w.heap.size with hl | hl
  · exact hl
  · rw [Array.getElem?_eq_none hl] at h1; cases h1

def findL (l : List ((Int × Int) × Value)) (p : Int × Int) : Option Value := (l.find? fun q => decide (q.1 = p)).map (·.2)
def setL : List ((Int × Int) × Value) → Int × Int → Value → List ((Int × Int) × Value)
  | [], p, v => [(p, v)]
  | q :: l, p, v => if q.1 = p then (p, v) :: l else q :: setL l p v

theorem findL_set (l : List ((Int × Int) × Value)) (p q : Int × Int) (v : Value) : findL (setL l p v) q = if q = p then some v else findL l q := by
  induction l with
  | nil =>
    by_cases h : q = p
    · subst h; simp [findL, setL]
    · have : p ≠ q := fun e => h e.symm
      simp [findL, setL, h, this]
  | cons a l ih =>
    unfold setL
    by_cases h1 : a.1 = p
    · rw [if_pos h1]
      by_cases h : q = p
      · subst h; simp [findL]
      · have h2 : p ≠ q := fun e => h e.symm
        have h3 : a.1 ≠ q := fun e => h (by rw [← e, h1])
        simp [findL, h, h2, h3]
    · rw [if_neg h1]
      by_cases h2 : a.1 = q
      · have : q ≠ p := fun e => h1 (by rw [h2, e])
        simp [findL, h2, this]
      · unfold findL at *
        rw [List.find?_cons_of_neg (by simpa using h2), ih]
        by_cases h : q = p
        · simp [h]
        · rw [if_neg h, if_neg h, List.find?_cons_of_neg (by simpa using h2)]

theorem run_equal_key (w : World) (p q : Int × Int) : (Op.equal 52 (keyV p) (keyV q)).run Try.prog w = .ok (decide (q = p)) w := by
  have h : (Op.equal 52 (keyV p) (keyV q)).run Try.prog w = .ok ((p.1 == q.1) && (p.2 == q.2)) w := run_equalIn_pair w p.1 p.2 q.1 q.2
  rw [h]
  have e : ((p.1 == q.1) && (p.2 == q.2)) = decide (q = p) := by
    rw [Bool.eq_iff_iff]
    simp only [Bool.and_eq_true, beq_iff_eq, decide_eq_true_eq, Prod.ext_iff]
    constructor <;> (rintro ⟨a, b⟩; exact ⟨a.symm, b.symm⟩)
  rw [e]

theorem run_findAsking (w : World) (p : Int × Int) : ∀ (es : List MapEntry) (l : List ((Int × Int) × Value)) (i : Nat), es.map (fun e => (e.key, e.val)) = l.map (fun q => (keyV q.1, q.2)) →
    (Instr.findAsking 52 (keyV p) es i).run Try.prog w = .ok (match l.findIdx? (fun q => decide (q.1 = p)) with | none => none | some k => some (i + k, (l.getD k default).2)) w
  | [], l, i, h => by
    cases l with
    | nil => simp [Instr.findAsking]
    | cons a l => simp at h
  | e :: es, l, i, h => by
    cases l with
    | nil => simp at h
    | cons a l =>
      simp only [List.map_cons, List.cons.injEq, Prod.mk.injEq] at h
      obtain ⟨⟨h1, h2⟩, h3⟩ := h
      rw [Instr.findAsking]
      simp only [Sem.run_bind, h1, run_equal_key, Result.andThen_ok]
      by_cases hp : a.1 = p
      · simp [hp, h2, List.findIdx?_cons]
      · rw [if_neg (by simpa using hp), run_findAsking w p es l (i + 1) h3]
        rw [List.findIdx?_cons]
        simp only [hp, decide_false, Bool.false_eq_true, if_false]
        cases l.findIdx? (fun q => decide (q.1 = p)) with
        | none => rfl
        | some k => simp; omega
theorem run_checkKey (w : World) (b : Bool) (p : Int × Int) : (Instr.checkKey b 10000 52 (keyV p)).run Try.prog w = .ok () w := by
  cases b <;> kernel_rfl

theorem run_findKey (w : World) (p : Int × Int) (es : List MapEntry) (l : List ((Int × Int) × Value)) (h : es.map (fun e => (e.key, e.val)) = l.map (fun q => (keyV q.1, q.2))) :
    (Instr.findKey 52 (keyV p) es).run Try.prog w = .ok (match l.findIdx? (fun q => decide (q.1 = p)) with | none => none | some k => some (k, (l.getD k default).2)) w := by
  unfold Instr.findKey
  simp only [Sem.run_bind, run_underlying Try.underlying52, Result.andThen_ok]
  cases es with
  | nil =>
    cases l with
    | nil => simp [Instr.findNow]
    | cons a l => simp at h
  | cons e es =>
    cases l with
    | nil => simp at h
    | cons a l =>
      have hk : e.key = keyV a.1 := by simp only [List.map_cons, List.cons.injEq, Prod.mk.injEq] at h; exact h.1.1
      have hn : Instr.findNow (.array 2 3) (keyV p) (e :: es) 0 = none := by
        simp [Instr.findNow, Instr.sameNow]
      simp only [hn]
      have := run_findAsking w p (e :: es) (a :: l) 0 h
      simpa using this

theorem findL_idx (l : List ((Int × Int) × Value)) (p : Int × Int) : findL l p = (l.findIdx? (fun q => decide (q.1 = p))).map fun k => (l.getD k default).2 := by
  induction l with
  | nil => rfl
  | cons a l ih =>
    unfold findL at *
    by_cases h : a.1 = p
    · simp [h, List.findIdx?_cons]
    · rw [List.find?_cons_of_neg (by simpa using h), ih, List.findIdx?_cons]
      simp only [h, decide_false, Bool.false_eq_true, if_false, Option.map_map]
      cases l.findIdx? (fun q => decide (q.1 = p)) <;> simp

/-- A look-up. -/
theorem MapL.look {w : World} {r : Nat} {l : List ((Int × Int) × Value)} (m : MapL w r l) (p : Int × Int) (T e : TypeId) (z : Value) (hT : Try.prog.underlying T = some (.map 52 e)) (hz : ∀ w, (zeroValue e).run Try.prog w = .ok z w) (W : World) (hW : W.heap[r]? = w.heap[r]?) :
    (Instr.lookup T (.map (some r)) (.agg #[.int .i64 p.1, .int .i64 p.2]) false).run Try.prog W = .ok ((findL l p).getD z) W := by
  obtain ⟨es, c, h1, h2⟩ := m
  rw [← hW] at h1
  change (Instr.lookup T (.map (some r)) (keyV p) false).run Try.prog W = _
  unfold Instr.lookup
  have hf := run_findKey W p es.toList l h2
  rw [findL_idx]
  cases hk : l.findIdx? (fun q => decide (q.1 = p)) with
  | none =>
    rw [hk] at hf
    simp [run_underlying hT, getObj, Sem.run, h1, run_checkKey, hf, hz]
  | some k =>
    rw [hk] at hf
    simp [run_underlying hT, getObj, Sem.run, h1, run_checkKey, hf]

def putMap (w : World) (r : Nat) (o : Obj) : World := { w with heap := w.heap.setIfInBounds r o }

theorem setL_none (l : List ((Int × Int) × Value)) (p : Int × Int) (v : Value) (h : l.findIdx? (fun q => decide (q.1 = p)) = none) : setL l p v = l ++ [(p, v)] := by
  induction l with
  | nil => rfl
  | cons a l ih =>
    rw [List.findIdx?_cons] at h
    by_cases h1 : a.1 = p
    · simp [h1] at h
    · simp only [h1, decide_false, Bool.false_eq_true, if_false, Option.map_eq_none_iff] at h
      rw [setL, if_neg h1, ih h]; rfl
theorem setL_some (l : List ((Int × Int) × Value)) (p : Int × Int) (v : Value) (k : Nat) (h : l.findIdx? (fun q => decide (q.1 = p)) = some k) : k < l.length ∧ setL l p v = l.set k (p, v) ∧ (l.getD k default).1 = p := by
  induction l generalizing k with
  | nil => simp at h
  | cons a l ih =>
    rw [List.findIdx?_cons] at h
    by_cases h1 : a.1 = p
    · simp only [h1, decide_true, if_true, Option.some.injEq] at h
      subst h
      exact ⟨by simp, by rw [setL, if_pos h1]; rfl, by simpa using h1⟩
    · simp only [h1, decide_false, Bool.false_eq_true, if_false, Option.map_eq_some_iff] at h
      obtain ⟨j, hj, rfl⟩ := h
      obtain ⟨i1, i2, i3⟩ := ih j hj
      exact ⟨by simp; omega, by rw [setL, if_neg h1, i2]; rfl, by simpa using i3⟩

theorem sameBits_key (p : Int × Int) : Instr.sameBits 10000 (keyV p) (keyV p) = true := by
  rw [show (10000 : Nat) = 9999 + 1 from rfl, keyV, Instr.sameBits]
  simp [Instr.sameBits]

/-- A store. -/
theorem MapL.put {w : World} {r : Nat} {l : List ((Int × Int) × Value)} (m : MapL w r l) (p : Int × Int) (v : Value) (T e : TypeId) (hT : Try.prog.underlying T = some (.map 52 e)) :
    ∃ o, (Instr.mapUpdate T (.map (some r)) (.agg #[.int .i64 p.1, .int .i64 p.2]) v).run Try.prog w = .ok () (putMap w r o) ∧ MapL (putMap w r o) r (setL l p v) := by
  have hlt := m.lt
  obtain ⟨es, c, h1, h2⟩ := m
  have hf := run_findKey w p es.toList l h2
  have hlen : es.toList.length = l.length := by have := congrArg List.length h2; simpa using this
  have hset : ∀ o, (putMap w r o).heap[r]? = some o := fun o => by simp [putMap, hlt]
  change ∃ o, (Instr.mapUpdate T (.map (some r)) (keyV p) v).run Try.prog w = _ ∧ _
  unfold Instr.mapUpdate
  cases hk : l.findIdx? (fun q => decide (q.1 = p)) with
  | none =>
    rw [hk] at hf
    refine ⟨.map (es.push { key := keyV p, val := v, born := c }) (c + 1), ?_, ?_⟩
    · simp [run_underlying hT, getObj, setObj, Sem.run, h1, run_checkKey, hf, putMap]
    · refine ⟨_, _, hset _, ?_⟩
      rw [setL_none l p v hk]
      simp [h2]
  | some k =>
    rw [hk] at hf
    obtain ⟨k1, k2, k3⟩ := setL_some l p v k hk
    have hkey : (es.toList.getD k default).key = keyV p := by
      have := congrArg (fun z => z[k]?) h2
      simp only [List.getElem?_map] at this
      rw [List.getElem?_eq_getElem (by omega), List.getElem?_eq_getElem k1] at this
      simp only [Option.map_some, Option.some.injEq, Prod.mk.injEq] at this
      rw [List.getD_eq_getElem?_getD, List.getElem?_eq_getElem (by omega)]
      simp only [Option.getD_some]
      rw [this.1]
      rw [List.getD_eq_getElem?_getD, List.getElem?_eq_getElem k1] at k3
      simp only [Option.getD_some] at k3
      rw [k3]
    have hks : k < es.size := by simpa using (by omega : k < es.toList.length)
    have hkey' : es[k].key = keyV p := by
      have := hkey
      simpa [List.getD_eq_getElem?_getD, hks] using this
    refine ⟨.map (es.modify k fun e => { e with key := keyV p, val := v }) c, ?_, ?_⟩
    · simp [run_underlying hT, getObj, setObj, Sem.run, h1, run_checkKey, hf, putMap, Instr.keyThatStays, hks, hkey', sameBits_key]
    · refine ⟨_, _, hset _, ?_⟩
      rw [k2, List.map_set, ← h2]
      apply List.ext_getElem?
      intro i
      by_cases hi : i = k
      · subst hi
        simp [hks]
      · have hi' : ¬ k = i := fun e => hi e.symm
        simp [hi']

theorem mapL_new (w : World) : MapL (w.alloc (.map #[] 0)) w.heap.size [] := ⟨#[], 0, heap_alloc_new w _, rfl⟩
theorem grown_put (w : World) (r : Nat) (o : Obj) : w.grownBy (putMap w r o) (some r) :=
  ⟨rfl, rfl, rfl, by simp [putMap], fun k hk hne => by
    have : r ≠ k := fun e => hne (by rw [e])
    simp [putMap, this]⟩

theorem MapL.put' {w : World} {r : Nat} {l : List ((Int × Int) × Value)} (m : MapL w r l) (p : Int × Int) (v : Value) (T e : TypeId) (hT : Try.prog.underlying T = some (.map 52 e)) :
    ∃ W, (Instr.mapUpdate T (.map (some r)) (.agg #[.int .i64 p.1, .int .i64 p.2]) v).run Try.prog w = .ok () W ∧ MapL W r (setL l p v) ∧ w.grownBy W (some r) := by
  obtain ⟨o, h1, h2⟩ := m.put p v T e hT
  exact ⟨_, h1, h2, grown_put _ _ _⟩
theorem _root_.Go.World.grownBy.cellOf {w w' : World} {row : Option Nat} (hg : w.grownBy w' row) {b i : Nat} (hb : b < w.heap.size) (hne : row ≠ some b) : w'.cell? ⟨b, i, none⟩ = w.cell? ⟨b, i, none⟩ ∧ w'.frozen? ⟨b, i, none⟩ = w.frozen? ⟨b, i, none⟩ :=
  ⟨World.cell?_of_block (a := ⟨b, i, none⟩) (hg.block b hb (fun e => hne e.symm)), World.frozen?_of_block (a := ⟨b, i, none⟩) (hg.block b hb (fun e => hne e.symm))⟩
end Go.Proofs.Ytfifbadepebpeaa
