/- Maps whose keys are pairs. -/
import Derived.Test.YtfifbadepebpeaaBa
import Derived.Test.YtfifbadepebpeaaWe
import Derived.Deep.AppendLies
namespace Go.Proofs.Ytfifbadepebpeaa
open Go.RowKit

def keyV (p : Int × Int) : Value := .agg #[.int .i64 p.1, .int .i64 p.2]

def MapL (w : World) (r : Nat) (l : List ((Int × Int) × Value)) : Prop := ∃ es clock, w.heap[r]? = some (.map es clock) ∧ es.toList.map (fun e => (e.key, e.val)) = l.map fun q => (keyV q.1, q.2)

theorem MapL.keep {w w' : World} {r : Nat} {l : List ((Int × Int) × Value)} (m : MapL w r l) (h : w'.heap[r]? = w.heap[r]?) : MapL w' r l := by
  obtain ⟨es, c, h1, h2⟩ := m; exact ⟨es, c, by rw [h]; exact h1, h2⟩
theorem MapL.lt {w : World} {r : Nat} {l : List ((Int × Int) × Value)} (m : MapL w r l) : r < w.heap.size := by
  obtain ⟨es, c, h1, h2⟩ := m
  rcases Nat.lt_or_ge r w.heap.size with hl | hl
  · exact hl
  · rw [Array.getElem?_eq_none hl] at h1; cases h1

def findL (l : List ((Int × Int) × Value)) (p : Int × Int) : Option Value := (l.find? fun q => decide (q.1 = p)).map (·.2)
def setL : List ((Int × Int) × Value) → Int × Int → Value → List ((Int × Int) × Value)
  | [], p, v => [(p, v)]
  | q :: l, p, v => if q.1 = p then (p, v) :: l else q :: setL l p v

theorem findL_set (l : List ((Int × Int) × Value)) (p q : Int × Int) (v : Value) : findL (setL l p v) q = if q = p then some v else findL l q := by
  induction l with
  | nil =>
    by_cases h : q = p
    · subst h; simp [findL, setL]
    · have : p ≠ q := fun e => h e.symm
      simp [findL, setL, h, this]
  | cons a l ih =>
    unfold setL
    by_cases h1 : a.1 = p
    · rw [if_pos h1]
      by_cases h : q = p
      · subst h; simp [findL]
      · have h2 : p ≠ q := fun e => h e.symm
        have h3 : a.1 ≠ q := fun e => h (by rw [← e, h1])
        simp [findL, h, h2, h3]
    · rw [if_neg h1]
      by_cases h2 : a.1 = q
      · have : q ≠ p := fun e => h1 (by rw [h2, e])
        simp [findL, h2, this]
      · unfold findL at *
        rw [List.find?_cons_of_neg (by simpa using h2), ih]
        by_cases h : q = p
        · simp [h]
        · rw [if_neg h, if_neg h, List.find?_cons_of_neg (by simpa using h2)]

theorem run_equal_key (w : World) (p q : Int × Int) : (Op.equal 52 (keyV p) (keyV q)).run Try.prog w = .ok (decide (q = p)) w := by
  have h : (Op.equal 52 (keyV p) (keyV q)).run Try.prog w = .ok ((p.1 == q.1) && (p.2 == q.2)) w := run_equalIn_pair w p.1 p.2 q.1 q.2
  rw [h]
  have e : ((p.1 == q.1) && (p.2 == q.2)) = decide (q = p) := by
    rw [Bool.eq_iff_iff]
    simp only [Bool.and_eq_true, beq_iff_eq, decide_eq_true_eq, Prod.ext_iff]
    constructor <;> (rintro ⟨a, b⟩; exact ⟨a.symm, b.symm⟩)
  rw [e]

theorem run_findAsking (w : World) (p : Int × Int) : ∀ (es : List MapEntry) (l : List ((Int × Int) × Value)) (i : Nat), es.map (fun e => (e.key, e.val)) = l.map (fun q => (keyV q.1, q.2)) →
    (Instr.findAsking 52 (keyV p) es i).run Try.prog w = .ok (match l.findIdx? (fun q => decide (q.1 = p)) with | none => none | some k => some (i + k, (l.getD k default).2)) w
  | [], l, i, h => by
    cases l with
    | nil => simp [Instr.findAsking]
    | cons a l => simp at h
  | e :: es, l, i, h => by
    cases l with
    | nil => simp at h
    | cons a l =>
      simp only [List.map_cons, List.cons.injEq, Prod.mk.injEq] at h
      obtain ⟨⟨h1, h2⟩, h3⟩ := h
      rw [Instr.findAsking]
      simp only [Sem.run_bind, h1, run_equal_key, Result.andThen_ok]
      by_cases hp : a.1 = p
      · simp [hp, h2, List.findIdx?_cons]
      · rw [if_neg (by simpa using hp), run_findAsking w p es l (i + 1) h3]
        rw [List.findIdx?_cons]
        simp only [hp, decide_false, Bool.false_eq_true, if_false]
        cases l.findIdx? (fun q => decide (q.1 = p)) with
        | none => rfl
        | some k => simp; omega
theorem run_checkKey (w : World) (b : Bool) (p : Int × Int) : (Instr.checkKey b 10000 52 (keyV p)).run Try.prog w = .ok () w := by
  cases b <;> kernel_rfl

theorem run_findKey (w : World) (p : Int × Int) (es : List MapEntry) (l : List ((Int × Int) × Value)) (h : es.map (fun e => (e.key, e.val)) = l.map (fun q => (keyV q.1, q.2))) :
    (Instr.findKey 52 (keyV p) es).run Try.prog w = .ok (match l.findIdx? (fun q => decide (q.1 = p)) with | none => none | some k => some (k, (l.getD k default).2)) w := by
  unfold Instr.findKey
  simp only [Sem.run_bind, run_underlying Try.underlying52, Result.andThen_ok]
  cases es with
  | nil =>
    cases l with
    | nil => simp [Instr.findNow]
    | cons a l => simp at h
  | cons e es =>
    cases l with
    | nil => simp at h
    | cons a l =>
      have hk : e.key = keyV a.1 := by simp only [List.map_cons, List.cons.injEq, Prod.mk.injEq] at h; exact h.1.1
      have hn : Instr.findNow (.array 2 3) (keyV p) (e :: es) 0 = none := by
        simp [Instr.findNow, Instr.sameNow]
      simp only [hn]
      have := run_findAsking w p (e :: es) (a :: l) 0 h
      simpa using this

theorem findL_idx (l : List ((Int × Int) × Value)) (p : Int × Int) : findL l p = (l.findIdx? (fun q => decide (q.1 = p))).map fun k => (l.getD k default).2 := by
  induction l with
  | nil => rfl
  | cons a l ih =>
    unfold findL at *
    by_cases h : a.1 = p
    · simp [h, List.findIdx?_cons]
    · rw [List.find?_cons_of_neg (by simpa using h), ih, List.findIdx?_cons]
      simp only [h, decide_false, Bool.false_eq_true, if_false, Option.map_map]
      cases l.findIdx? (fun q => decide (q.1 = p)) <;> simp

theorem MapL.look {w : World} {r : Nat} {l : List ((Int × Int) × Value)} (m : MapL w r l) (p : Int × Int) (T e : TypeId) (z : Value) (hT : Try.prog.underlying T = some (.map 52 e)) (hz : ∀ w, (zeroValue e).run Try.prog w = .ok z w) (W : World) (hW : W.heap[r]? = w.heap[r]?) :
    (Instr.lookup T (.map (some r)) (.agg #[.int .i64 p.1, .int .i64 p.2]) false).run Try.prog W = .ok ((findL l p).getD z) W := by
  obtain ⟨es, c, h1, h2⟩ := m
  rw [← hW] at h1
  change (Instr.lookup T (.map (some r)) (keyV p) false).run Try.prog W = _
  unfold Instr.lookup
  have hf := run_findKey W p es.toList l h2
  rw [findL_idx]
  cases hk : l.findIdx? (fun q => decide (q.1 = p)) with
  | none =>
    rw [hk] at hf
    simp [run_underlying hT, getObj, Sem.run, h1, run_checkKey, hf, hz]
  | some k =>
    rw [hk] at hf
    simp [run_underlying hT, getObj, Sem.run, h1, run_checkKey, hf]

def putMap (w : World) (r : Nat) (o : Obj) : World := { w with heap := w.heap.setIfInBounds r o }

theorem setL_none (l : List ((Int × Int) × Value)) (p : Int × Int) (v : Value) (h : l.findIdx? (fun q => decide (q.1 = p)) = none) : setL l p v = l ++ [(p, v)] := by
  induction l with
  | nil => rfl
  | cons a l ih =>
    rw [List.findIdx?_cons] at h
    by_cases h1 : a.1 = p
    · simp [h1] at h
    · simp only [h1, decide_false, Bool.false_eq_true, if_false, Option.map_eq_none_iff] at h
      rw [setL, if_neg h1, ih h]; rfl
theorem setL_some (l : List ((Int × Int) × Value)) (p : Int × Int) (v : Value) (k : Nat) (h : l.findIdx? (fun q => decide (q.1 = p)) = some k) : k < l.length ∧ setL l p v = l.set k (p, v) ∧ (l.getD k default).1 = p := by
  induction l generalizing k with
  | nil => simp at h
  | cons a l ih =>
    rw [List.findIdx?_cons] at h
    by_cases h1 : a.1 = p
    · simp only [h1, decide_true, if_true, Option.some.injEq] at h
      subst h
      exact ⟨by simp, by rw [setL, if_pos h1]; rfl, by simpa using h1⟩
    · simp only [h1, decide_false, Bool.false_eq_true, if_false, Option.map_eq_some_iff] at h
      obtain ⟨j, hj, rfl⟩ := h
      obtain ⟨i1, i2, i3⟩ := ih j hj
      exact ⟨by simp; omega, by rw [setL, if_neg h1, i2]; rfl, by simpa using i3⟩

theorem sameBits_key (p : Int × Int) : Instr.sameBits 10000 (keyV p) (keyV p) = true := by
  rw [show (10000 : Nat) = 9999 + 1 from rfl, keyV, Instr.sameBits]
  simp [Instr.sameBits]

theorem MapL.put {w : World} {r : Nat} {l : List ((Int × Int) × Value)} (m : MapL w r l) (p : Int × Int) (v : Value) (T e : TypeId) (hT : Try.prog.underlying T = some (.map 52 e)) :
    ∃ o, (Instr.mapUpdate T (.map (some r)) (.agg #[.int .i64 p.1, .int .i64 p.2]) v).run Try.prog w = .ok () (putMap w r o) ∧ MapL (putMap w r o) r (setL l p v) := by
  have hlt := m.lt
  obtain ⟨es, c, h1, h2⟩ := m
  have hf := run_findKey w p es.toList l h2
  have hlen : es.toList.length = l.length := by have := congrArg List.length h2; simpa using this
  have hset : ∀ o, (putMap w r o).heap[r]? = some o := fun o => by simp [putMap, hlt]
  change ∃ o, (Instr.mapUpdate T (.map (some r)) (keyV p) v).run Try.prog w = _ ∧ _
  unfold Instr.mapUpdate
  cases hk : l.findIdx? (fun q => decide (q.1 = p)) with
  | none =>
    rw [hk] at hf
    refine ⟨.map (es.push { key := keyV p, val := v, born := c }) (c + 1), ?_, ?_⟩
    · simp [run_underlying hT, getObj, setObj, Sem.run, h1, run_checkKey, hf, putMap]
    · refine ⟨_, _, hset _, ?_⟩
      rw [setL_none l p v hk]
      simp [h2]
  | some k =>
    rw [hk] at hf
    obtain ⟨k1, k2, k3⟩ := setL_some l p v k hk
    have hkey : (es.toList.getD k default).key = keyV p := by
      have := congrArg (fun z => z[k]?) h2
      simp only [List.getElem?_map] at this
      rw [List.getElem?_eq_getElem (by omega), List.getElem?_eq_getElem k1] at this
      simp only [Option.map_some, Option.some.injEq, Prod.mk.injEq] at this
      rw [List.getD_eq_getElem?_getD, List.getElem?_eq_getElem (by omega)]
      simp only [Option.getD_some]
      rw [this.1]
      rw [List.getD_eq_getElem?_getD, List.getElem?_eq_getElem k1] at k3
      simp only [Option.getD_some] at k3
      rw [k3]
    have hks : k < es.size := by simpa using (by omega : k < es.toList.length)
    have hkey' : es[k].key = keyV p := by
      have := hkey
      simpa [List.getD_eq_getElem?_getD, hks] using this
    refine ⟨.map (es.modify k fun e => { e with key := keyV p, val := v }) c, ?_, ?_⟩
    · simp [run_underlying hT, getObj, setObj, Sem.run, h1, run_checkKey, hf, putMap, Instr.keyThatStays, hks, hkey', sameBits_key]
    · refine ⟨_, _, hset _, ?_⟩
      rw [k2, List.map_set, ← h2]
      apply List.ext_getElem?
      intro i
      by_cases hi : i = k
      · subst hi
        simp [hks]
      · have hi' : ¬ k = i := fun e => hi e.symm
        simp [hi']

theorem mapL_new (w : World) : MapL (w.alloc (.map #[] 0)) w.heap.size [] := ⟨#[], 0, heap_alloc_new w _, rfl⟩
theorem grown_put (w : World) (r : Nat) (o : Obj) : w.grownBy (putMap w r o) (some r) :=
  ⟨rfl, rfl, rfl, by simp [putMap], fun k hk hne => by
    have : r ≠ k := fun e => hne (by rw [e])
    simp [putMap, this]⟩

theorem MapL.put' {w : World} {r : Nat} {l : List ((Int × Int) × Value)} (m : MapL w r l) (p : Int × Int) (v : Value) (T e : TypeId) (hT : Try.prog.underlying T = some (.map 52 e)) :
    ∃ W, (Instr.mapUpdate T (.map (some r)) (.agg #[.int .i64 p.1, .int .i64 p.2]) v).run Try.prog w = .ok () W ∧ MapL W r (setL l p v) ∧ w.grownBy W (some r) := by
  obtain ⟨o, h1, h2⟩ := m.put p v T e hT
  exact ⟨_, h1, h2, grown_put _ _ _⟩
theorem _root_.Go.World.grownBy.cellOf {w w' : World} {row : Option Nat} (hg : w.grownBy w' row) {b i : Nat} (hb : b < w.heap.size) (hne : row ≠ some b) : w'.cell? ⟨b, i, none⟩ = w.cell? ⟨b, i, none⟩ ∧ w'.frozen? ⟨b, i, none⟩ = w.frozen? ⟨b, i, none⟩ :=
  ⟨World.cell?_of_block (a := ⟨b, i, none⟩) (hg.block b hb (fun e => hne e.symm)), World.frozen?_of_block (a := ⟨b, i, none⟩) (hg.block b hb (fun e => hne e.symm))⟩
end Go.Proofs.Ytfifbadepebpeaa

/- matching.table. -/
namespace Go.Proofs.Ytfifbadepebpeaa
open Go.RowKit

def dropP (x : List NodeP) (i : Int) : List Int := (nd x i).kids.map fun c => (nd x c).size
def costP (x y : List NodeP) (p : Int × Int) (dm : Int × Int → Int) : List (List Int) :=
  (nd x p.1).kids.map fun c => (nd y p.2).kids.map fun k => if (nd x c).kind = (nd y k).kind then dm (c, k) else -1

def InOw (w : World) (h : Hp) (B : Nat) (v : Value) (l : List Int) : Prop := Ow w h B 3 1 v l.length (l.map (Value.int .i64))
theorem InOw.snoc {w : World} {h : Hp} {B : Nat} {v : Value} {l : List Int} {z : Int} (o : Ow w h B 3 1 v (l.length + 1) (l.map (Value.int .i64) ++ [.int .i64 z])) : InOw w h B v (l ++ [z]) := by
  unfold InOw
  rw [List.map_append, List.length_append]
  exact o
theorem map_take_snoc {α β : Type} (f : α → β) (l : List α) (j : Nat) (h : j < l.length) : (l.take (j + 1)).map f = (l.take j).map f ++ [f l[j]] := by
  rw [List.take_add_one, List.getElem?_eq_getElem h, List.map_append]; rfl

structure Phase (h : Hp) (w : World) (h' : Hp) (w' : World) (v : Value) (l : List Int) : Prop where
  st : St w.heap.size h w h' w'
  ints : Ints h' v l
theorem Phase.mk' {h : Hp} {w w' : World} {v : Value} {l : List Int} (S : St w.heap.size h w h w') (O : InOw w' h w.heap.size v l) (hl : l.length ≤ 140737488355328) (hr : ∀ q ∈ l, I64 q) : Phase h w (h.fr w.heap.size w') w' v l :=
  ⟨S.fr, Ow.sl O hl, hr⟩

def TabRes (h : Hp) (w : World) (drop add : List Int) (cost : List (List Int)) (e : Ending) (w' : World) : Prop :=
  ∃ v1 v2 v3, e = .returned (.tuple #[v1, v2, v3]) ∧ ∃ h', St w.heap.size h w h' w' ∧ Ints h' v1 drop ∧ Ints h' v2 add ∧ Rws h' v3 cost

set_option maxRecDepth 100000 in
set_option maxHeartbeats 4000000 in
theorem mtable_any (h : Hp) (w : World) (hi : Imm h w) (vx vy : Value) (x y : List NodeP) (p : Int × Int) (r : Nat) (l : List ((Int × Int) × Value)) (dm : Int × Int → Int) (hx : Nds h vx x) (hy : Nds h vy y) (wx : WF x) (wy : WF y)
    (sx : x.length ≤ 262144) (sy : y.length ≤ 262144) (hp : InR x y p) (hm : MapL w r l) (hdm : ∀ q, (findL l q).getD (.int .i64 0) = .int .i64 (dm q) ∧ I64 (dm q)) :
    Calls Try.prog 53 #[vx, vy, .agg #[.int .i64 p.1, .int .i64 p.2], .map (some r)] w (TabRes h w (dropP x p.1) (dropP y p.2) (costP x y p dm)) := by
  obtain ⟨bx, ox, cx, rfl, hxn, hxc⟩ := hx.openI wx.pos
  obtain ⟨by', oy, cy, rfl, hyn, hyc⟩ := hy.openI wy.pos
  have HX := Lib.hid (fun w' hi => hxc w' hi)
  have HY := Lib.hid (fun w' hi => hyc w' hi)
  have HI := Lib.hid hi
  have WX := Lib.hid wx
  have WY := Lib.hid wy
  have HM := Lib.hid hm
  have HDM := Lib.hid hdm
  obtain ⟨p1, p2, p3, p4⟩ := hp
  have LX : (nd x p.1).kids.length ≤ 262144 := by have := kids_len wx p1 p2; omega
  have LY : (nd y p.2).kids.length ≤ 262144 := by have := kids_len wy p3 p4; omega
  clear hx hy hxc hyc wx wy hm hdm hi
  obtain ⟨hbx, hxa⟩ := HX.out w HI.out
  obtain ⟨akx, ckx, -, -, -, dx3, -, hkx, -⟩ := hxa p.1 p1 p2
  clear hxa
  have HKX := Lib.hid hkx
  clear hkx
  go_enter Try.func53, Try.ntmps53
  go_wp2_with fail
  go_loopw [8, 12, 27, 28, 29, 30, 31, 32, 33, 34, 35, 36, 37, 38, 39] (fun v _ i _ _ _ _ _ _ _ _ _ _ _ _ wr => ∃ (j : Nat), j ≤ (nd x p.1).kids.length ∧ i = .int .i64 j ∧ St (w.heap.size + 1) h (w.alloc (Obj.cells #[.int .i64 p.1, .int .i64 p.2] 52)) h wr ∧ InOw wr h (w.heap.size + 1) v (((nd x p.1).kids.take j).map fun c => (nd x c).size)) (fun _ _ i _ _ _ _ _ _ _ _ _ _ _ _ _ => (nd x p.1).kids.length - (intOf i).toNat)
  case atStart => exact ⟨0, Nat.zero_le _, rfl, St.refl' (HI.out.alloc _) (by simp), by simpa [InOw] using Ow.nil _ _ _ _ _⟩
  case round =>
    obtain ⟨j, hj, rfl, S, O⟩ := hrel
    obtain ⟨am, cm, rfl⟩ := Ow.shape O
    have S' := Lib.hid S
    have O' := Lib.hid O
    have IH0 := Lib.hid S.imm
    by_cases hlt : j < (nd x p.1).kids.length
    · obtain ⟨akx', ckx', hkxe, -, hkc⟩ := HKX.out.open
      simp only [Value.slice.injEq, true_and] at hkxe
      obtain ⟨rfl, rfl⟩ := hkxe
      obtain ⟨bkx, okx, rfl, hbkx, hkc⟩ := hkc wr S.imm (by omega)
      have dc := hkc j hlt
      have hcm : Hid ((nd x p.1).kids[j] ∈ (nd x p.1).kids) := by unfold Hid; simp
      have HT := Lib.hid (map_take_snoc (fun c => (nd x c).size) (nd x p.1).kids j hlt)
      generalize hgc : (nd x p.1).kids[j] = c at *
      obtain ⟨q1, q2, -, -⟩ := kid_inr WX.out p1 p2 hcm.out
      obtain ⟨hbx2, hxa⟩ := HX.out wr IH0.out
      obtain ⟨-, -, -, -, -, -, dz, -, -, -, iz⟩ := hxa c q1 q2
      clear hxa hkc hgc hcm S O
      have hll : (((nd x p.1).kids.take j).map fun c => (nd x c).size).length ≤ 262144 := by simp; omega
      generalize (((nd x p.1).kids.take j).map fun c => (nd x c).size) = L at *
      go_wp2_with (at_builtin; refine wpList_app el_ints rfl _ _ rfl (S'.out.alloc _) _ L.length _ rfl (Ow.alloc O'.out _) ⟨_, 0, none⟩ 1 1 [.int .i64 (nd x c).size] rfl rfl (new_cells _ _ _ _ (by simp)) (one_cells _ rfl) (by omega) ?_; intro v2 w3 st2 own2 gr2 bk2)
      go_roundw
      case rel => exact ⟨j + 1, by omega, by go_num, st2, by rw [HT.out]; exact InOw.snoc own2⟩
      case measure => simp [intOf]; omega
    · obtain rfl : j = (nd x p.1).kids.length := by omega
      have hz : (w.alloc (Obj.cells #[.int .i64 p.1, .int .i64 p.2] 52)).heap.size = w.heap.size + 1 := by simp
      have O2 : InOw wr h (w.heap.size + 1) (.slice am (nd x p.1).kids.length cm) (dropP x p.1) := by
        have := O
        simp only [List.take_length, List.length_map] at this
        exact this
      have P1 : Phase h (w.alloc (Obj.cells #[.int .i64 p.1, .int .i64 p.2] 52)) (h.fr (w.heap.size + 1) wr) wr (.slice am (nd x p.1).kids.length cm) (dropP x p.1) := by
        have := Phase.mk' (w := w.alloc (Obj.cells #[.int .i64 p.1, .int .i64 p.2] 52)) (by rw [hz]; exact S) (by rw [hz]; exact O2) (by simp only [dropP, List.length_map]; omega) (by
          intro q hq
          obtain ⟨c, hc, rfl⟩ := List.mem_map.1 hq
          obtain ⟨q1, q2, -, -⟩ := kid_inr WX.out p1 p2 hc
          obtain ⟨-, hxa⟩ := HX.out w HI.out
          obtain ⟨-, -, -, -, -, -, -, -, -, -, iz⟩ := hxa c q1 q2
          exact iz)
        rw [hz] at this
        exact this
      obtain ⟨w1, rfl⟩ : ∃ w1 : World, w1 = wr := ⟨_, rfl⟩
      generalize h.fr (w.heap.size + 1) w1 = h1 at *
      have hw1 : w.heap.size < w1.heap.size := by have := P1.st.below.size; rw [hz] at this; omega
      have k1 : w1.cell? ⟨w.heap.size, 1, none⟩ = some (.int .i64 p.2) := by rw [P1.st.below.cell (by simp), World.cell?_alloc_at _ _ _ _ rfl]; rfl
      have S0 : Hid (St w.heap.size h w h1 w1) := ((St.refl HI.out).alloc _).call P1.st
      obtain ⟨hby, hya⟩ := HY.out w1 S0.out.imm0
      obtain ⟨aky, cky, -, -, -, dy3, -, hky, -⟩ := hya p.2 p3 p4
      have HKY := Lib.hid hky
      have P1' := Lib.hid P1
      clear hya hky P1 S O O2 hz
      simp only [List.take_length, List.length_map]
      go_wp2_with fail
      go_loopw [9, 14, 47, 48, 49, 50, 51, 52, 53, 54, 55, 56, 57, 58, 59] (fun v _ i _ _ _ _ _ _ _ _ _ _ _ _ wr => ∃ (j : Nat), j ≤ (nd y p.2).kids.length ∧ i = .int .i64 j ∧ St w1.heap.size h1 w1 h1 wr ∧ InOw wr h1 w1.heap.size v (((nd y p.2).kids.take j).map fun c => (nd y c).size)) (fun _ _ i _ _ _ _ _ _ _ _ _ _ _ _ _ => (nd y p.2).kids.length - (intOf i).toNat)
      case atStart => exact ⟨0, Nat.zero_le _, rfl, St.refl P1'.out.st.imm, by simpa [InOw] using Ow.nil _ _ _ _ _⟩
      case round =>
        obtain ⟨j, hj, rfl, S, O⟩ := hrel
        obtain ⟨an, cn, rfl⟩ := Ow.shape O
        have S' := Lib.hid S
        have O' := Lib.hid O
        have IH0 : Hid (Imm h wr) := fun b c hc => S.imm b c (S0.out.le b c hc)
        by_cases hlt : j < (nd y p.2).kids.length
        · obtain ⟨akx', ckx', hkxe, -, hkc⟩ := HKY.out.open
          simp only [Value.slice.injEq, true_and] at hkxe
          obtain ⟨rfl, rfl⟩ := hkxe
          obtain ⟨bkx, okx, rfl, hbkx, hkc⟩ := hkc wr IH0.out (by omega)
          have dc := hkc j hlt
          have hcm : Hid ((nd y p.2).kids[j] ∈ (nd y p.2).kids) := by unfold Hid; simp
          have HT := Lib.hid (map_take_snoc (fun c => (nd y c).size) (nd y p.2).kids j hlt)
          generalize hgc : (nd y p.2).kids[j] = c at *
          obtain ⟨q1, q2, -, -⟩ := kid_inr WY.out p3 p4 hcm.out
          obtain ⟨hbx2, hxa⟩ := HY.out wr IH0.out
          obtain ⟨-, -, -, -, -, -, dz, -, -, -, iz⟩ := hxa c q1 q2
          clear hxa hkc hgc hcm S O
          have hll : (((nd y p.2).kids.take j).map fun c => (nd y c).size).length ≤ 262144 := by simp; omega
          generalize (((nd y p.2).kids.take j).map fun c => (nd y c).size) = L at *
          go_wp2_with (at_builtin; refine wpList_app el_ints rfl _ _ rfl (S'.out.alloc _) _ L.length _ rfl (Ow.alloc O'.out _) ⟨_, 0, none⟩ 1 1 [.int .i64 (nd y c).size] rfl rfl (new_cells _ _ _ _ (by simp)) (one_cells _ rfl) (by omega) ?_; intro v2 w3 st2 own2 gr2 bk2)
          go_roundw
          case rel => exact ⟨j + 1, by omega, by go_num, st2, by rw [HT.out]; exact InOw.snoc own2⟩
          case measure => simp [intOf]; omega
        · obtain rfl : j = (nd y p.2).kids.length := by omega
          have O2 : InOw wr h1 w1.heap.size (.slice an (nd y p.2).kids.length cn) (dropP y p.2) := by
            have := O
            simp only [List.take_length, List.length_map] at this
            exact this
          have P2 : Phase h1 w1 (h1.fr w1.heap.size wr) wr (.slice an (nd y p.2).kids.length cn) (dropP y p.2) :=
            Phase.mk' S O2 (by simp only [dropP, List.length_map]; omega) (by
              intro q hq
              obtain ⟨c, hc, rfl⟩ := List.mem_map.1 hq
              obtain ⟨q1, q2, -, -⟩ := kid_inr WY.out p3 p4 hc
              obtain ⟨-, hxa⟩ := HY.out w HI.out
              obtain ⟨-, -, -, -, -, -, -, -, -, -, iz⟩ := hxa c q1 q2
              exact iz)
          obtain ⟨w2, rfl⟩ : ∃ w2 : World, w2 = wr := ⟨_, rfl⟩
          generalize h1.fr w1.heap.size w2 = h2 at *
          have S2 : Hid (St w.heap.size h w h2 w2) := S0.out.call P2.st
          have hw2 : w.heap.size < w2.heap.size := by have := P2.st.below.size; omega
          have k0 : w2.cell? ⟨w.heap.size, 0, none⟩ = some (.int .i64 p.1) := by
            rw [P2.st.below.cell hw1, P1'.out.st.below.cell (by simp), World.cell?_alloc_at _ _ _ _ rfl]; rfl
          have k2 : Hid (w2.cell? ⟨w.heap.size, 1, none⟩ = some (.int .i64 p.2)) := by
            unfold Hid; rw [P2.st.below.cell hw1]; exact k1
          obtain ⟨hbx2, hxa⟩ := HX.out w2 S2.out.imm0
          obtain ⟨akx2, ckx2, -, -, -, ex3, -, hkx2, -⟩ := hxa p.1 p1 p2
          have HKX2 := Lib.hid hkx2
          have P2' := Lib.hid P2
          clear hxa hkx2 P2 S O O2 k1
          simp only [List.take_length, List.length_map]
          go_wp2_with fail
          go_loopw [10, 16, 17, 19, 67, 68, 69, 70, 71, 72, 73, 74, 75, 76, 77, 78, 79, 80, 81, 82, 83, 84, 85, 86, 87, 88, 89, 90, 91, 92, 93, 94, 95, 96, 97, 98, 99, 100, 101, 102, 103, 104, 105, 106, 107, 108, 109, 110, 111, 112] (fun v _ _ _ i _ _ _ _ _ _ _ _ _ _ _ _ _ _ _ _ _ _ _ _ _ _ _ _ _ _ _ _ _ _ _ _ _ _ _ _ _ _ _ _ _ _ _ _ _ wr => ∃ (j : Nat) (hj : Hp) (vs : List Value), j ≤ (nd x p.1).kids.length ∧ i = .int .i64 j ∧ St w2.heap.size h2 w2 hj wr ∧ Ow wr hj w2.heap.size 35 1 v j vs ∧ EncL (RowC hj) (((nd x p.1).kids.take j).map fun c => (nd y p.2).kids.map fun k => if (nd x c).kind = (nd y k).kind then dm (c, k) else -1) vs) (fun _ _ _ _ i _ _ _ _ _ _ _ _ _ _ _ _ _ _ _ _ _ _ _ _ _ _ _ _ _ _ _ _ _ _ _ _ _ _ _ _ _ _ _ _ _ _ _ _ _ _ => (nd x p.1).kids.length - (intOf i).toNat)
          case atStart => exact ⟨0, h2, [], Nat.zero_le _, rfl, St.refl S2.out.imm, Ow.nil _ _ _ _ _, by simp [EncL]⟩
          case round =>
            obtain ⟨wo, rfl⟩ : ∃ wo : World, wo = wr := ⟨_, rfl⟩
            obtain ⟨j, hj, vs, hjl, rfl, S, O, E⟩ := hrel
            obtain ⟨ao, co, rfl⟩ := Ow.shape O
            have S' := Lib.hid S
            have O' := Lib.hid O
            have E' := Lib.hid E
            have IH0 : Hid (Imm h wo) := fun b c hc => S.imm b c (S.le b c (S2.out.le b c hc))
            by_cases hlt : j < (nd x p.1).kids.length
            · obtain ⟨akx', ckx', hkxe, -, hkc⟩ := HKX2.out.open
              simp only [Value.slice.injEq, true_and] at hkxe
              obtain ⟨rfl, rfl⟩ := hkxe
              obtain ⟨bkx, okx, rfl, hbkx, hkc⟩ := hkc wo IH0.out (by omega)
              have dc := hkc j hlt
              have hcm : Hid ((nd x p.1).kids[j] ∈ (nd x p.1).kids) := by unfold Hid; simp
              have HT := Lib.hid (map_take_snoc (fun c => (nd y p.2).kids.map fun k => if (nd x c).kind = (nd y k).kind then dm (c, k) else -1) (nd x p.1).kids j hlt)
              generalize hgc : (nd x p.1).kids[j] = c at *
              obtain ⟨q1, q2, -, -⟩ := kid_inr WX.out p1 p2 hcm.out
              clear hkc hgc hcm S O E
              have hwo : w.heap.size < wo.heap.size := by have := S'.out.below.size; omega
              have kk : wo.cell? ⟨w.heap.size, 1, none⟩ = some (.int .i64 p.2) := by rw [S'.out.below.cell hw2]; exact k2.out
              go_wp2_with (at_make; refine wpList_mk0 el_ints rfl _ _ rfl (St.refl S'.out.imm) .i64 .i64 _ (nd y p.2).kids.length rfl rfl (by go_num) (by omega) ?_; intro w3 st3 own3 gr3; have kk3 : w3.cell? ⟨w.heap.size, 1, none⟩ = some (.int .i64 p.2) := (by rw [st3.below.cell hwo]; exact kk); have ey := (HY.out w3 (fun b c hc => st3.imm b c (S'.out.le b c (S2.out.le b c hc)))); obtain ⟨hby3, hya⟩ := ey; obtain ⟨aky3, cky3, -, -, -, ey3, -, hky3, -⟩ := hya p.2 p3 p4; have HKY3 := Lib.hid hky3; have ST3 := Lib.hid st3; have OW3 := Lib.hid own3; clear hya hky3 st3 own3 gr3)
              go_loopw [17, 19, 81, 82, 83, 84, 85, 86, 87, 88, 89, 90, 91, 92, 93, 94, 95, 96, 97, 98, 99, 100, 101, 102, 103, 104, 105, 106, 107] (fun v _ i _ _ _ _ _ _ _ _ _ _ _ _ _ _ _ _ _ _ _ _ _ _ _ _ _ _ wr => ∃ (k : Nat), k ≤ (nd y p.2).kids.length ∧ i = .int .i64 k ∧ St wo.heap.size hj wo hj wr ∧ InOw wr hj wo.heap.size v (((nd y p.2).kids.take k).map fun k => if (nd x c).kind = (nd y k).kind then dm (c, k) else -1)) (fun _ _ i _ _ _ _ _ _ _ _ _ _ _ _ _ _ _ _ _ _ _ _ _ _ _ _ _ _ _ => (nd y p.2).kids.length - (intOf i).toNat)
              case atStart => exact ⟨0, Nat.zero_le _, rfl, ST3.out, by simpa [InOw] using OW3.out⟩
              case round =>
                obtain ⟨k, hk, rfl, S4, O4⟩ := hrel
                obtain ⟨ai, ci, rfl⟩ := Ow.shape O4
                have S4' := Lib.hid S4
                have O4' := Lib.hid O4
                have IH4 : Hid (Imm h wr) := fun b c hc => S4.imm b c (S'.out.le b c (S2.out.le b c hc))
                by_cases hltk : k < (nd y p.2).kids.length
                · obtain ⟨aky', cky', hkye, -, hkc⟩ := HKY3.out.open
                  simp only [Value.slice.injEq, true_and] at hkye
                  obtain ⟨rfl, rfl⟩ := hkye
                  obtain ⟨bky, oky, rfl, hbky, hkc⟩ := hkc wr IH4.out (by omega)
                  have dk := hkc k hltk
                  have hdm' : Hid ((nd y p.2).kids[k] ∈ (nd y p.2).kids) := by unfold Hid; simp
                  have HT4 := Lib.hid (map_take_snoc (fun k => if (nd x c).kind = (nd y k).kind then dm (c, k) else -1) (nd y p.2).kids k hltk)
                  generalize hgd : (nd y p.2).kids[k] = d at *
                  obtain ⟨r1, r2, -, -⟩ := kid_inr WY.out p3 p4 hdm'.out
                  obtain ⟨hbx4, hxa⟩ := HX.out wr IH4.out
                  obtain ⟨hby4, hya⟩ := HY.out wr IH4.out
                  obtain ⟨-, -, ex0, -⟩ := hxa c q1 q2
                  obtain ⟨-, -, ey0, -⟩ := hya d r1 r2
                  have hmr : Hid (wr.heap[r]? = w.heap[r]?) := by
                    have hr := HM.out.lt
                    unfold Hid
                    rw [S4.below.block r (by omega), S'.out.below.block r (by omega)]
                    exact S2.out.below.block r hr
                  obtain ⟨hd1, hd2⟩ := HDM.out (c, d)
                  have hll : (((nd y p.2).kids.take k).map fun k => if (nd x c).kind = (nd y k).kind then dm (c, k) else -1).length ≤ 262144 := by simp; omega
                  generalize (((nd y p.2).kids.take k).map fun k => if (nd x c).kind = (nd y k).kind then dm (c, k) else -1) = L at *
                  clear hxa hya hkc hgd hdm' S4 O4
                  by_cases hkk : (nd x c).kind = (nd y d).kind
                  · rw [if_pos hkk] at HT4
                    have g1 := ibeqT hkk
                    have hlook : ∀ nq, (Instr.lookup 97 (.map (some r)) (.agg #[.int .i64 c, .int .i64 d]) false).run Try.prog (wr.drewN nq) = .ok (.int .i64 (dm (c, d))) (wr.drewN nq) := fun nq => by
                      have := HM.out.look (c, d) 97 3 (.int .i64 0) Try.underlying97 (fun _ => by kernel_rfl) (wr.drewN nq) hmr.out
                      rw [hd1] at this
                      exact this
                    clear hkk hd1 hd2
                    go_wp2_with fail
                    go_quiet (fail)
                    go_wp2_with (at_builtin; refine wpList_app el_ints rfl _ _ rfl ((S4'.out.drewN _).alloc _) _ L.length _ rfl (Ow.alloc (Ow.drewN O4'.out _) _) ⟨_, 0, none⟩ 1 1 [.int .i64 (dm (c, d))] rfl rfl (new_cells _ _ _ _ (by simp)) (one_cells _ rfl) (by omega) ?_; intro v2 w5 st5 own5 gr5 bk5)
                    go_roundw
                    case rel => exact ⟨k + 1, by omega, by go_num, st5, by rw [HT4.out]; exact InOw.snoc own5⟩
                    case measure => simp [intOf]; omega
                  · rw [if_neg hkk] at HT4
                    have g1 := ibeqF hkk
                    clear hkk hd1 hd2
                    go_wp2_with fail
                    go_quiet (fail)
                    go_wp2_with (at_builtin; refine wpList_app el_ints rfl _ _ rfl ((S4'.out.drewN _).alloc _) _ L.length _ rfl (Ow.alloc (Ow.drewN O4'.out _) _) ⟨_, 0, none⟩ 1 1 [.int .i64 (-1)] rfl rfl (new_cells _ _ _ _ (by simp)) (one_cells _ rfl) (by omega) ?_; intro v2 w5 st5 own5 gr5 bk5)
                    go_roundw
                    case rel => exact ⟨k + 1, by omega, by go_num, st5, by rw [HT4.out]; exact InOw.snoc own5⟩
                    case measure => simp [intOf]; omega
                · obtain rfl : k = (nd y p.2).kids.length := by omega
                  have O2 : InOw wr hj wo.heap.size (.slice ai (nd y p.2).kids.length ci) ((nd y p.2).kids.map fun k => if (nd x c).kind = (nd y k).kind then dm (c, k) else -1) := by
                    have := O4
                    simp only [List.take_length, List.length_map] at this
                    exact this
                  have P4 : Phase hj wo (hj.fr wo.heap.size wr) wr (.slice ai (nd y p.2).kids.length ci) ((nd y p.2).kids.map fun k => if (nd x c).kind = (nd y k).kind then dm (c, k) else -1) :=
                    Phase.mk' S4 O2 (by simp only [List.length_map]; omega) (by
                      intro q hq
                      obtain ⟨d, hd, rfl⟩ := List.mem_map.1 hq
                      split
                      · exact (HDM.out (c, d)).2
                      · unfold I64; omega)
                  generalize hj.fr wo.heap.size wr = hj' at *
                  have SN := Lib.hid (S'.out.call P4.st)
                  have ON := Lib.hid (O'.out.call P4.st)
                  have EN : Hid (EncL (RowC hj') _ vs) := E'.out.mono fun _ _ q => q.mono P4.st.le
                  have P4' := Lib.hid P4
                  clear P4 S4 O4 O2
                  simp only [List.take_length, List.length_map]
                  go_wp2_with (at_builtin; refine wpList_app el_rows rfl _ _ rfl (SN.out.alloc _) _ j vs rfl (ON.out.alloc _) ⟨_, 0, none⟩ 1 1 [.slice ai (nd y p.2).kids.length ci] rfl rfl (new_cells _ _ _ _ (by simp)) (one_cells _ rfl) (by omega) ?_; intro v6 w6 st6 own6 gr6 bk6)
                  go_roundw
                  case rel =>
                    refine ⟨j + 1, hj', vs ++ [.slice ai (nd y p.2).kids.length ci], by omega, by go_num, st6, own6, ?_⟩
                    rw [HT.out]
                    exact EN.out.append (EncL.one ⟨ai, ci, by simp, by simpa using P4'.out.ints⟩)
                  case measure => simp [intOf]; omega
            · obtain rfl : j = (nd x p.1).kids.length := by omega
              go_wp2_with fail
              go_ret3
              refine ⟨_, _, _, rfl, _, (S2.out.call S).fr, ?_, ?_, vs, ?_, ?_⟩
              · exact (P1'.out.ints.mono P2'.out.st.le).mono (Hp.le_trans S.le (Hp.le_fr S.imm))
              · exact P2'.out.ints.mono (Hp.le_trans S.le (Hp.le_fr S.imm))
              · have := (O.base (B' := w.heap.size) (by omega)).sl (by omega)
                simpa [costP] using this
              · have := E.mono fun _ _ q => q.mono (Hp.le_fr (B := w.heap.size) S.imm)
                rw [List.take_length] at this
                exact this
end Go.Proofs.Ytfifbadepebpeaa

/- An append inside a region that draws its order; the cells of a slice of integers in every world. -/
namespace Go.Proofs.Ytfifbadepebpeaa
open Go.RowKit

theorem step_app {P : Program} {t e : TypeId} {size bytes : Nat} {z : List Value} (E : ElemT P t e size bytes z) {ops : Array Oper} {o : Oper} {a : Act} {K : Act → World → Prop} {Q : Exit → Act → World → Prop} {F : Prop} (hgd : o.guard = none) (s x : Operand)
    (ho : o.op = .call { callee := .builtin .append, args := #[s, x], argTypes := #[t, t] }) {B : Nat} {h0 h : Hp} {w0 w : World} (st : St B h0 w0 h w)
    (v : Value) (n : Nat) (xs : List Value) (hs : a.eval s = v) (ow : Ow w h B e size v n xs)
    (ad : Addr) (m c : Nat) (news : List Value) (hx : a.eval x = .slice (some ad) m c) (hl : news.length = m * size) (hnews : ∀ j u, news[j]? = some u → w.cell? (ad.add j) = some u) (h1 : ∀ u ∈ news, u.oneCell' = true)
    (hm : 0 < m) (hb : (n + m) * bytes ≤ 140737488355328)
    (hK : ∀ g cap w', St B h0 w0 h w' → Ow w' h B e size (.slice (some ⟨g, 0, none⟩) (n + m) cap) (n + m) (xs ++ news) → w.grownBy w' v.ownBlock → ((Value.slice (some ⟨g, 0, none⟩) (n + m) cap).ownBlock = v.ownBlock ∨ (Value.slice (some ⟨g, 0, none⟩) (n + m) cap).ownBlock = some w.heap.size) → K (a.put o.dst (.slice (some ⟨g, 0, none⟩) (n + m) cap)) w') :
    if Region.wanted o (yielded ops a.tmps) = true then Oper.wp P o a w K Q else F := by
  obtain ⟨i, zv, hi, hz, hsz, hby, hzc⟩ := E.info
  have hmax : n + m ≤ maxLen := by
    have := Nat.le_mul_of_pos_right (n + m) E.bpos
    simp only [maxLen]; omega
  refine step_append_lies w hgd s x t ho B e i zv size bytes E.und hi hz hsz hby (by rw [hzc]; simpa using E.zlen) E.pos v n xs hs ow.row ad m c news hx hl hnews h1 hm hmax hb st.size _ rfl ?_
  intro g cap w' h2 h3 h5 _
  have hbk : (Value.slice (some ⟨g, 0, none⟩) (n + m) cap).ownBlock = v.ownBlock ∨ (Value.slice (some ⟨g, 0, none⟩) (n + m) cap).ownBlock = some w.heap.size := by
    rcases h5 with h5 | h5
    · exact .inl h5.symm
    · exact .inr (by rw [h5]; rfl)
  have hst : St B h0 w0 h w' := st.grown h3 (fun k hk => ⟨(ow.lt k hk).1, ow.free k hk⟩)
  refine hK g cap w' hst (Ow.of h2 st.imm (fun g hg => ow.free g hg) ?_) h3 hbk
  intro g' hg
  rcases hbk with h5 | h5
  · exact .inr (by rw [← h5, hg])
  · rw [h5] at hg
    exact .inl (by simp only [Option.some.injEq] at hg; omega)

theorem Ints.openI {h : Hp} {v : Value} {l : List Int} (hv : Ints h v l) (hp : 0 < l.length) : ∃ b off cap, v = .slice (some ⟨b, off, none⟩) l.length cap ∧ l.length ≤ 140737488355328 ∧
    ∀ w, Imm h w → b < w.heap.size ∧ ∀ k (hk : k < l.length), w.cell? ⟨b, off + k, none⟩ = some (.int .i64 l[k]) := by
  obtain ⟨s, hr⟩ := hv
  obtain ⟨a, cap, rfl, hn⟩ := s.shape
  have hs := s
  obtain ⟨a', cap', he, h1, h2, h3⟩ := hs
  simp only [Value.slice.injEq, true_and] at he
  obtain ⟨rfl, rfl⟩ := he
  rcases h3 with h3 | ⟨b, off, c, rfl, hb, hc⟩
  · omega
  refine ⟨b, off, cap, rfl, hn, fun w hi => ⟨blk_lt (hi b c hb), fun k hk => ?_⟩⟩
  obtain ⟨b', off', hab, hb', hc'⟩ := s.cells hi hp
  simp only [Option.some.injEq, Addr.mk.injEq, and_true] at hab
  obtain ⟨rfl, rfl⟩ := hab
  exact hc' _ _ (encI_at l k hk)
end Go.Proofs.Ytfifbadepebpeaa
