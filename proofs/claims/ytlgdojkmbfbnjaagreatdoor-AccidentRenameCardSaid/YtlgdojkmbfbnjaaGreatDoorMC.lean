/- The same machine: regions in whatever order give what one order gives; calls that touch nothing. -/
import Derived.Test.YtlgdojkmbfbnjaaGreatDoorMB
import Derived.Deep.LoopGhost
import Derived.Scope
namespace Go.Proofs.YtlgdojkmbfbnjaaGreatDoor
open Go.RowKit

section
variable {P : Program} {M : Mch P} {ops : Array Oper} {pm s : List Nat} {F0 : List AV} {H0 : AS} {g0 : Gh} {w0 : World} {K : List AV → AS → Prop} {E : List EntA} {s2 : List Nat} {pd : List EntA} {F : List AV} {H : AS} {listed : Array Bool} {a : Act} {w : World} {g : Gh}
/-- Who comes before is ahead. -/
theorem WfD.before (W : WfD M.kd ops pm s) {s1 s3 : List Nat} {i j : Nat} (e : s = s1 ++ i :: s3) (hj : j < ops.size) (h : bit pm i j = true) : j ∈ s1 := by
  exact W.tp s1 i s3 e j hj h
theorem WfD.not2 (W : WfD M.kd ops pm s) {s1 s3 : List Nat} {i j : Nat} (e : s = s1 ++ i :: s3) (hj : j ∈ s3) (h : bit pm i j = true) : False := by
  have hl : j < ops.size := W.lt j (by rw [e]; simp [hj])
  have h1 := W.before e hl h
  have h2 := W.nd
  rw [e, List.nodup_append] at h2
  exact h2.2.2 j h1 j (List.mem_cons_of_mem _ hj) rfl
theorem DI.lt (W : WfD M.kd ops pm s) (d : DI M ops pm s F0 H0 g0 w0 K E s2 pd F H listed a w g) {e : EntA} (he : e ∈ E) : e.i < ops.size := W.lt _ (by rw [d.sc]; exact List.mem_append_left _ (List.mem_map_of_mem he))
theorem DI.sp (d : DI M ops pm s F0 H0 g0 w0 K E s2 pd F H listed a w g) {E1 E2 : List EntA} {e : EntA} (he : E = E1 ++ e :: E2) : s = E1.map (·.i) ++ e.i :: (E2.map (·.i) ++ s2) := by rw [d.sc, he]; simp
/-- The slots that a waiting operation looks at, and those that it writes. -/
theorem DI.look (W : WfD M.kd ops pm s) (d : DI M ops pm s F0 H0 g0 w0 K E s2 pd F H listed a w g) {E1 E2 : List EntA} {e : EntA} (he : E = E1 ++ e :: E2) (hl : listed.getD e.i false = false) {o : Oper} (ho : ops[e.i]? = some o) (hr : ∀ q ∈ o.after, Region.binds .any q = true → listed.getD q.on false = true) :
    (∀ dd ∈ looksA ops o, (rep ops F0 (E.filter fun e => listed.getD e.i false))[dd]? = (rep ops F0 E1)[dd]?) ∧ ∀ dd, o.dst = some dd → (∀ e2 ∈ E2, dstO ops e2.i = some dd → listed.getD e2.i false = false) ∧ ∀ e1 ∈ E1, dstO ops e1.i = some dd → listed.getD e1.i false = true := by
  have hei : e.i < ops.size := d.lt W (by rw [he]; simp)
  have nd := W.nd
  rw [d.sp he, List.nodup_append] at nd
  have ne1 : ∀ e1 ∈ E1, e1.i ≠ e.i := fun e1 h1 => nd.2.2 e1.i (List.mem_map_of_mem h1) e.i List.mem_cons_self
  have ne2 : ∀ e2 ∈ E2, e2.i ≠ e.i := fun e2 h2 q => by
    have := (List.nodup_cons.1 nd.2.1).1
    exact this (by rw [← q]; exact List.mem_append_left _ (List.mem_map_of_mem h2))
  have b1 : ∀ e1 ∈ E1, cnf ops e.i e1.i = true ∨ cnf ops e1.i e.i = true → listed.getD e1.i false = true := fun e1 h1 hc => by
    have hlt : e1.i < ops.size := d.lt W (by rw [he]; simp [h1])
    have hb : bit pm e.i e1.i = true ∨ bit pm e1.i e.i = true := by
      rcases hc with hc | hc
      · exact W.cf _ _ hei hlt (ne1 e1 h1).symm hc
      · exact (W.cf _ _ hlt hei (ne1 e1 h1) hc).symm
    rcases hb with q | q
    · exact pre_listed W.ok d.dc e.i e.i o e1.i (Nat.le_refl _) hlt ho hr q
    · obtain ⟨A, B, hAB⟩ := List.append_of_mem h1
      exact (W.not2 (s1 := A.map (·.i)) (s3 := B.map (·.i) ++ e.i :: (E2.map (·.i) ++ s2)) (by rw [d.sp he, hAB]; simp) (by simp) q).elim
  have b2 : ∀ e2 ∈ E2, cnf ops e.i e2.i = true ∨ cnf ops e2.i e.i = true → listed.getD e2.i false = false := fun e2 h2 hc => by
    have hlt : e2.i < ops.size := d.lt W (by rw [he]; simp [h2])
    have hb : bit pm e.i e2.i = true ∨ bit pm e2.i e.i = true := by
      rcases hc with hc | hc
      · exact W.cf _ _ hei hlt (ne2 e2 h2).symm hc
      · exact (W.cf _ _ hlt hei (ne2 e2 h2) hc).symm
    rcases hb with q | q
    · exact (W.not2 (d.sp he) (List.mem_append_left _ (List.mem_map_of_mem h2)) q).elim
    · cases hq : listed.getD e2.i false with
      | false => rfl
      | true =>
        have := pre_listed W.ok d.dc e2.i e2.i ops[e2.i] e.i (Nat.le_refl _) hei (Array.getElem?_eq_getElem hlt) (fun q h3 h4 => d.dc e2.i _ hq (Array.getElem?_eq_getElem hlt) q h3 h4) q
        rw [this] at hl; cases hl
  refine ⟨fun dd hd => rep_eq ops dd F0 ?_, fun dd hd => ⟨fun e2 h2 hdst => b2 e2 h2 (.inr ?_), fun e1 h1 hdst => b1 e1 h1 (.inl ?_)⟩⟩
  · rw [he, List.filter_append, List.filter_cons_of_neg (by rw [hl]; simp), List.filter_append]
    have l1 : (E1.filter fun e => listed.getD e.i false).filter (fun e => dstO ops e.i == some dd) = E1.filter fun e => dstO ops e.i == some dd := by
      rw [List.filter_filter]
      refine List.filter_congr fun e1 h1 => ?_
      cases hq : (dstO ops e1.i == some dd) with
      | false => rfl
      | true =>
        rw [b1 e1 h1 (.inl ?_)]; rfl
        unfold cnf
        rw [beq_iff_eq.1 hq, ho]
        simp [hd]
    have l2 : (E2.filter fun e => listed.getD e.i false).filter (fun e => dstO ops e.i == some dd) = [] := by
      rw [List.filter_filter, List.filter_eq_nil_iff]
      intro e2 h2 hq
      simp only [Bool.and_eq_true] at hq
      rw [b2 e2 h2 (.inl ?_)] at hq
      · exact absurd hq.2 (by simp)
      · unfold cnf
        rw [beq_iff_eq.1 hq.1, ho]
        simp [hd]
    rw [l1, l2, List.append_nil]
  · unfold cnf
    have : dstO ops e.i = some dd := by unfold dstO; rw [ho]; exact hd
    have hlt : e2.i < ops.size := d.lt W (by rw [he]; simp [h2])
    rw [this, Array.getElem?_eq_getElem hlt]
    unfold dstO at hdst
    rw [Array.getElem?_eq_getElem hlt] at hdst
    simp only [Option.bind_some] at hdst
    simp [hdst]
  · unfold cnf
    rw [hdst, ho]
    simp [hd]
theorem getDset (listed : Array Bool) (i j : Nat) (hi : i < listed.size) : (listed.setIfInBounds i true).getD j false = (if j = i then true else listed.getD j false) := by
  rw [Array.getD_eq_getD_getElem?]
  by_cases h : j = i
  · subst h
    rw [Array.getElem?_setIfInBounds_self_of_lt hi, if_pos rfl]; rfl
  · rw [Array.getElem?_setIfInBounds_ne (fun q => h q.symm), if_neg h, ← Array.getD_eq_getD_getElem?]
/-- The slots behind a waiting operation that has come up. -/
theorem DI.put (W : WfD M.kd ops pm s) (d : DI M ops pm s F0 H0 g0 w0 K E s2 pd F H listed a w g) {E1 E2 : List EntA} {e : EntA} (he : E = E1 ++ e :: E2) (hl : listed.getD e.i false = false) {o : Oper} (ho : ops[e.i]? = some o) (hr : ∀ q ∈ o.after, Region.binds .any q = true → listed.getD q.on false = true) :
    rep ops F0 (E.filter fun q => (listed.setIfInBounds e.i true).getD q.i false) = setF (rep ops F0 (E.filter fun q => listed.getD q.i false)) o.dst e.x := by
  have hei : e.i < ops.size := d.lt W (by rw [he]; simp)
  have hsz : e.i < listed.size := by rw [d.sz]; exact hei
  have hdst : dstO ops e.i = o.dst := by unfold dstO; rw [ho]; rfl
  have nd := W.nd
  rw [d.sp he, List.nodup_append] at nd
  have ne1 : ∀ e1 ∈ E1, e1.i ≠ e.i := fun e1 h1 => nd.2.2 e1.i (List.mem_map_of_mem h1) e.i List.mem_cons_self
  have ne2 : ∀ e2 ∈ E2, e2.i ≠ e.i := fun e2 h2 q => by
    have := (List.nodup_cons.1 nd.2.1).1
    exact this (by rw [← q]; exact List.mem_append_left _ (List.mem_map_of_mem h2))
  have f1 : (E1.filter fun q => (listed.setIfInBounds e.i true).getD q.i false) = E1.filter fun q => listed.getD q.i false := List.filter_congr fun e1 h1 => by rw [getDset _ _ _ hsz, if_neg (ne1 e1 h1)]
  have f2 : (E2.filter fun q => (listed.setIfInBounds e.i true).getD q.i false) = E2.filter fun q => listed.getD q.i false := List.filter_congr fun e2 h2 => by rw [getDset _ _ _ hsz, if_neg (ne2 e2 h2)]
  have fe : (listed.setIfInBounds e.i true).getD e.i false = true := by rw [getDset _ _ _ hsz, if_pos rfl]
  have eq1 : (E.filter fun q => (listed.setIfInBounds e.i true).getD q.i false) = (E1.filter fun q => listed.getD q.i false) ++ e :: (E2.filter fun q => listed.getD q.i false) := by
    rw [he, List.filter_append, List.filter_cons_of_pos (by rw [fe]), f1, f2]
  have eq2 : (E.filter fun q => listed.getD q.i false) = (E1.filter fun q => listed.getD q.i false) ++ (E2.filter fun q => listed.getD q.i false) := by
    rw [he, List.filter_append, List.filter_cons_of_neg (by rw [hl]; simp)]
  apply List.ext_getElem?
  intro dd
  by_cases hd : o.dst = some dd
  · have k2 := ((d.look W he hl ho hr).2 dd hd).1
    have n2 : (E2.filter fun q => listed.getD q.i false).filter (fun q => dstO ops q.i == some dd) = [] := by
      rw [List.filter_filter, List.filter_eq_nil_iff]
      intro e2 h2 hq
      simp only [Bool.and_eq_true, beq_iff_eq] at hq
      rw [k2 e2 h2 hq.1] at hq
      exact absurd hq.2 (by simp)
    have e3 : (E.filter fun q => (listed.setIfInBounds e.i true).getD q.i false).filter (fun q => dstO ops q.i == some dd) = ((E.filter fun q => listed.getD q.i false) ++ [e]).filter (fun q => dstO ops q.i == some dd) := by
      rw [eq1, eq2, List.filter_append, List.filter_append, List.filter_append, n2, List.append_nil, List.filter_cons, List.filter_cons, n2, List.filter_nil]
    rw [rep_eq ops dd F0 e3, rep_app]
    show (setF _ (dstO ops e.i) e.x)[dd]? = _
    rw [hdst]
  · have e3 : (E.filter fun q => (listed.setIfInBounds e.i true).getD q.i false).filter (fun q => dstO ops q.i == some dd) = (E.filter fun q => listed.getD q.i false).filter (fun q => dstO ops q.i == some dd) := by
      rw [eq1, eq2, List.filter_append, List.filter_append, List.filter_cons_of_neg (by rw [hdst]; simpa using hd)]
    rw [rep_eq ops dd F0 e3]
    cases hq : o.dst with
    | none => rfl
    | some q =>
      simp only [setF]
      rw [List.getElem?_set_ne]
      rintro rfl; exact hd hq
end
end Go.Proofs.YtlgdojkmbfbnjaaGreatDoor

namespace Go.Proofs.YtlgdojkmbfbnjaaGreatDoor
open Go.RowKit

section
variable {P : Program} {M : Mch P} {ops : Array Oper} {pm s : List Nat} {F0 : List AV} {H0 : AS} {g0 : Gh} {w0 : World} {K : List AV → AS → Prop} {listed : Array Bool} {a : Act} {w : World} {g : Gh}
/-- All is reckoned ahead up to the next thing that turns objects. -/
theorem DI.absorb (W : WfD M.kd ops pm s) : ∀ {s2 : List Nat} {E : List EntA} {pd : List EntA} {F : List AV} {H : AS}, DI M ops pm s F0 H0 g0 w0 K E s2 pd F H listed a w g →
    ∃ E' s2' pd' F' H', DI M ops pm s F0 H0 g0 w0 K E' s2' pd' F' H' listed a w g ∧ (s2' = [] ∨ ∃ i r o, s2' = i :: r ∧ ops[i]? = some o ∧ gdA ops F' o = some true ∧ M.kd o.op = 3)
  | [], E, pd, F, H, d => ⟨E, [], pd, F, H, d, .inl rfl⟩
  | i :: r, E, pd, F, H, d => by
    have hi : i < ops.size := W.lt i (by rw [d.sc]; simp)
    have ho := Array.getElem?_eq_getElem hi
    by_cases hk : gdA ops F ops[i] = some true ∧ M.kd ops[i].op = 3
    · exact ⟨E, i :: r, pd, F, H, d, .inr ⟨i, r, _, rfl, ho, hk.1, hk.2⟩⟩
    · obtain ⟨E', pd', F', H', d'⟩ := d.one W ho fun h1 h2 => hk ⟨h1, h2⟩
      exact DI.absorb W d'
theorem flt_le {p q : Nat → Bool} (h : ∀ j, q j = true → p j = true) : ∀ l : List Nat, (l.filter q).length ≤ (l.filter p).length
  | [] => Nat.le_refl _
  | x :: l => by
    have ih := flt_le h l
    rw [List.filter_cons, List.filter_cons]
    cases hq : q x
    · cases p x
      · simpa using ih
      · simp only [Bool.false_eq_true, if_false, if_true, List.length_cons]; omega
    · rw [h x hq]; simpa using ih
theorem flt_lt {p q : Nat → Bool} {i : Nat} (h : ∀ j, q j = true → p j = true) (hp : p i = true) (hq : q i = false) : ∀ l : List Nat, i ∈ l → (l.filter q).length < (l.filter p).length
  | x :: l, hi => by
    have le := flt_le h l
    rw [List.filter_cons, List.filter_cons]
    by_cases hx : x = i
    · subst hx
      rw [hp, hq]
      simp only [Bool.false_eq_true, if_false, if_true, List.length_cons]; omega
    · have ih := flt_lt h hp hq l (List.mem_of_ne_of_mem (fun e => hx e.symm) hi)
      cases hq2 : q x
      · cases p x
        · simpa using ih
        · simp only [Bool.false_eq_true, if_false, if_true, List.length_cons]; omega
      · rw [h x hq2]; simpa using ih
theorem unl_lt {listed : Array Bool} {n i : Nat} (hi : i < n) (hs : listed.size = n) (hl : listed.getD i false = false) : ((List.range n).filter fun j => !(listed.setIfInBounds i true).getD j false).length < ((List.range n).filter fun j => !listed.getD j false).length := by
  refine flt_lt (i := i) (fun j hj => ?_) (by rw [hl]; rfl) ?_ _ (List.mem_range.2 hi)
  · rw [getDset _ _ _ (by omega)] at hj
    split at hj
    · cases hj
    · exact hj
  · rw [getDset _ _ _ (by omega), if_pos rfl]; rfl
/-- Nothing that may come up: all has come up. -/
theorem DI.all (W : WfD M.kd ops pm s) {E : List EntA} {s2 : List Nat} {pd : List EntA} {F : List AV} {H : AS} (d : DI M ops pm s F0 H0 g0 w0 K E s2 pd F H listed a w g) (h : Region.ready .any ops listed = []) : ∀ i, i < ops.size → listed.getD i false = true := by
  have key : ∀ (s1 r : List Nat), s = s1 ++ r → (∀ i ∈ s1, listed.getD i false = true) → ∀ i ∈ r, listed.getD i false = true := by
    intro s1 r
    induction r generalizing s1 with
    | nil => intro _ _ i hi; cases hi
    | cons x r ih =>
      intro e hs1
      have hx : x < ops.size := W.lt x (by rw [e]; simp)
      have hxl : listed.getD x false = true := by
        cases hq : listed.getD x false with
        | true => rfl
        | false =>
          have : x ∈ Region.ready .any ops listed := mem_ready.2 ⟨by
            rw [Array.getD_eq_getD_getElem?, Array.getElem?_eq_getElem (by rw [d.sz]; exact hx)] at hq ⊢
            exact hq, ops[x], Array.getElem?_eq_getElem hx, fun e1 h1 h2 => by
              obtain ⟨h3, h4⟩ := W.eb x _ (Array.getElem?_eq_getElem hx) e1 h1 h2
              exact hs1 _ (W.before e h3 h4)⟩
          rw [h] at this; cases this
      intro i hi
      rcases List.mem_cons.1 hi with rfl | hi
      · exact hxl
      · refine ih (s1 ++ [x]) (by rw [e]; simp) (fun j hj => ?_) i hi
        rcases List.mem_append.1 hj with hj | hj
        · exact hs1 j hj
        · simp only [List.mem_singleton] at hj; subst hj; exact hxl
  exact fun i hi => key [] s rfl (fun _ h => by cases h) i (W.all i hi)
theorem DI.fin (W : WfD M.kd ops pm s) {E : List EntA} {s2 : List Nat} {pd : List EntA} {F : List AV} {H : AS} (d : DI M ops pm s F0 H0 g0 w0 K E s2 pd F H listed a w g) (h : Region.ready .any ops listed = []) : RelF g F a ∧ K F H := by
  have hall := d.all W h
  have h2 : s2 = [] := by
    rcases s2 with _ | ⟨x, r⟩
    · rfl
    · have hx : x < ops.size := W.lt x (by rw [d.sc]; simp)
      have h1 := d.dn x (hall x hx)
      have nd := W.nd
      rw [d.sc, List.nodup_append] at nd
      exact absurd rfl (nd.2.2 x h1 x List.mem_cons_self)
  subst h2
  have e : (E.filter fun e => listed.getD e.i false) = E := List.filter_eq_self.2 fun e he => hall _ (d.lt W he)
  have rf := d.rf
  rw [e, ← d.fF] at rf
  exact ⟨rf, d.rd⟩
/-- The last two the other way round. -/
theorem WfD.swap {kd : Op → Nat} {pre : List Nat} {i x : Nat} (W : WfD kd ops pm (pre ++ [x, i])) (hb : bit pm i x = false) (hx : ∃ o', ops[x]? = some o' ∧ kd o'.op = 3) : WfD kd ops pm (pre ++ [i, x]) := by
  have perm : ∀ q, q ∈ pre ++ [i, x] ↔ q ∈ pre ++ [x, i] := fun q => by simp [or_comm]
  have nd := W.nd
  rw [List.nodup_append] at nd
  obtain ⟨n1, n2, n3⟩ := nd
  have hne : x ≠ i := by simpa using n2
  have dec : ∀ (s1 : List Nat) (q : Nat) (s2 : List Nat), pre ++ [i, x] = s1 ++ q :: s2 → (∃ p2, pre = s1 ++ q :: p2 ∧ s2 = p2 ++ [i, x]) ∨ (s1 = pre ∧ q = i ∧ s2 = [x]) ∨ (s1 = pre ++ [i] ∧ q = x ∧ s2 = []) := fun s1 q s2 e => by
    rcases List.append_eq_append_iff.1 e with ⟨a, h1, h2⟩ | ⟨c, h1, h2⟩
    · rcases a with _ | ⟨y, a⟩
      · simp only [List.nil_append, List.append_nil] at h1 h2
        simp only [List.cons.injEq] at h2
        exact .inr (.inl ⟨h1, h2.1.symm, h2.2.symm⟩)
      · rcases a with _ | ⟨z, a⟩
        · simp only [List.cons_append, List.nil_append, List.cons.injEq] at h2
          exact .inr (.inr ⟨by rw [h1, h2.1], h2.2.1.symm, h2.2.2.symm⟩)
        · exfalso
          have := congrArg List.length h2
          simp at this
    · rcases c with _ | ⟨y, c⟩
      · simp only [List.nil_append, List.append_nil, List.cons.injEq] at h1 h2
        exact .inr (.inl ⟨h1.symm, h2.1, h2.2⟩)
      · simp only [List.cons_append, List.cons.injEq] at h2
        exact .inl ⟨c, by rw [h1, h2.1], h2.2⟩
  refine ⟨W.eb, List.nodup_append.2 ⟨n1, by simpa using hne.symm, fun a ha b hb => n3 a ha b (by simpa [or_comm] using hb)⟩, fun q hq => W.lt q ((perm q).1 hq), fun q hq => (perm q).2 (W.all q hq), W.ok, fun s1 q s2 e j hj hq => ?_, fun s1 q s2 e o ho hk t ht => ?_, W.cf⟩
  · rcases dec s1 q s2 e with ⟨p2, rfl, rfl⟩ | ⟨rfl, rfl, rfl⟩ | ⟨rfl, rfl, rfl⟩
    · exact W.tp s1 q (p2 ++ [x, i]) (by simp) j hj hq
    · have := W.tp (s1 ++ [x]) q [] (by simp) j hj hq
      rcases List.mem_append.1 this with h | h
      · exact h
      · simp only [List.mem_singleton] at h
        subst h; rw [hb] at hq; cases hq
    · exact List.mem_append_left _ (W.tp pre q [i] rfl j hj hq)
  · rcases dec s1 q s2 e with ⟨p2, rfl, rfl⟩ | ⟨rfl, rfl, rfl⟩ | ⟨rfl, rfl, rfl⟩
    · rcases W.wl s1 q (p2 ++ [x, i]) (by simp) o ho hk t (by simp at ht ⊢; rcases ht with h | h | h <;> simp [h]) with h | ⟨h, _⟩
      · exact .inl h
      · have := congrArg List.length h
        simp at this
    · simp only [List.mem_singleton] at ht
      subst ht
      exact .inr ⟨rfl, hx⟩
    · cases ht
theorem regD_main {Q : Exit → Act → World → Prop} (HQ : ∀ F' H' g' a' w', g0.le g' → RelF g' F' a' → RelH g' H' w' → TX g0 w0 g' w' → EX g0 H0 g' H' → K F' H' → Q .normal a' w') : ∀ (fuel : Nat) {s : List Nat} (_ : WfD M.kd ops pm s) {E : List EntA} {s2 : List Nat} {pd : List EntA} {F : List AV} {H : AS} {listed : Array Bool} {a : Act} {w : World} {g : Gh},
    DI M ops pm s F0 H0 g0 w0 K E s2 pd F H listed a w g → ((List.range ops.size).filter fun j => !listed.getD j false).length ≤ fuel → wpAny P .any ops Q fuel listed a w := by
  intro fuel
  have fin : ∀ {s : List Nat} (W : WfD M.kd ops pm s) {E : List EntA} {s2 : List Nat} {pd : List EntA} {F : List AV} {H : AS} {listed : Array Bool} {a : Act} {w : World} {g : Gh}, DI M ops pm s F0 H0 g0 w0 K E s2 pd F H listed a w g → Region.ready .any ops listed = [] → Q .normal a w := fun W => fun d h => by
    obtain ⟨h1, h2⟩ := d.fin W h
    exact HQ _ _ _ _ _ d.lg h1 d.rh d.tx d.ex h2
  induction fuel with
  | zero =>
    intro s W E s2 pd F H listed a w g d hn
    have hr : Region.ready .any ops listed = [] := by
      rcases hq : Region.ready .any ops listed with _ | ⟨x, r⟩
      · rfl
      · exfalso
        have hx : x ∈ Region.ready .any ops listed := by rw [hq]; exact List.mem_cons_self
        obtain ⟨h1, o, h2, _⟩ := mem_ready.1 hx
        have hlt := (Array.getElem?_eq_some_iff.1 h2).1
        have : x ∈ (List.range ops.size).filter fun j => !listed.getD j false := by
          rw [List.mem_filter]
          refine ⟨List.mem_range.2 hlt, ?_⟩
          rw [Array.getD_eq_getD_getElem?, Array.getElem?_eq_getElem (by rw [d.sz]; exact hlt)] at h1 ⊢
          simpa using h1
        rw [List.eq_nil_of_length_eq_zero (Nat.le_zero.1 hn)] at this
        cases this
    exact ⟨hr, fin W d hr⟩
  | succ fuel ih =>
    intro s W E0 s20 pd0 F00 H00 listed a w g d0 hn
    refine ⟨fin W d0, fun i hi => ?_⟩
    obtain ⟨hl0, o, ho, hr⟩ := mem_ready.1 hi
    have hlt := (Array.getElem?_eq_some_iff.1 ho).1
    have hl : listed.getD i false = false := by
      rw [Array.getD_eq_getD_getElem?, Array.getElem?_eq_getElem (by rw [d0.sz]; exact hlt)] at hl0 ⊢
      exact hl0
    obtain ⟨E, s2, pd, F, H, d, hs2⟩ := d0.absorb W
    have hsz : i < listed.size := by rw [d.sz]; exact hlt
    have hcnt := unl_lt hlt d.sz hl
    have dc' : Dcl ops (listed.setIfInBounds i true) := fun j oj hj hoj e h1 h2 => by
      rw [getDset _ _ _ hsz] at hj ⊢
      by_cases hji : j = i
      · subst hji
        rw [ho] at hoj
        obtain rfl := Option.some.inj hoj
        split
        · rfl
        · exact hr e h1 h2
      · rw [if_neg hji] at hj
        split
        · rfl
        · exact d.dc j oj hj hoj e h1 h2
    have un' : ∀ j, (listed.setIfInBounds i true).getD j false = false → listed.getD j false = false ∧ j ≠ i := fun j hj => by
      rw [getDset _ _ _ hsz] at hj
      split at hj
      · cases hj
      · exact ⟨hj, ‹_›⟩
    have hmem : i ∈ E.map (·.i) ++ s2 := by rw [← d.sc]; exact W.all i hlt
    unfold wpOp
    simp only [ho]
    rcases List.mem_append.1 hmem with hm | hm
    · -- one that has been reckoned
      obtain ⟨e, he, rfl⟩ := List.mem_map.1 hm
      obtain ⟨E1, E2, hE⟩ := List.append_of_mem he
      obtain ⟨lk, -⟩ := d.look W hE hl ho hr
      obtain ⟨hF, o', ho', hp⟩ := d.pe E1 e E2 hE hl
      rw [ho] at ho'
      obtain rfl := Option.some.inj ho'
      have hput := d.put W hE hl ho hr
      obtain ⟨ag, gd⟩ := agr_of (ops := ops) (o := o) (F := rep ops F0 (E.filter fun e => listed.getD e.i false)) (F' := e.F) (by rw [hF]; exact lk)
      have nd := W.nd
      rw [d.sp hE, List.nodup_append] at nd
      -- the rest of the state, behind it
      have step : ∀ (a' : Act) (w' : World) (g' : Gh), g.le g' → RelF g' (setF (rep ops F0 (E.filter fun e => listed.getD e.i false)) o.dst e.x) a' → RelH g' H w' → TX g w g' w' → EX g0 H0 g' H → (∀ q ∈ E, q.i ≠ e.i → listed.getD q.i false = false → nw M ops q = true → ∀ r, g'.s q.n r = g.s q.n r) →
          wpAny P .any ops Q fuel (listed.setIfInBounds e.i true) a' w' := fun a' w' g' q1 q2 q3 q4 q5 q6 => by
        refine ih W (E := E) (s2 := s2) (pd := pd) (F := F) (H := H) (g := g') ⟨by simpa using d.sz, d.sc, fun j hj => ?_, dc', d.fF, by rw [hput]; exact q2, q3, fun A q B hq hql => ?_, ?_, d.rd, fun q hq hql => d.pm' q hq (un' _ hql).1, d.lg.trans q1, d.tx.trans q4, q5⟩ (by omega)
        · rw [getDset _ _ _ hsz] at hj
          split at hj
          · subst_vars; exact List.mem_map_of_mem he
          · exact d.dn j hj
        · obtain ⟨h1, h2⟩ := un' _ hql
          exact (d.pe A q B hq h1).keep (fun _ _ h _ _ _ => h) fun hw => ⟨rfl, q6 q (by rw [hq]; simp) h2 h1 hw⟩
        · exact d.ap.imp fun h h1 h2 => h (un' _ h1).1 (un' _ h2).1
      rcases hp with ⟨hw1, hg1, hx1⟩ | ⟨hw1, hg1, hp⟩
      · have hwn := gdA_ok (gd.trans hg1) d.rf
        rw [if_neg (by rw [hwn]; simp)]
        exact step _ _ g .rfl (d.rf.setF (by rw [hx1, V])) d.rh .rfl d.ex fun _ _ _ _ _ _ => rfl
      · have hwn := gdA_ok (gd.trans hg1) d.rf
        rw [if_pos hwn]
        refine .inl ?_
        rcases hp with ⟨k2, k3, hv⟩ | ⟨k2, hN, hs, r, hnew, hx, hH⟩
        · rw [← M.val_congr ag] at hv
          refine M.st_ok (K := fun y H' => y = e.x ∧ H' = H) (M.val_st hv ⟨rfl, rfl⟩) d.rf d.rh fun y H' g' w' v q1 q2 q3 q4 q5 ⟨q6, q7⟩ => ?_
          subst q6 q7
          refine step _ _ g' q1 ((d.rf.mono q1).setF q3) q2 q4 (d.ex.trans q5) fun q hq hne hql hnw rr => ?_
          obtain ⟨A, B, hAB⟩ := List.append_of_mem hq
          obtain ⟨_, oq, hoq, hpq⟩ := d.pe A q B hAB hql
          unfold nw at hnw
          rw [hoq] at hnw
          simp only [Bool.and_eq_true, beq_iff_eq] at hnw
          rcases hpq with ⟨z1, _⟩ | ⟨_, _, ⟨z1, _⟩ | ⟨_, _, _, r, z3, _, z4⟩⟩
          · rw [hnw.1] at z1; cases z1
          · exact absurd hnw.2 z1
          · obtain ⟨T, c, l, hf, z5⟩ := M.new_row z3
            rw [z5] at z4
            obtain ⟨l', live', e2, _, e4⟩ := q5.2 _ _ _ _ _ _ z4
            rw [z4] at e2
            simp only [Option.some.injEq, AO.row.injEq] at e2
            obtain ⟨-, -, rfl, -, -⟩ := e2
            exact e4 rfl rr
        · rw [← M.new_congr ag] at hnew
          obtain ⟨T, c, l, hf, v, cs, z1, z2, z3, z4, z5⟩ := M.new_ok (x := r.1) (mk := r.2) hnew d.rf w
          rw [z1] at hH
          obtain ⟨m1, m2, m3⟩ := d.rh.mat hH hs z3 z4
          have hval := z5 (g.put e.n l.length w.heap.size l.length) e.n (Gh.put_s _ _ _ _ _).1 (Gh.put_s _ _ _ _ _).2
          rw [← hx] at hval
          refine ops_val z2 (step _ _ _ m2 ((d.rf.mono m2).setF hval) m1 m3 ⟨d.ex.1, fun k T1 c1 l1 live1 hf1 h1 => ?_⟩ fun q hq hne hql hnw rr => ?_)
          · obtain ⟨l', live', h2, h3, h4⟩ := d.ex.2 k T1 c1 l1 live1 hf1 h1
            refine ⟨l', live', h2, h3, fun h5 r' => ?_⟩
            rw [← h4 h5 r']
            show (if _ then _ else _) = _
            rw [if_neg]
            rintro ⟨rfl, _⟩
            have := (List.getElem?_eq_some_iff.1 h1).1
            omega
          · show (if _ then _ else _) = _
            rw [if_neg]
            rintro ⟨hqn, _⟩
            have hnwe : nw M ops e = true := by unfold nw; rw [hw1, ho]; simp [k2]
            have hpw := d.ap
            rw [hE] at hpw hq
            rw [List.pairwise_append, List.pairwise_cons] at hpw
            rcases List.mem_append.1 hq with hq | hq
            · exact hpw.2.2 q hq e List.mem_cons_self hql hl hnw hnwe hqn
            · rcases List.mem_cons.1 hq with rfl | hq
              · exact hne rfl
              · exact hpw.2.1.1 q hq hl hql hnwe hnw hqn.symm
    · -- the next one that turns objects
      rcases hs2 with rfl | ⟨x, r, ox, rfl, hox, hgx, hkx⟩
      · cases hm
      obtain ⟨s', W', r', hs', hko, hgo, hst⟩ : ∃ (s' : List Nat) (_ : WfD M.kd ops pm s') (r' : List Nat), s' = E.map (·.i) ++ i :: r' ∧ M.kd o.op = 3 ∧ gdA ops F o = some true ∧ M.st o F H fun y H' => (H' = H ∨ ckLA M ops pm i H H' pd) ∧ regD M ops pm r' pd (setF F o.dst y) H' K := by
        have hrd := d.rd
        rw [regD, hox] at hrd
        simp only at hrd
        obtain ⟨b, hb, hrd⟩ := bo_iff hrd
        rw [hgx] at hb
        obtain rfl := Option.some.inj hb
        simp only [if_true, hkx] at hrd
        rcases List.mem_cons.1 hm with rfl | him
        · rw [ho] at hox
          obtain rfl := Option.some.inj hox
          exact ⟨s, W, r, d.sc, hkx, hgx, hrd.1⟩
        · have hx : x < ops.size := (Array.getElem?_eq_some_iff.1 hox).1
          have nd := W.nd
          rw [d.sc, List.nodup_append] at nd
          have hnb : bit pm i x = false := by
            cases hb : bit pm i x with
            | false => rfl
            | true =>
              have hxl := pre_listed W.ok d.dc i i o x (Nat.le_refl _) hx ho hr hb
              exact absurd rfl (nd.2.2 x (d.dn x hxl) x List.mem_cons_self)
          rcases W.wl _ x r d.sc ox hox hkx i him with hb | ⟨rfl, o', ho', hk'⟩
          · rw [hnb] at hb; cases hb
          · rw [ho] at ho'
            obtain rfl := Option.some.inj ho'
            have hsw := hrd.2
            unfold swp at hsw
            simp only [hnb, Bool.false_eq_true, if_false, ho] at hsw
            obtain ⟨b, hb, rfl, hst⟩ := bo_iff hsw
            have W' : WfD M.kd ops pm (E.map (·.i) ++ [i, x]) := by
              have := W
              rw [d.sc] at this
              exact this.swap hnb ⟨ox, hox, hkx⟩
            refine ⟨_, W', [x], rfl, hk', hb, M.st_mono hst fun y H1 ⟨h1, h2⟩ => ⟨h1, ?_⟩⟩
            obtain ⟨b2, hb2, rfl, hst2⟩ := bo_iff h2
            rw [regD, hox]
            simp only [hb2, bo_some, if_true, hkx]
            exact ⟨M.st_mono hst2 fun z H2 ⟨h3, h4⟩ => ⟨h3, h4⟩, trivial⟩
      have nd := W'.nd
      rw [hs', List.nodup_append] at nd
      have hdst : dstO ops i = o.dst := by unfold dstO; rw [ho]; rfl
      have niE : ∀ q ∈ E, q.i ≠ i := fun q hq e => nd.2.2 q.i (List.mem_map_of_mem hq) i List.mem_cons_self e
      obtain ⟨ag, gd⟩ := agr_of (ops := ops) (o := o) (F := rep ops F0 (E.filter fun e => listed.getD e.i false)) (F' := F) (fun dd hd => by
        rw [d.fF]
        refine rep_eq ops dd F0 ?_
        rw [List.filter_filter]
        refine List.filter_congr fun q hq => ?_
        cases hqd : (dstO ops q.i == some dd) with
        | false => rfl
        | true =>
          have hqlt : q.i < ops.size := d.lt W hq
          have hc : cnf ops i q.i = true := by
            unfold cnf
            rw [beq_iff_eq.1 hqd, ho]
            simp [hd]
          have hql : listed.getD q.i false = true := by
            rcases W'.cf i q.i hlt hqlt (fun e => niE q hq e.symm) hc with hb | hb
            · exact pre_listed W'.ok d.dc i i o q.i (Nat.le_refl _) hqlt ho hr hb
            · exfalso
              obtain ⟨A, B, hAB⟩ := List.append_of_mem hq
              exact W'.not2 (s1 := A.map (·.i)) (s3 := B.map (·.i) ++ i :: r') (by rw [hs', hAB]; simp) (by simp) hb
          rw [hql]; rfl)
      rw [if_pos (gdA_ok (gd.trans hgo) d.rf)]
      rw [← M.st_congr ag] at hst
      refine .inl (M.st_ok hst d.rf d.rh fun y H' g' w' v q1 q2 q3 q4 q5 ⟨q6, q7⟩ => ?_)
      refine ih W' (E := E ++ [⟨i, F, y, 0, true⟩]) (s2 := r') (pd := pd) (F := setF F o.dst y) (H := H') (g := g') ⟨by simpa using d.sz, by rw [hs']; simp, fun j hj => ?_, dc', ?_, ?_, q2, fun A e B he hel => ?_, ?_, q7, fun e he hel => ?_, d.lg.trans q1, d.tx.trans q4, d.ex.trans q5⟩ (by omega)
      · rw [getDset _ _ _ hsz] at hj
        rw [List.map_append]
        split at hj
        · subst_vars; exact List.mem_append_right _ (by simp)
        · exact List.mem_append_left _ (d.dn j hj)
      · rw [rep_app, ← d.fF]
        show _ = setF F (dstO ops i) y
        rw [hdst]
      · have e1 : ((E ++ [⟨i, F, y, 0, true⟩] : List EntA).filter fun e => (listed.setIfInBounds i true).getD e.i false) = (E.filter fun e => listed.getD e.i false) ++ [⟨i, F, y, 0, true⟩] := by
          rw [List.filter_append, List.filter_cons_of_pos (by simp only; rw [getDset _ _ _ hsz, if_pos rfl]), List.filter_nil]
          congr 1
          exact List.filter_congr fun q hq => by rw [getDset _ _ _ hsz, if_neg (niE q hq)]
        rw [e1, rep_app]
        show RelF g' (setF _ (dstO ops i) y) _
        rw [hdst]
        exact (d.rf.mono q1).setF q3
      · obtain ⟨h1, h2⟩ := un' _ hel
        rcases snoc_split he with ⟨E3, h3, h4⟩ | ⟨h3, h4, h5⟩
        · have heE : e ∈ E := by rw [h3]; simp
          have hpd := d.pm' e heE h1
          have helt : e.i < ops.size := d.lt W heE
          have hbit : bit pm i e.i = false := by
            cases hq : bit pm i e.i with
            | false => rfl
            | true => rw [pre_listed W.ok d.dc i i o e.i (Nat.le_refl _) helt ho hr hq] at h1; cases h1
          have hp := d.pe A e E3 h3 h1
          refine hp.keep (fun oe hoe hv k2 k3 hwt => ?_) fun hnw => ?_
          · rcases q6 with rfl | q6
            · exact hv
            have hck := ckL_ok q6 e hpd hwt hbit
            unfold ck1 at hck
            rw [hoe] at hck
            by_cases k0 : M.kd oe.op = 0
            · rw [← M.val_pure k0]; exact hv
            · have k1 : M.kd oe.op = 1 := by have := M.kd_le oe.op; omega
              simp only at hck
              rw [k1] at hck
              exact hck
          · obtain ⟨_, oe, hoe, hpq⟩ := hp
            have hnw2 := hnw
            unfold nw at hnw2
            rw [hoe] at hnw2
            simp only [Bool.and_eq_true, beq_iff_eq] at hnw2
            have hck : H'[e.n]? = H[e.n]? := by
              rcases q6 with rfl | q6
              · rfl
              have hck := ckL_ok q6 e hpd hnw2.1 hbit
              unfold ck1 at hck
              rw [hoe] at hck
              simp only at hck
              rw [hnw2.2] at hck
              exact hck
            refine ⟨hck, fun rr => ?_⟩
            rcases hpq with ⟨z1, _⟩ | ⟨_, _, ⟨z1, _⟩ | ⟨_, _, _, r0, z3, _, z4⟩⟩
            · rw [hnw2.1] at z1; cases z1
            · exact absurd hnw2.2 z1
            · obtain ⟨T, c, l, hf, z5⟩ := M.new_row z3
              rw [z5] at z4
              obtain ⟨l', live', e2, _, e4⟩ := q5.2 _ _ _ _ _ _ z4
              rw [hck, z4] at e2
              simp only [Option.some.injEq, AO.row.injEq] at e2
              obtain ⟨-, -, rfl, -, -⟩ := e2
              exact e4 rfl rr
        · subst h4; exact absurd rfl h2
      · rw [List.pairwise_append]
        refine ⟨d.ap.imp fun h h1 h2 => h (un' _ h1).1 (un' _ h2).1, List.pairwise_singleton _ _, fun e he e' he' h1 h2 h3 h4 => ?_⟩
        simp only [List.mem_singleton] at he'
        subst he'
        unfold nw at h4
        simp only [ho, hko] at h4
        simp at h4
      · obtain ⟨h1, h2⟩ := un' _ hel
        rcases List.mem_append.1 he with he | he
        · exact d.pm' e he h1
        · simp only [List.mem_singleton] at he
          subst he; exact absurd rfl h2
/-- A region whose order is drawn. -/
theorem regD_ok (hw : wfD M.kd ops pm s = true) {Q : Exit → Act → World → Prop} (h : regD M ops pm s [] F0 H0 K) (f : RelF g F0 a) (R : RelH g H0 w) (HQ : ∀ F' H' g' a' w', g.le g' → RelF g' F' a' → RelH g' H' w' → TX g w g' w' → EX g H0 g' H' → K F' H' → Q .normal a' w') : wpAny P .any ops Q ops.size (Array.replicate ops.size false) a { w with drawn := w.drawn + 1 } := by
  have W := wfD_ok hw
  have R' : RelH g H0 { w with drawn := w.drawn + 1 } := R.below (Below.refl _ _).drew
  have T0 : TX g w g { w with drawn := w.drawn + 1 } := ⟨(Tu.refl _ _).drew, fun _ h => .inl h, fun _ => .inl rfl⟩
  have ini : ∀ j, (Array.replicate ops.size false).getD j false = false := fun j => by
    rw [Array.getD_eq_getD_getElem?, Array.getElem?_replicate]
    split <;> rfl
  refine regD_main (g0 := g) (w0 := w) (H0 := H0) (F0 := F0) HQ ops.size W (E := []) (s2 := s) (pd := []) (F := F0) (H := H0) (g := g) ⟨by simp, rfl, fun i hi => absurd (ini i ▸ hi) Bool.false_ne_true, fun i o hi => absurd (ini i ▸ hi) Bool.false_ne_true, rfl, f, R', fun E1 e E2 he => by simp at he, List.Pairwise.nil, h, (fun e he => by cases he), .rfl, T0, .rfl⟩ ?_
  exact Nat.le_trans (List.length_filter_le _ _) (by simp)
end
end Go.Proofs.YtlgdojkmbfbnjaaGreatDoor

namespace Go.Proofs.YtlgdojkmbfbnjaaGreatDoor
open Go.RowKit

/-- Slots outside D stay. -/
def agr' (D : List Nat) (a a' : Act) : Prop := a'.tmps.size = a.tmps.size ∧ ∀ i, i ∉ D → a'.tmps[i]? = a.tmps[i]?
theorem agr'.rfl {D : List Nat} {a : Act} : agr' D a a := ⟨Eq.refl _, fun _ _ => Eq.refl _⟩
theorem agr'.trans {D : List Nat} {a b c : Act} (h : agr' D a b) (k : agr' D b c) : agr' D a c := ⟨k.1.trans h.1, fun i hi => (k.2 i hi).trans (h.2 i hi)⟩
theorem agr'.mono {D D' : List Nat} {a b : Act} (h : agr' D a b) (k : ∀ i ∈ D, i ∈ D') : agr' D' a b := ⟨h.1, fun i hi => h.2 i fun q => hi (k i q)⟩
theorem agr'.put {D : List Nat} {a b : Act} (h : agr' D a b) {d : Option Tmp} (hd : ∀ i, d = some i → i ∈ D) (v : Value) (ds : List Deferred) : agr' D a ({ b with defers := ds }.put d v) := by
  cases d with
  | none => exact h
  | some d =>
    refine ⟨by simp [Act.put, h.1], fun i hi => ?_⟩
    simp only [Act.put]
    rw [Array.getElem?_setIfInBounds_ne fun e => hi (hd i (by rw [e]))]
    exact h.2 i hi
section
variable {P : Program} {ops : Array Oper} {D : List Nat} {a0 : Act} {Q Q' : Exit → Act → World → Prop}
theorem op_agr {o : Oper} {a : Act} {w : World} {K K' : Act → World → Prop} (ha : agr' D a0 a) (hd : ∀ i, o.dst = some i → i ∈ D) (hk : ∀ a' w', agr' D a0 a' → K a' w' → K' a' w') (hq : ∀ e a' w', e ≠ .normal → Q e a' w' → Q' e a' w')
    (h : o.wp P a w K Q) : o.wp P a w K' Q' := by
  unfold Oper.wp at h ⊢
  have hp := fun v => ha.put hd v a.defers
  generalize (execOp a.eval o).run P w = r at h ⊢
  cases r with
  | ok n w' =>
    cases n <;> simp only [Oper.upon] at h ⊢
    case value v => exact hk _ _ (hp _) h
    case skip => exact hk _ _ (hp _) h
    case defer d => exact hk _ _ (ha.put hd _ _) h
    case enter f args =>
      refine Calls.mono h fun e w'' he => ?_
      cases e with
      | returned v => exact hk _ _ (hp _) he
      | panicked c => exact hq _ _ _ (by simp) he
      | outgrown => exact he.imp fun _ => Exists.imp fun _ => hq _ _ _ (by simp)
    case row => exact h.mono fun _ _ he => hk _ _ (hp _) he
  | halt x w' => cases x <;> simp only [Oper.upon] at h ⊢; exact hq _ _ _ (by simp) h
theorem wpList_agr (hq : ∀ e a' w', e ≠ .normal → Q e a' w' → Q' e a' w') (hn : ∀ a' w', agr' D a0 a' → Q .normal a' w' → Q' .normal a' w') : ∀ {l : List Oper} {a : Act} {w : World}, (∀ o ∈ l, ∀ i, o.dst = some i → i ∈ D) → agr' D a0 a → wpList P ops Q l a w → wpList P ops Q' l a w
  | [], a, w, hd, ha, h => hn _ _ ha h
  | o :: l, a, w, hd, ha, h => by
    rw [wpList] at h ⊢
    have hd' : ∀ o ∈ l, ∀ i, o.dst = some i → i ∈ D := fun o ho => hd o (List.mem_cons_of_mem _ ho)
    split at h
    · rename_i hw
      rw [if_pos hw]
      exact h.imp (op_agr ha (hd o List.mem_cons_self) (fun a' w' q k => wpList_agr hq hn hd' q k) hq) fun ⟨h1, a1, w1, h2⟩ => ⟨h1, a1, w1, hq _ _ _ (by simp) h2⟩
    · rename_i hw
      rw [if_neg hw]
      exact wpList_agr hq hn hd' (ha.put (hd o List.mem_cons_self) _ a.defers) h
theorem wpAny_agr (hq : ∀ e a' w', e ≠ .normal → Q e a' w' → Q' e a' w') (hn : ∀ a' w', agr' D a0 a' → Q .normal a' w' → Q' .normal a' w') (hd : ∀ (i : Nat) o, ops[i]? = some o → ∀ d, o.dst = some d → d ∈ D) : ∀ {n : Nat} {listed : Array Bool} {a : Act} {w : World}, agr' D a0 a → wpAny P .any ops Q n listed a w → wpAny P .any ops Q' n listed a w
  | 0, listed, a, w, ha, h => ⟨h.1, hn _ _ ha h.2⟩
  | n + 1, listed, a, w, ha, h => by
    refine ⟨fun e => hn _ _ ha (h.1 e), fun i hi => ?_⟩
    have h := h.2 i hi
    unfold wpOp at h ⊢
    split at h
    · exact wpAny_agr hq hn hd ha h
    · rename_i o ho
      split at h
      · rename_i hw
        rw [if_pos hw]
        exact h.imp (op_agr ha (hd i o ho) (fun a' w' q k => wpAny_agr hq hn hd q k) hq) fun ⟨h1, a1, w1, h2⟩ => ⟨h1, a1, w1, hq _ _ _ (by simp) h2⟩
      · rename_i hw
        rw [if_neg hw]
        exact wpAny_agr hq hn hd (ha.put (hd i o ho) _ a.defers) h
end
def dsts (ops : Array Oper) : List Nat := ops.toList.filterMap (·.dst)
theorem dsts_ok {ops : Array Oper} : ∀ o ∈ ops.toList, ∀ i, o.dst = some i → i ∈ dsts ops := fun o ho _ hi => List.mem_filterMap.2 ⟨o, ho, hi⟩
/-- What the code writes. -/
def wrt : Code → List Nat
  | .region _ ops _ => dsts ops
  | .seq a b => wrt a ++ wrt b
  | .cond _ a b => wrt a ++ wrt b
  | .block _ b => wrt b
  | .loop b => wrt b
  | .scope b => wrt b
  | _ => []
end Go.Proofs.YtlgdojkmbfbnjaaGreatDoor

namespace Go.Proofs.YtlgdojkmbfbnjaaGreatDoor
open Go.RowKit

/-- y says no more than x. -/
def wk (x y : AV) : Prop := ∀ g v, V x g v → V y g v
mutual
/-- The same, by form. -/
def wks : AV → AV → Prop
  | .ag l, y => y = .top ∨ ∃ m, y = .ag m ∧ wkL l m
  | .tu l, y => y = .top ∨ ∃ m, y = .tu m ∧ wkL l m
  | .im c l, y => y = .top ∨ ∃ m, y = .im c m ∧ wkL l m
  | .vl v, y => y = .vl v ∨ y = .top ∨ (v = .slice none 0 0 ∧ ((∃ c, y = .im c []) ∨ ∃ c k, y = .rf c k 0 0 0))
  | .top, y => y = .top
  | .rf c k r off n, y => y = .rf c k r off n ∨ y = .top
  | .pt c k r i j, y => y = .pt c k r i j ∨ y = .top
  | .pi e j, y => y = .pi e j ∨ y = .top
  | .fn f l, y => y = .fn f l ∨ y = .top
  | .fb f l, y => y = .fb f l ∨ y = .top
  | .rl c k r off n, y => y = .rl c k r off n ∨ y = .top
  | .mr k, y => y = .mr k ∨ y = .top
  | .it k, y => y = .it k ∨ y = .top
def wkL : List AV → List AV → Prop
  | [], m => m = []
  | x :: l, m => ∃ y r, m = y :: r ∧ wks x y ∧ wkL l r
end
theorem wkL_nn : wkL [] [] = True := by simp [wkL]
theorem wkL_cc {x y : AV} {l m : List AV} : wkL (x :: l) (y :: m) = (wks x y ∧ wkL l m) := by
  rw [wkL]
  apply propext
  exact ⟨fun ⟨_, _, e, h⟩ => by cases e; exact h, fun h => ⟨_, _, Eq.refl _, h⟩⟩
theorem wk.rfl {x : AV} : wk x x := fun _ _ h => h
theorem wk.trans {x y z : AV} (a : wk x y) (b : wk y z) : wk x z := fun g v h => b g v (a g v h)
mutual
theorem wks.rfl : ∀ {x : AV}, wks x x
  | .ag l => by rw [wks]; exact .inr ⟨l, Eq.refl _, wkL.rfl⟩
  | .tu l => by rw [wks]; exact .inr ⟨l, Eq.refl _, wkL.rfl⟩
  | .im c l => by rw [wks]; exact .inr ⟨l, Eq.refl _, wkL.rfl⟩
  | .vl v => by rw [wks]; exact .inl (Eq.refl _)
  | .top => by rw [wks]
  | .rf .. => by rw [wks]; exact .inl (Eq.refl _)
  | .pt .. => by rw [wks]; exact .inl (Eq.refl _)
  | .pi .. => by rw [wks]; exact .inl (Eq.refl _)
  | .fn .. => by rw [wks]; exact .inl (Eq.refl _)
  | .fb .. => by rw [wks]; exact .inl (Eq.refl _)
  | .rl .. => by rw [wks]; exact .inl (Eq.refl _)
  | .mr .. => by rw [wks]; exact .inl (Eq.refl _)
  | .it .. => by rw [wks]; exact .inl (Eq.refl _)
theorem wkL.rfl : ∀ {l : List AV}, wkL l l
  | [] => by rw [wkL]
  | x :: l => by rw [wkL]; exact ⟨x, l, Eq.refl _, wks.rfl, wkL.rfl⟩
end
theorem wkL.len : ∀ {l m : List AV}, wkL l m → l.length = m.length
  | [], m, h => by rw [wkL] at h; rw [h]
  | x :: l, m, h => by rw [wkL] at h; obtain ⟨y, r, rfl, _, h⟩ := h; rw [List.length_cons, List.length_cons, wkL.len h]
mutual
theorem wks.wk : ∀ {x y : AV}, wks x y → wk x y
  | .ag l, y, h => by
    rw [wks] at h
    rcases h with rfl | ⟨m, rfl, h⟩
    · exact fun _ _ _ => by rw [V]; trivial
    · exact fun g v q => by rw [V] at q ⊢; obtain ⟨vs, e, s⟩ := q; exact ⟨vs, e, h.vs s⟩
  | .tu l, y, h => by
    rw [wks] at h
    rcases h with rfl | ⟨m, rfl, h⟩
    · exact fun _ _ _ => by rw [V]; trivial
    · exact fun g v q => by rw [V] at q ⊢; obtain ⟨vs, e, s⟩ := q; exact ⟨vs, e, h.vs s⟩
  | .im c l, y, h => by
    rw [wks] at h
    rcases h with rfl | ⟨m, rfl, h⟩
    · exact fun _ _ _ => by rw [V]; trivial
    · exact fun g v q => by rw [V] at q ⊢; obtain ⟨cs, ⟨a, cap, e, hl⟩, s, t⟩ := q; rw [h.len] at e hl s; exact ⟨cs, ⟨a, cap, e, hl⟩, s, h.vc t⟩
  | .vl u, y, h => by
    rw [wks] at h
    rcases h with rfl | rfl | ⟨rfl, ⟨c, rfl⟩ | ⟨c, k, rfl⟩⟩
    · exact .rfl
    · exact fun _ _ _ => by rw [V]; trivial
    · intro g v q
      simp only [V] at q ⊢
      subst q
      exact ⟨[], ⟨none, 0, rfl, Nat.le_refl _⟩, by simpa using Sl.nil g.h c none 0, by rw [Vc]⟩
    · intro g v q
      simp only [V] at q ⊢
      exact .inl ⟨trivial, trivial, trivial, q⟩
  | .top, y, h => by rw [wks] at h; subst h; exact .rfl
  | .rf .., y, h => by
    rw [wks] at h
    rcases h with rfl | rfl
    · exact .rfl
    · exact fun _ _ _ => by rw [V]; trivial
  | .pt .., y, h => by
    rw [wks] at h
    rcases h with rfl | rfl
    · exact .rfl
    · exact fun _ _ _ => by rw [V]; trivial
  | .pi .., y, h => by
    rw [wks] at h
    rcases h with rfl | rfl
    · exact .rfl
    · exact fun _ _ _ => by rw [V]; trivial
  | .fn .., y, h => by
    rw [wks] at h
    rcases h with rfl | rfl
    · exact .rfl
    · exact fun _ _ _ => by rw [V]; trivial
  | .fb .., y, h => by
    rw [wks] at h
    rcases h with rfl | rfl
    · exact .rfl
    · exact fun _ _ _ => by rw [V]; trivial
  | .rl .., y, h => by
    rw [wks] at h
    rcases h with rfl | rfl
    · exact .rfl
    · exact fun _ _ _ => by rw [V]; trivial
  | .mr .., y, h => by
    rw [wks] at h
    rcases h with rfl | rfl
    · exact .rfl
    · exact fun _ _ _ => by rw [V]; trivial
  | .it .., y, h => by
    rw [wks] at h
    rcases h with rfl | rfl
    · exact .rfl
    · exact fun _ _ _ => by rw [V]; trivial
theorem wkL.vs : ∀ {l m : List AV}, wkL l m → ∀ {g : Gh} {vs : List Value}, Vs l g vs → Vs m g vs
  | [], m, h, g, vs, q => by rw [wkL] at h; subst h; exact q
  | x :: l, m, h, g, vs, q => by
    rw [wkL] at h
    obtain ⟨y, r, rfl, h1, h2⟩ := h
    rw [Vs] at q ⊢
    obtain ⟨v, r, e, a, b⟩ := q
    exact ⟨v, r, e, wks.wk h1 g v a, wkL.vs h2 b⟩
theorem wkL.vc : ∀ {l m : List AV}, wkL l m → ∀ {c : Nat} {g : Gh} {cs : List Value}, Vc c l g cs → Vc c m g cs
  | [], m, h, c, g, vs, q => by rw [wkL] at h; subst h; exact q
  | x :: l, m, h, c, g, vs, q => by
    rw [wkL] at h
    obtain ⟨y, r, rfl, h1, h2⟩ := h
    rw [Vc] at q ⊢
    obtain ⟨v, r, e, z, a, b⟩ := q
    exact ⟨v, r, e, z, wks.wk h1 g v a, wkL.vc h2 b⟩
end
theorem wkL.at : ∀ {l m : List AV}, wkL l m → ∀ (i : Nat) x y, l[i]? = some x → m[i]? = some y → Go.Proofs.YtlgdojkmbfbnjaaGreatDoor.wk x y
  | [], m, h, i, x, y, h1, h2 => by simp at h1
  | a :: l, m, h, i, x, y, h1, h2 => by
    rw [wkL] at h
    obtain ⟨b, r, rfl, h3, h4⟩ := h
    cases i with
    | zero => simp at h1 h2; subst h1 h2; exact h3.wk
    | succ i => exact h4.at i x y (by simpa using h1) (by simpa using h2)
/-- The same of objects; new ones without elements may come. -/
def wkH : AS → AS → Prop
  | .row T c l live hf :: H, .row T' c' l' live' hf' :: H' => T' = T ∧ c' = c ∧ live' = live ∧ hf' = hf ∧ wkL l l' ∧ wkH H H'
  | .no :: H, .no :: H' => wkH H H'
  | .mp es :: H, .mp es' :: H' => es' = es ∧ wkH H H'
  | .ir m n c :: H, .ir m' n' c' :: H' => m' = m ∧ n' = n ∧ c' = c ∧ wkH H H'
  | [], .row _ _ [] true _ :: H' => wkH [] H'
  | [], [] => True
  | _, _ => False
theorem wkL.refl' (l : List AV) : wkL l l := .rfl
theorem wkH.rfl : ∀ {H : AS}, wkH H H
  | [] => trivial
  | .no :: H => wkH.rfl (H := H)
  | .row .. :: _ => ⟨Eq.refl _, Eq.refl _, Eq.refl _, Eq.refl _, .rfl, wkH.rfl⟩
  | .mp _ :: _ => ⟨Eq.refl _, wkH.rfl⟩
  | .ir .. :: _ => ⟨Eq.refl _, Eq.refl _, Eq.refl _, wkH.rfl⟩
theorem wkH.at : ∀ {H H' : AS}, wkH H H' → H.length ≤ H'.length ∧ (∀ (k : Nat) T c l' live hf, H'[k]? = some (.row T c l' live hf) → (∃ l, H[k]? = some (.row T c l live hf) ∧ wkL l l') ∨ (H.length ≤ k ∧ l' = [])) ∧ ∀ (k : Nat) T c l live hf, H[k]? = some (.row T c l live hf) → ∃ l', H'[k]? = some (.row T c l' live hf) ∧ wkL l l'
  | [], [], _ => ⟨Nat.le_refl _, fun k _ _ _ _ _ h => by simp at h, fun k _ _ _ _ _ h => by simp at h⟩
  | .row T c l live hf :: H, .row T' c' l' live' hf' :: H', ⟨e1, e2, e3, e4, e5, h⟩ => by
    subst e1 e2 e3 e4
    obtain ⟨h1, h2, h3⟩ := wkH.at h
    refine ⟨by simp only [List.length_cons]; omega, fun k T1 c1 l1 v1 f1 e => ?_, fun k T1 c1 l1 v1 f1 e => ?_⟩
    · cases k with
      | zero =>
        simp at e
        obtain ⟨rfl, rfl, rfl, rfl, rfl⟩ := e
        exact .inl ⟨l, by simp, e5⟩
      | succ k =>
        rcases h2 k T1 c1 l1 v1 f1 (by simpa using e) with ⟨l2, p, q⟩ | ⟨p, q⟩
        · exact .inl ⟨l2, by simpa using p, q⟩
        · exact .inr ⟨by simp only [List.length_cons]; omega, q⟩
    · cases k with
      | zero =>
        simp at e
        obtain ⟨rfl, rfl, rfl, rfl, rfl⟩ := e
        exact ⟨l', by simp, e5⟩
      | succ k => simpa using h3 k T1 c1 l1 v1 f1 (by simpa using e)
  | .no :: H, .no :: H', h => by
    obtain ⟨h1, h2, h3⟩ := wkH.at (H := H) (H' := H') h
    refine ⟨by simp only [List.length_cons]; omega, fun k T1 c1 l1 v1 f1 e => ?_, fun k T1 c1 l1 v1 f1 e => ?_⟩
    · cases k with
      | zero => simp at e
      | succ k =>
        rcases h2 k T1 c1 l1 v1 f1 (by simpa using e) with ⟨l2, p, q⟩ | ⟨p, q⟩
        · exact .inl ⟨l2, by simpa using p, q⟩
        · exact .inr ⟨by simp only [List.length_cons]; omega, q⟩
    · cases k with
      | zero => simp at e
      | succ k => simpa using h3 k T1 c1 l1 v1 f1 (by simpa using e)
  | .mp es :: H, .mp es' :: H', ⟨_, h⟩ => by
    obtain ⟨h1, h2, h3⟩ := wkH.at (H := H) (H' := H') h
    refine ⟨by simp only [List.length_cons]; omega, fun k T1 c1 l1 v1 f1 e => ?_, fun k T1 c1 l1 v1 f1 e => ?_⟩
    · cases k with
      | zero => simp at e
      | succ k =>
        rcases h2 k T1 c1 l1 v1 f1 (by simpa using e) with ⟨l2, p, q⟩ | ⟨p, q⟩
        · exact .inl ⟨l2, by simpa using p, q⟩
        · exact .inr ⟨by simp only [List.length_cons]; omega, q⟩
    · cases k with
      | zero => simp at e
      | succ k => simpa using h3 k T1 c1 l1 v1 f1 (by simpa using e)
  | .ir m n c :: H, .ir m' n' c' :: H', ⟨_, _, _, h⟩ => by
    obtain ⟨h1, h2, h3⟩ := wkH.at (H := H) (H' := H') h
    refine ⟨by simp only [List.length_cons]; omega, fun k T1 c1 l1 v1 f1 e => ?_, fun k T1 c1 l1 v1 f1 e => ?_⟩
    · cases k with
      | zero => simp at e
      | succ k =>
        rcases h2 k T1 c1 l1 v1 f1 (by simpa using e) with ⟨l2, p, q⟩ | ⟨p, q⟩
        · exact .inl ⟨l2, by simpa using p, q⟩
        · exact .inr ⟨by simp only [List.length_cons]; omega, q⟩
    · cases k with
      | zero => simp at e
      | succ k => simpa using h3 k T1 c1 l1 v1 f1 (by simpa using e)
  | [], .row T c [] true hf :: H', h => by
    obtain ⟨h1, h2, h3⟩ := wkH.at (H := []) (H' := H') h
    refine ⟨by simp, fun k T1 c1 l1 v1 f1 e => ?_, fun k T1 c1 l1 v1 f1 e => by simp at e⟩
    cases k with
    | zero => simp at e; exact .inr ⟨by simp, by rw [← e.2.2.1]⟩
    | succ k =>
      rcases h2 k T1 c1 l1 v1 f1 (by simpa using e) with ⟨l2, p, q⟩ | ⟨p, q⟩
      · simp at p
      · exact .inr ⟨by simp, q⟩
  | [], .no :: _, h => h.elim
  | [], .mp _ :: _, h => h.elim
  | [], .ir .. :: _, h => h.elim
  | .mp _ :: _, [], h => h.elim
  | .mp _ :: _, .no :: _, h => h.elim
  | .mp _ :: _, .row .. :: _, h => h.elim
  | .mp _ :: _, .ir .. :: _, h => h.elim
  | .ir .. :: _, [], h => h.elim
  | .ir .. :: _, .no :: _, h => h.elim
  | .ir .. :: _, .row .. :: _, h => h.elim
  | .ir .. :: _, .mp _ :: _, h => h.elim
  | .no :: _, .mp _ :: _, h => h.elim
  | .no :: _, .ir .. :: _, h => h.elim
  | .row .. :: _, .mp _ :: _, h => h.elim
  | .row .. :: _, .ir .. :: _, h => h.elim
  | [], .row _ _ (_ :: _) _ _ :: _, h => by simp [wkH] at h
  | [], .row _ _ [] false _ :: _, h => by simp [wkH] at h
  | .no :: _, [], h => h.elim
  | .no :: _, .row .. :: _, h => h.elim
  | .row .. :: _, [], h => h.elim
  | .row .. :: _, .no :: _, h => h.elim
theorem wkH.atM : ∀ {H H' : AS}, wkH H H' → ∀ (k : Nat) o, H'[k]? = some o → isM o = true → H[k]? = some o
  | [], [], _, k, o, h, _ => by simp at h
  | a :: H, [], h, k, o, h1, _ => by simp at h1
  | [], .row T c [] true hf :: H', h, k, o, h1, hm => by
    cases k with
    | zero => simp at h1; subst h1; cases hm
    | succ k => have := wkH.atM (H := []) (H' := H') h k o (by simpa using h1) hm; simp at this
  | .row .. :: H, .row .. :: H', ⟨_, _, _, _, _, h⟩, k, o, h1, hm => by
    cases k with
    | zero => simp at h1; subst h1; cases hm
    | succ k => simpa using wkH.atM h k o (by simpa using h1) hm
  | .no :: H, .no :: H', h, k, o, h1, hm => by
    cases k with
    | zero => simp at h1; subst h1; cases hm
    | succ k => simpa using wkH.atM (H := H) (H' := H') h k o (by simpa using h1) hm
  | .mp es :: H, .mp es' :: H', ⟨e, h⟩, k, o, h1, hm => by
    cases k with
    | zero => simp at h1; subst h1 e; rfl
    | succ k => simpa using wkH.atM h k o (by simpa using h1) hm
  | .ir m n c :: H, .ir m' n' c' :: H', ⟨e1, e2, e3, h⟩, k, o, h1, hm => by
    cases k with
    | zero => simp at h1; subst h1 e1 e2 e3; rfl
    | succ k => simpa using wkH.atM h k o (by simpa using h1) hm
  | [], .row _ _ (_ :: _) _ _ :: _, h, _, _, _, _ => by simp [wkH] at h
  | [], .row _ _ [] false _ :: _, h, _, _, _, _ => by simp [wkH] at h
  | [], .no :: _, h, _, _, _, _ => h.elim
  | [], .mp _ :: _, h, _, _, _, _ => h.elim
  | [], .ir .. :: _, h, _, _, _, _ => h.elim
  | .mp _ :: _, .no :: _, h, _, _, _, _ => h.elim
  | .mp _ :: _, .row .. :: _, h, _, _, _, _ => h.elim
  | .mp _ :: _, .ir .. :: _, h, _, _, _, _ => h.elim
  | .ir .. :: _, .no :: _, h, _, _, _, _ => h.elim
  | .ir .. :: _, .row .. :: _, h, _, _, _, _ => h.elim
  | .ir .. :: _, .mp _ :: _, h, _, _, _, _ => h.elim
  | .no :: _, .mp _ :: _, h, _, _, _, _ => h.elim
  | .no :: _, .ir .. :: _, h, _, _, _, _ => h.elim
  | .no :: _, .row .. :: _, h, _, _, _, _ => h.elim
  | .row .. :: _, .mp _ :: _, h, _, _, _, _ => h.elim
  | .row .. :: _, .ir .. :: _, h, _, _, _, _ => h.elim
  | .row .. :: _, .no :: _, h, _, _, _, _ => h.elim
theorem RelH.wk {g : Gh} {H H' : AS} {w : World} (R : RelH g H w) (h : wkH H H') : RelH g H' w := by
  obtain ⟨h1, h2, h3⟩ := h.at
  refine ⟨R.im, fun k T c l live hf e b hb => ?_, fun k T c l live hf e r hr => ?_, R.inj, fun k r b e => ⟨Nat.lt_of_lt_of_le (R.lo k r b e).1 h1, (R.lo k r b e).2⟩, R.mbK .rfl fun k o e hm => ⟨h.atM k o e hm, fun b hb => ⟨hb, rfl, rfl⟩⟩⟩
  · rcases h2 k T c l live hf e with ⟨l0, p, q⟩ | ⟨p, rfl⟩
    · rw [← q.len] at hb
      obtain ⟨cs, q1, q2, q3, q4⟩ := R.ob k T c l0 live hf p b hb
      refine ⟨cs, q.vc q1, ?_, ?_, ?_⟩ <;> rw [← q.len] <;> assumption
    · have := (R.lo _ _ _ hb).1; omega
  · rcases h2 k T c l live hf e with ⟨l0, p, q⟩ | ⟨p, rfl⟩
    · rw [← q.len] at hr
      exact R.ver k T c l0 live hf p r hr
    · cases e2 : g.s k r with
      | none => rfl
      | some b => have := (R.lo _ _ _ e2).1; omega
theorem EX.wk {g : Gh} {H H' : AS} (h : wkH H H') : EX g H g H' := by
  obtain ⟨h1, h2, h3⟩ := h.at
  exact ⟨h1, fun k T c l live hf e => by
    obtain ⟨l', p, q⟩ := h3 k T c l live hf e
    exact ⟨l', live, p, Nat.le_of_eq q.len, fun _ _ => Eq.refl _⟩⟩
end Go.Proofs.YtlgdojkmbfbnjaaGreatDoor

namespace Go.Proofs.YtlgdojkmbfbnjaaGreatDoor
open Go.RowKit

def inB (id : Nat) (N : List AV → AS → Prop) (E : Exit → List AV → AS → Prop) : Exit → List AV → AS → Prop
  | .exit j, F, H => if j = id then N F H else E (.exit j) F H
  | e, F, H => E e F H
/-- The order in which a drawn region is reckoned: by number, unless said. -/
def lookS (sc : List (Nat × List Nat)) (id n : Nat) : List Nat := match sc.lookup id with
  | some l => l
  | none => List.range' 0 n
/-- What the code writes is not known. -/
def topC : Code → List AV → List AV
  | .region _ ops _, F => ops.toList.foldl (fun F o => setF F o.dst .top) F
  | .seq a b, F => topC b (topC a F)
  | .cond _ a b, F => topC b (topC a F)
  | .block _ b, F => topC b F
  | .loop b, F => topC b F
  | .scope b, F => topC b F
  | _, F => F
def putL : List AV → List Nat → List AV → List AV
  | F, s :: S, v :: vs => putL (F.set s v) S vs
  | F, _, _ => F
def lp (W : List AV → List AV) (B : List AV → AS → (List AV → AS → Prop) → Prop) (F : List AV) (H : AS) : Prop :=
  ∃ (S : List Nat) (I : Nat → List AV → AS → Prop) (H0 : AS), wkH H H0 ∧ (∃ n vs, wkL (S.map fun s => F.getD s .top) vs ∧ I n vs H0) ∧ ∀ n vs H1, H1.length = H0.length → I n vs H1 → B (putL (W F) S vs) H1 fun F' H' => ∃ m vs' H2, m < n ∧ wkL (S.map fun s => (F'.getD s .top).kill H0.length) vs' ∧ wkH (cutH H0.length H') H2 ∧ H2.length = (cutH H0.length H').length ∧ I m vs' H2
/-- Where ways meet: only these slots are told on, and only objects before M. -/
def jn (W : List AV → List AV) (F : List AV) (H : AS) (N : List AV → AS → Prop) (B : (List AV → AS → Prop) → Prop) : Prop :=
  ∃ (S : List Nat) (M : Nat) (I : List AV → AS → Prop), H.length ≤ M ∧ B (fun F' H' => ∃ vs H2, wkL (S.map fun s => (F'.getD s .top).kill M) vs ∧ wkH (cutH M H') H2 ∧ I vs H2) ∧ ∀ vs H2, I vs H2 → N (putL (W F) S vs) H2
/-- What is said ahead: orders of drawn regions; blocks and tests (by their slot) behind which ways meet. -/
structure Hn where
  sc : List (Nat × List Nat) := []
  jb : List Nat := []
  jc : List Nat := []
  jr : List Nat := []
def inJ (l : List Nat) : Operand → Bool
  | .tmp t => l.contains t
  | _ => false
def den (P : Program) (hfT : TypeId → Bool) (sc : Hn) : Code → List AV → AS → (List AV → AS → Prop) → (Exit → List AV → AS → Prop) → Prop
  | .skip, F, H, N, _ => N F H
  | .label _, F, H, N, _ => N F H
  | .region id ops d, F, H, N, _ => if sc.jr.contains id then jn (topC (.region id ops d)) F H N (fun N => if d then regD (mA P hfT) ops (preM ops) (lookS sc.sc id ops.size) [] F H N else regS P hfT ops ops.toList F H N) else if d then regD (mA P hfT) ops (preM ops) (lookS sc.sc id ops.size) [] F H N else regS P hfT ops ops.toList F H N
  | .seq a b, F, H, N, E => den P hfT sc a F H (fun F' H' => den P hfT sc b F' H' N E) E
  | .cond c a b, F, H, N, E => if inJ sc.jc c then jn (fun F => topC b (topC a F)) F H N (fun N => cd (evA F c) (den P hfT sc a F H N E) (den P hfT sc b F H N E)) else cd (evA F c) (den P hfT sc a F H N E) (den P hfT sc b F H N E)
  | .block id b, F, H, N, E => if sc.jb.contains id then jn (topC b) F H N (fun N => den P hfT sc b F H N (inB id N E)) else den P hfT sc b F H N (inB id N E)
  | .scope b, F, H, N, E => den P hfT sc b F H N E
  | .loop b, F, H, _, E => lp (topC b) (fun F H N => den P hfT sc b F H N E) F H
  | .exit id, F, H, _, E => E (.exit id) F H
  | .ret, F, H, _, E => E .ret F H
  | _, _, _, _, _ => False
def wfC (P : Program) (sc : Hn) : Code → Bool
  | .region id ops d => !d || wfD (kdA P) ops (preM ops) (lookS sc.sc id ops.size)
  | .seq a b => wfC P sc a && wfC P sc b
  | .cond _ a b => wfC P sc a && wfC P sc b
  | .block _ b => wfC P sc b
  | .loop b => wfC P sc b
  | .scope b => wfC P sc b
  | _ => true
structure Tr (D : List Nat) (g : Gh) (H : AS) (a : Act) (w : World) (F' : List AV) (g' : Gh) (H' : AS) (a' : Act) (w' : World) : Prop where
  le : g.le g'
  f : RelF g' F' a'
  r : RelH g' H' w'
  tx : TX g w g' w'
  ex : EX g H g' H'
  ag : agr' D a a'
theorem Tr.trans {D : List Nat} {g g1 g2 : Gh} {H H1 H2 : AS} {a a1 a2 : Act} {w w1 w2 : World} {F1 F2 : List AV} (x : Tr D g H a w F1 g1 H1 a1 w1) (y : Tr D g1 H1 a1 w1 F2 g2 H2 a2 w2) : Tr D g H a w F2 g2 H2 a2 w2 :=
  ⟨x.le.trans y.le, y.f, y.r, x.tx.trans y.tx, x.ex.trans y.ex, x.ag.trans y.ag⟩
theorem Tr.mono {D D' : List Nat} {g g1 : Gh} {H H1 : AS} {a a1 : Act} {w w1 : World} {F1 : List AV} (x : Tr D g H a w F1 g1 H1 a1 w1) (h : ∀ i ∈ D, i ∈ D') : Tr D' g H a w F1 g1 H1 a1 w1 := { x with ag := x.ag.mono h }
theorem RelF.set' {g : Gh} {F : List AV} {a : Act} (f : RelF g F a) {s : Nat} {x : AV} (h : V x g (a.tmps.getD s undef)) : RelF g (F.set s x) a :=
  ⟨f.gl, f.df, by rw [List.length_set]; exact f.sz, fun i y e => by
    by_cases hs : i = s
    · subst hs
      have hl : i < F.length := by simpa using (List.getElem?_eq_some_iff.1 e).1
      rw [List.getElem?_set_self hl] at e
      obtain rfl := Option.some.inj e
      exact h
    · rw [List.getElem?_set_ne fun q => hs q.symm] at e
      exact f.at' i y e⟩
theorem RelF.putL {g : Gh} {a : Act} : ∀ {S : List Nat} {vs F : List AV}, RelF g F a → (∀ (i : Nat) s v, S[i]? = some s → vs[i]? = some v → V v g (a.tmps.getD s undef)) → RelF g (putL F S vs) a
  | [], _, F, f, _ => by simpa only [Go.Proofs.YtlgdojkmbfbnjaaGreatDoor.putL] using f
  | s :: S, [], F, f, _ => by simpa only [Go.Proofs.YtlgdojkmbfbnjaaGreatDoor.putL] using f
  | s :: S, v :: vs, F, f, h => (f.set' (h 0 s v rfl rfl)).putL fun i s' v' h1 h2 => h (i + 1) s' v' h1 h2
def TopOf (W : List Nat) (F F' : List AV) : Prop := F'.length = F.length ∧ ∀ (i : Nat) x, F'[i]? = some x → x = .top ∨ (i ∉ W ∧ F[i]? = some x)
theorem TopOf.trans {W W' : List Nat} {F F1 F2 : List AV} (a : TopOf W F F1) (b : TopOf W' F1 F2) : TopOf (W ++ W') F F2 :=
  ⟨b.1.trans a.1, fun i x h => by
    rcases b.2 i x h with h | ⟨h1, h2⟩
    · exact .inl h
    · rcases a.2 i x h2 with h | ⟨h3, h4⟩
      · exact .inl h
      · exact .inr ⟨by simp [h1, h3], h4⟩⟩
theorem TopOf.rfl {F : List AV} : TopOf [] F F := ⟨Eq.refl _, fun i x h => .inr ⟨by simp, h⟩⟩
theorem TopOf.setF {F : List AV} (d : Option Tmp) : TopOf d.toList F (setF F d .top) := by
  cases d with
  | none => exact .rfl
  | some d =>
    refine ⟨by simp [Go.Proofs.YtlgdojkmbfbnjaaGreatDoor.setF], fun i x h => ?_⟩
    simp only [Go.Proofs.YtlgdojkmbfbnjaaGreatDoor.setF, List.getElem?_set] at h
    split at h
    · split at h
      · exact .inl (Option.some.inj h).symm
      · cases h
    · exact .inr ⟨by simp; omega, h⟩
theorem TopOf.fold : ∀ (ops : List Oper) (F : List AV), TopOf (ops.filterMap (·.dst)) F (ops.foldl (fun F o => Go.Proofs.YtlgdojkmbfbnjaaGreatDoor.setF F o.dst .top) F)
  | [], F => .rfl
  | o :: l, F => by
    have h := (TopOf.setF (F := F) o.dst).trans (TopOf.fold l _)
    rw [List.foldl_cons]
    have e : o.dst.toList ++ l.filterMap (·.dst) = (o :: l).filterMap (·.dst) := by
      cases q : o.dst <;> simp [q]
    rw [e] at h; exact h
theorem topC_ok : ∀ (c : Code) (F : List AV), TopOf (wrt c) F (topC c F)
  | .region _ _ _, _ => .fold _ _
  | .seq a b, F => (topC_ok a F).trans (topC_ok b _)
  | .cond _ a b, F => (topC_ok a F).trans (topC_ok b _)
  | .block _ b, F => topC_ok b F
  | .loop b, F => topC_ok b F
  | .scope b, F => topC_ok b F
  | .skip, _ => .rfl
  | .rangeFunc .., _ => .rfl
  | .exit _, _ => .rfl
  | .label _, _ => .rfl
  | .goto _, _ => .rfl
  | .ret, _ => .rfl
  | .refuse _, _ => .rfl
end Go.Proofs.YtlgdojkmbfbnjaaGreatDoor

namespace Go.Proofs.YtlgdojkmbfbnjaaGreatDoor
open Go.RowKit

theorem lp_head {W : List Nat} {F Ft : List AV} (t : TopOf W F Ft) {S : List Nat} {vs : List AV} {g g' : Gh} {a a' : Act} (f : RelF g F a) (q : g.le g') (df : a'.defers = []) (sz : a'.tmps.size = F.length) (ag : agr' W a a') (h : ∀ (i : Nat) s v, S[i]? = some s → vs[i]? = some v → V v g' (a'.tmps.getD s undef)) : RelF g' (putL Ft S vs) a' :=
  RelF.putL ⟨f.gl.mono q.h, df, sz.trans t.1.symm, fun i x e => by
    rcases t.2 i x e with rfl | ⟨h1, h2⟩
    · rw [V]; trivial
    · have := (f.at' i x h2).mono _ _ _ _ q
      rwa [Array.getD_eq_getD_getElem?, ← ag.2 i h1, ← Array.getD_eq_getD_getElem?] at this⟩ h
theorem EX.cut {g g' : Gh} {H H' : AS} (e : EX g H g' H') {M : Nat} (hM : H.length ≤ M) : EX g H (g'.cut M) (cutH M H') := by
  refine ⟨by unfold cutH; rw [List.length_map, List.length_take]; have := e.1; omega, fun k T c l live hf h => ?_⟩
  have hk : k < M := by have := (List.getElem?_eq_some_iff.1 h).1; omega
  obtain ⟨l', live', h1, h2, h3⟩ := e.2 k T c l live hf h
  refine ⟨if hf then l' else killL M l', live', ?_, ?_, fun h4 r => ?_⟩
  · unfold cutH
    rw [List.getElem?_map, List.getElem?_take, if_pos hk, h1]; rfl
  · split
    · exact h2
    · rw [killL_len]; exact h2
  · have : l'.length = l.length := by
      split at h4
      · exact h4
      · rw [killL_len] at h4; exact h4
    show (if _ then _ else _) = _
    rw [if_pos hk, h3 this]
theorem TX.cut {g g' : Gh} {w w' : World} (t : TX g w g' w') (N : Nat) : TX g w (g'.cut N) w' := ⟨t.tu, fun b ⟨k, r, h⟩ => t.nb b ⟨k, r, by
  have h : (if k < N then g'.s k r else none) = some b := h
  split at h
  · exact h
  · cases h⟩, t.fz⟩
def plainE : Exit → Prop
  | .exit _ => True
  | .ret => True
  | _ => False
theorem Tr.jn {D : List Nat} {g g' : Gh} {H H' H2 : AS} {a a' : Act} {w w' : World} {F F' Ft : List AV} (t : Tr D g H a w F' g' H' a' w') (tc : TopOf D F Ft) (f : RelF g F a) (R : RelH g H w) {M : Nat} (hM : H.length ≤ M) {S : List Nat} {vs : List AV} (h : wkL (S.map fun s => (F'.getD s .top).kill M) vs) (k : wkH (cutH M H') H2) : Tr D g H a w (putL Ft S vs) (g'.cut M) H2 a' w' := by
  have lo : ∀ k r b, g.s k r = some b → k < M := fun k r b q => Nat.lt_of_lt_of_le (R.lo k r b q).1 hM
  refine ⟨t.le.cut lo, lp_head tc f (t.le.cut lo) t.f.df (t.ag.1.trans f.sz) t.ag fun i s v h3 h4 => ?_, (t.r.cut _).wk k, t.tx.cut _, (t.ex.cut hM).trans (.wk k), t.ag⟩
  exact h.at i _ v (by rw [List.getElem?_map, h3]; rfl) h4 _ _ ((t.f.ev (.tmp s)).kill _ _ _ _)
section
variable {P : Program} {hfT : TypeId → Bool} {sc : Hn}
theorem den_ok (hm : P.follows .mixedOrders = true) : ∀ (c : Code) {F : List AV} {H : AS} {N : List AV → AS → Prop} {E : Exit → List AV → AS → Prop} {g : Gh} {w : World} {a : Act} {Q : Exit → Act → World → Prop}, wfC P sc c = true → den P hfT sc c F H N E → RelF g F a → RelH g H w →
    (∀ F' H' g' a' w', Tr (wrt c) g H a w F' g' H' a' w' → N F' H' → Q .normal a' w') → (∀ e F' H' g' a' w', Tr (wrt c) g H a w F' g' H' a' w' → plainE e → E e F' H' → Q e a' w') → c.wp P Q a w
  | .skip, F, H, N, E, g, w, a, Q, _, h, f, R, HN, HE => wp_skip (HN _ _ _ _ _ ⟨.rfl, f, R, .rfl, .rfl, .rfl⟩ h)
  | .label _, F, H, N, E, g, w, a, Q, _, h, f, R, HN, HE => wp_label (HN _ _ _ _ _ ⟨.rfl, f, R, .rfl, .rfl, .rfl⟩ h)
  | .exit id, F, H, N, E, g, w, a, Q, _, h, f, R, HN, HE => wp_exit (HE _ _ _ _ _ _ ⟨.rfl, f, R, .rfl, .rfl, .rfl⟩ trivial h)
  | .ret, F, H, N, E, g, w, a, Q, _, h, f, R, HN, HE => wp_ret (HE _ _ _ _ _ _ ⟨.rfl, f, R, .rfl, .rfl, .rfl⟩ trivial h)
  | .region id ops d, F, H, N, E, g, w, a, Q, hw, h, f, R, HN, HE => by
    rw [den] at h
    have main : ∀ {N : List AV → AS → Prop}, (if d then regD (mA P hfT) ops (preM ops) (lookS sc.sc id ops.size) [] F H N else regS P hfT ops ops.toList F H N) → (∀ F' H' g' a' w', Tr (wrt (.region id ops d)) g H a w F' g' H' a' w' → N F' H' → Q .normal a' w') → (Code.region id ops d).wp P Q a w := fun {N} h HN => by
      obtain ⟨Q0, hQ⟩ : ∃ Q0 : Exit → Act → World → Prop, Q0 = fun e a' w' => e = Exit.normal ∧ ∃ F' H' g', g.le g' ∧ RelF g' F' a' ∧ RelH g' H' w' ∧ TX g w g' w' ∧ EX g H g' H' ∧ N F' H' := ⟨_, rfl⟩
      have key : ∀ F' H' g' a' w', g.le g' → RelF g' F' a' → RelH g' H' w' → TX g w g' w' → EX g H g' H' → N F' H' → Q0 .normal a' w' := fun F' H' g' a' w' h1 h2 h3 h4 h5 h6 => by rw [hQ]; exact ⟨rfl, F', H', g', h1, h2, h3, h4, h5, h6⟩
      have fin : ∀ a' w', agr' (dsts ops) a a' → Q0 .normal a' w' → Q .normal a' w' := fun a' w' q k => by
        rw [hQ] at k
        obtain ⟨_, F', H', g', h1, h2, h3, h4, h5, h6⟩ := k
        exact HN _ _ _ _ _ ⟨h1, h2, h3, h4, h5, q⟩ h6
      have nn : ∀ e a' w', e ≠ .normal → Q0 e a' w' → Q e a' w' := fun e a' w' q k => by rw [hQ] at k; exact absurd k.1 q
      cases d
      · exact wp_region_list (wpList_agr nn fin dsts_ok .rfl (regS_ok (by simpa using h) f R key))
      · rw [wfC, Bool.not_true, Bool.false_or] at hw
        exact wp_region_any hm (wpAny_agr nn fin (fun i o ho => dsts_ok o (by
          rw [← Array.getElem?_toList] at ho
          exact List.mem_of_getElem? ho)) .rfl (regD_ok (M := mA P hfT) hw (by simpa using h) f R key))
    split at h
    · obtain ⟨S, M, I, hM, h1, h2⟩ := h
      exact main h1 fun F1 H1 g1 a1 w1 t ⟨vs, H2, q1, q2, q3⟩ => HN _ _ _ _ _ (t.jn (topC_ok (.region id ops d) F) f R hM q1 q2) (h2 _ _ q3)
    · exact main h HN
  | .seq x y, F, H, N, E, g, w, a, Q, hw, h, f, R, HN, HE => by
    rw [den] at h
    rw [wfC, Bool.and_eq_true] at hw
    refine wp_seq (den_ok hm x hw.1 h f R (fun F1 H1 g1 a1 w1 t h1 => ?_) fun e F1 H1 g1 a1 w1 t p h1 => ?_)
    · refine den_ok hm y hw.2 h1 t.f t.r (fun F2 H2 g2 a2 w2 t2 h2 => ?_) fun e F2 H2 g2 a2 w2 t2 p h2 => ?_
      · exact HN _ _ _ _ _ ((t.mono fun _ q => List.mem_append_left _ q).trans (t2.mono fun _ q => List.mem_append_right _ q)) h2
      · exact HE _ _ _ _ _ _ ((t.mono fun _ q => List.mem_append_left _ q).trans (t2.mono fun _ q => List.mem_append_right _ q)) p h2
    · have := HE _ _ _ _ _ _ (t.mono fun _ q => List.mem_append_left _ q) p h1
      cases e <;> first | exact this | exact p.elim
  | .cond c x y, F, H, N, E, g, w, a, Q, hw, h, f, R, HN, HE => by
    rw [den] at h
    rw [wfC, Bool.and_eq_true] at hw
    have main : ∀ {N : List AV → AS → Prop}, cd (evA F c) (den P hfT sc x F H N E) (den P hfT sc y F H N E) → (∀ F' H' g' a' w', Tr (wrt (.cond c x y)) g H a w F' g' H' a' w' → N F' H' → Q .normal a' w') → (Code.cond c x y).wp P Q a w := fun h HN => by
      unfold cd at h
      split at h
      · rename_i b e
        have hv := f.ev c
        rw [e, V] at hv
        refine wp_cond_split hv (fun q => ?_) fun q => ?_
        · rw [if_pos q] at h
          exact den_ok hm x hw.1 h f R (fun F1 H1 g1 a1 w1 t h1 => HN _ _ _ _ _ (t.mono fun _ q => List.mem_append_left _ q) h1) fun e F1 H1 g1 a1 w1 t p h1 => HE _ _ _ _ _ _ (t.mono fun _ q => List.mem_append_left _ q) p h1
        · rw [if_neg (by rw [q]; simp)] at h
          exact den_ok hm y hw.2 h f R (fun F1 H1 g1 a1 w1 t h1 => HN _ _ _ _ _ (t.mono fun _ q => List.mem_append_right _ q) h1) fun e F1 H1 g1 a1 w1 t p h1 => HE _ _ _ _ _ _ (t.mono fun _ q => List.mem_append_right _ q) p h1
      · exact h.elim
    split at h
    · obtain ⟨S, M, I, hM, h1, h2⟩ := h
      exact main h1 fun F1 H1 g1 a1 w1 t ⟨vs, H2, q1, q2, q3⟩ => HN _ _ _ _ _ (t.jn (topC_ok (.cond c x y) F) f R hM q1 q2) (h2 _ _ q3)
    · exact main h HN
  | .block id b, F, H, N, E, g, w, a, Q, hw, h, f, R, HN, HE => by
    rw [den] at h
    rw [wfC] at hw
    have main : ∀ {N : List AV → AS → Prop}, den P hfT sc b F H N (inB id N E) → (∀ F' H' g' a' w', Tr (wrt b) g H a w F' g' H' a' w' → N F' H' → Q .normal a' w') → (Code.block id b).wp P Q a w := fun h HN => by
      refine wp_block (den_ok hm b hw h f R HN fun e F1 H1 g1 a1 w1 t p h1 => ?_)
      unfold inB at h1
      cases e with
      | exit j =>
        simp only at h1
        show if j = id then _ else _
        split
        · rw [if_pos ‹_›] at h1; exact HN _ _ _ _ _ t h1
        · rw [if_neg ‹_›] at h1; exact HE _ _ _ _ _ _ t p h1
      | ret => exact HE _ _ _ _ _ _ t p h1
      | _ => exact p.elim
    split at h
    · obtain ⟨S, M, I, hM, h1, h2⟩ := h
      exact main h1 fun F1 H1 g1 a1 w1 t ⟨vs, H2, q1, q2, q3⟩ => HN _ _ _ _ _ (t.jn (topC_ok b F) f R hM q1 q2) (h2 _ _ q3)
    · exact main h HN
  | .scope b, F, H, N, E, g, w, a, Q, hw, h, f, R, HN, HE => by
    rw [den] at h
    rw [wfC] at hw
    refine wp_scope_straight (den_ok hm b hw h f R HN fun e F1 H1 g1 a1 w1 t p h1 => ?_)
    have := HE _ _ _ _ _ _ t p h1
    cases e <;> first | exact this | exact p.elim
  | .loop b, F, H, N, E, g, w, a, Q, hw, h, f, R, HN, HE => by
    rw [den] at h
    rw [wfC] at hw
    obtain ⟨S, I, H0, hk, ⟨n0, vs0, k0, h0⟩, hr⟩ := h
    have tc := topC_ok b F
    refine wp_loop_ghost (fun n a' w' => ∃ vs H1 g1, H1.length = H0.length ∧ I n vs H1 ∧ Tr (wrt b) g H0 a w (putL (topC b F) S vs) g1 H1 a' w') n0 ⟨_, H0, g, rfl, h0, .rfl, lp_head tc f .rfl f.df f.sz .rfl fun i s v h1 h2 => ?_, R.wk hk, .rfl, .rfl, .rfl⟩ fun n a1 w1 ⟨vs, H1, g1, e1, hI, t⟩ => ?_
    · exact k0.at i _ v (by rw [List.getElem?_map, h1]; rfl) h2 _ _ (f.ev (.tmp s))
    · refine den_ok hm b hw (hr n vs H1 e1 hI) t.f t.r (fun F2 H2 g2 a2 w2 t2 ⟨m, vs2, H3, hlt, k2, k3, hl, h2⟩ => ?_) fun e F2 H2 g2 a2 w2 t2 p h2 => ?_
      · exact ⟨m, hlt, _, _, _, by
          rw [hl, cutH, List.length_map, List.length_take]
          have := (t.trans t2).ex.1; omega, h2, (t.trans t2).jn tc f (R.wk hk) (Nat.le_refl _) k2 k3⟩
      · have t3 := t.trans t2
        have := HE _ _ _ _ _ _ ⟨t3.le, t3.f, t3.r, t3.tx, (EX.wk (g := g) hk).trans t3.ex, t3.ag⟩ p h2
        cases e <;> first | exact this | exact p.elim
  | .rangeFunc .., F, H, N, E, g, w, a, Q, _, h, f, R, HN, HE => h.elim
  | .goto _, F, H, N, E, g, w, a, Q, _, h, f, R, HN, HE => h.elim
  | .refuse _, F, H, N, E, g, w, a, Q, _, h, f, R, HN, HE => h.elim
end
end Go.Proofs.YtlgdojkmbfbnjaaGreatDoor

namespace Go.Proofs.YtlgdojkmbfbnjaaGreatDoor
open Go.RowKit

def res1 (P : Program) (F : List AV) (H : AS) : ResultVar → Option AV
  | .tmp t => some (F.getD t .top)
  | .cell a t => match tyA P t with
    | some s => rdA H (F.getD a .top) s.1 s.2
    | none => none
def resA (P : Program) (F : List AV) (H : AS) : List ResultVar → Option AV
  | [] => some (.tu [])
  | [a] => res1 P F H a
  | [a, b] => match res1 P F H a, res1 P F H b with
    | some x, some y => some (.tu [x, y])
    | _, _ => none
  | [a, b, c] => match res1 P F H a, res1 P F H b, res1 P F H c with
    | some x, some y, some z => some (.tu [x, y, z])
    | _, _, _ => none
  | [a, b, c, d] => match res1 P F H a, res1 P F H b, res1 P F H c, res1 P F H d with
    | some x, some y, some z, some u => some (.tu [x, y, z, u])
    | _, _, _, _ => none
  | _ => none
def res0 (tmps : Array Value) : ResultVar → Sem Value
  | .tmp t => pure (tmps.getD t undef)
  | .cell a t => do loadVar t (← asAddr (tmps.getD a undef))
theorem rdA_ptr {H : AS} {p y : AV} {sz : Nat} {b : Bool} {g : Gh} {u : Value} (h : rdA H p sz b = some y) (hv : V p g u) : ∃ ad, u = .pointer (some ad) := by
  unfold rdA at h
  split at h
  · rw [V] at hv; obtain ⟨b, _, rfl⟩ := hv; exact ⟨_, rfl⟩
  · rw [V] at hv; obtain ⟨b, o, c, u, rfl, _⟩ := hv; exact ⟨_, rfl⟩
  · cases h
theorem res1_ok {P : Program} {F : List AV} {H : AS} {r : ResultVar} {x : AV} (h : res1 P F H r = some x) {g : Gh} {a : Act} {w : World} (f : RelF g F a) (R : RelH g H w) : ∃ v, (res0 a.tmps r).run P w = .ok v w ∧ V x g v := by
  unfold res1 at h
  split at h
  · simp only [Option.some.injEq] at h
    subst h
    exact ⟨_, rfl, f.ev (.tmp _)⟩
  · rename_i s t
    split at h
    · rename_i z e
      obtain ⟨v, h1, h2⟩ := rdA_ok (P := P) h e R (f.ev (.tmp s))
      obtain ⟨ad, e2⟩ := rdA_ptr h (f.ev (.tmp s))
      have e3 : a.tmps.getD s undef = .pointer (some ad) := e2
      refine ⟨v, ?_, h2⟩
      have h1 : (Instr.loadAt t (a.tmps.getD s undef)).run P w = .ok v w := h1
      rw [e3] at h1
      simp only [res0, e3]
      exact h1
    · cases h
theorem results_ok {P : Program} {fn : Func} {F : List AV} {H : AS} {x : AV} (h : resA P F H fn.results.toList = some x) {g : Gh} {a : Act} {w : World} (f : RelF g F a) (R : RelH g H w) : ∃ v, (results fn a.tmps).run P w = .ok v w ∧ V x g v := by
  have e : (results fn a.tmps).run P w = (do let vs ← fn.results.mapM (res0 a.tmps); pure (if h : vs.size = 1 then vs[0] else .tuple vs) : Sem Value).run P w := rfl
  rw [e]
  generalize fn.results = rs at h
  obtain ⟨l⟩ := rs
  simp only at h
  unfold resA at h
  split at h
  · simp only [Option.some.injEq] at h
    subst h
    exact ⟨.tuple #[], by simp, by rw [V]; exact ⟨[], rfl, by rw [Vs]⟩⟩
  · obtain ⟨v, h1, h2⟩ := res1_ok h f R
    exact ⟨v, by simp [h1], h2⟩
  · split at h
    · rename_i x y h1 h2
      simp only [Option.some.injEq] at h
      subst h
      obtain ⟨v, p1, p2⟩ := res1_ok h1 f R
      obtain ⟨u, p3, p4⟩ := res1_ok h2 f R
      exact ⟨.tuple #[v, u], by simp [Result.andThen, p1, p3], by simp only [V, Vs]; exact ⟨[v, u], rfl, _, _, rfl, p2, _, _, rfl, p4, rfl⟩⟩
    · cases h
  · split at h
    · rename_i x y z h1 h2 h3
      simp only [Option.some.injEq] at h
      subst h
      obtain ⟨v, p1, p2⟩ := res1_ok h1 f R
      obtain ⟨u, p3, p4⟩ := res1_ok h2 f R
      obtain ⟨t, p5, p6⟩ := res1_ok h3 f R
      exact ⟨.tuple #[v, u, t], by simp [Result.andThen, p1, p3, p5], by simp only [V, Vs]; exact ⟨[v, u, t], rfl, _, _, rfl, p2, _, _, rfl, p4, _, _, rfl, p6, rfl⟩⟩
    · cases h
  · split at h
    · rename_i x y z s h1 h2 h3 h4
      simp only [Option.some.injEq] at h
      subst h
      obtain ⟨v, p1, p2⟩ := res1_ok h1 f R
      obtain ⟨u, p3, p4⟩ := res1_ok h2 f R
      obtain ⟨t, p5, p6⟩ := res1_ok h3 f R
      obtain ⟨q, p7, p8⟩ := res1_ok h4 f R
      exact ⟨.tuple #[v, u, t, q], by simp [Result.andThen, p1, p3, p5, p7], by simp only [V, Vs]; exact ⟨[v, u, t, q], rfl, _, _, rfl, p2, _, _, rfl, p4, _, _, rfl, p6, _, _, rfl, p8, rfl⟩⟩
    · cases h
  · cases h
end Go.Proofs.YtlgdojkmbfbnjaaGreatDoor

namespace Go.Proofs.YtlgdojkmbfbnjaaGreatDoor
open Go.RowKit

def g0 (h : Hp) : Gh := ⟨h, fun _ _ => none, fun _ _ => 0, fun _ => 0⟩
def PPost (h : Hp) (w : World) (Q : AV → Prop) (e : Ending) (w' : World) : Prop := ∃ v x h', e = .returned v ∧ h.le h' ∧ Imm h' w' ∧ (∀ b, b < w.heap.size → h' b = h b) ∧ Below w.heap.size w w' ∧ V x (g0 h') v ∧ Q x
/-- A call that touches nothing. -/
def CallP (P : Program) (f : FuncId) (xs : List AV) (Q : AV → Prop) : Prop := enterOk P f = true ∧ ∀ h w vs, Imm h w → GlA h → Vs xs (g0 h) vs → Calls P f vs.toArray w (PPost h w Q)
theorem CallP.mono {P : Program} {f : FuncId} {xs : List AV} {Q Q' : AV → Prop} (h : CallP P f xs Q) (q : ∀ x, Q x → Q' x) : CallP P f xs Q' := ⟨h.1, fun h0 w vs hi hg hv => (h.2 h0 w vs hi hg hv).mono fun _ _ ⟨v, x, h', a, b, c, d, e, f, k⟩ => ⟨v, x, h', a, b, c, d, e, f, q _ k⟩⟩
theorem z_g0 (g : Gh) : g.z.le (g0 g.h) := ⟨Hp.le_refl _, fun _ _ _ e => (by cases e), fun _ _ _ e => (by cases e)⟩
theorem g0_le {h : Hp} {g : Gh} (q : h.le g.h) : (g0 h).le g := ⟨q, fun _ _ _ e => (by cases e), fun _ _ _ e => (by cases e)⟩
theorem Vs.hfc' : ∀ {l : List AV} {g : Gh} {vs : List Value}, Vs l g vs → l.all AV.hfc = true → Vs l g.z vs
  | [], _, _, h, _ => by rw [Vs] at h ⊢; exact h
  | x :: l, g, vs, h, o => by
    rw [Vs] at h ⊢; obtain ⟨u, r, e, a, b⟩ := h
    simp only [List.all_cons, Bool.and_eq_true] at o
    exact ⟨u, r, e, a.hfc o.1, b.hfc' o.2⟩
def AV.hft : AV → Bool
  | .tu l => l.all AV.hfc
  | x => x.hfc
theorem V.hft {x : AV} {g : Gh} {v : Value} (h : V x g v) (o : x.hft = true) : V x g.z v := by
  cases x with
  | tu l => rw [V] at h ⊢; obtain ⟨vs, e, s⟩ := h; exact ⟨vs, e, s.hfc' o⟩
  | _ => exact h.hfc o
theorem CallA.of_P {P : Program} {f : FuncId} {xs : List AV} {Q : AV → Prop} (h : CallP P f xs Q) (hx : xs.all AV.hfc = true) {H : AS} {K : AV → AS → Prop} (k : ∀ x, Q x → K x H) : CallA P f xs H K := by
  refine ⟨h.1, fun g w vs R hg hv => ?_⟩
  refine (h.2 g.h w vs R.im hg (Vs.mono _ _ _ _ (z_g0 g) (hv.hfc' hx))).mono fun e w' ⟨v, x, h', a, b, c, d, e, f, q⟩ => ?_
  have le : g.le ⟨h', g.s, g.cp, g.sn⟩ := ⟨b, fun _ _ _ e => ⟨e, rfl⟩, fun _ _ _ _ => Nat.le_refl _⟩
  refine ⟨v, x, H, ⟨h', g.s, g.cp, g.sn⟩, a, le, ⟨c, fun k T c l live hf h1 b1 h2 => ?_, R.ver, R.inj, fun k r b1 h1 => ⟨(R.lo k r b1 h1).1, Nat.lt_of_lt_of_le (R.lo k r b1 h1).2 e.size⟩, R.mbK le fun k o h1 _ => ⟨h1, fun b1 h2 => ⟨h2, e.block b1 (R.lo k _ b1 h2).2, rfl⟩⟩⟩, ⟨⟨e.os, e.tape, e.output, e.size, fun k hk _ => e.block k hk⟩, fun _ h => .inl h, fun b1 => ?_⟩, V.mono _ _ _ _ (g0_le (Hp.le_refl _)) f, ⟨Nat.le_refl _, fun k T c l live hf h1 => ⟨l, live, h1, Nat.le_refl _, fun _ _ => rfl⟩⟩, k x q⟩
  · have := (R.lo k _ b1 h2).2
    exact (R.ob k T c l live hf h1 b1 h2).mono le h2 (e.block b1 this) fun _ => d b1 this
  · rcases Nat.lt_or_ge b1 w.heap.size with h1 | h1
    · exact .inl (d b1 h1)
    · exact .inr (.inr h1)
def frzR (H : AS) : AV → Option (AV × AS)
  | .tu l => match frzEs H l with
    | some (m, H1) => some (.tu m, H1)
    | none => none
  | x => frzA H x
theorem frzR_ok {H H' : AS} {x y : AV} {g : Gh} {w : World} (h : frzR H x = some (y, H')) (R : RelH g H w) : ∃ g', g.le g' ∧ RelH g' H' w ∧ Gz g g' ∧ ∀ v, V x g v → V y g' v := by
  unfold frzR at h
  split at h
  · split at h
    · rename_i m H1 e
      simp only [Option.some.injEq, Prod.mk.injEq] at h
      obtain ⟨rfl, rfl⟩ := h
      obtain ⟨g', h1, h2, h3, h4, h5⟩ := frzEs_ok e R
      exact ⟨g', h1, h2, h3, fun v hv => by rw [V] at hv ⊢; obtain ⟨vs, e, s⟩ := hv; exact ⟨vs, e, h5 vs s⟩⟩
    · cases h
  · obtain ⟨g', h1, h2, h3, _, _, h5⟩ := frzA_ok h R
    exact ⟨g', h1, h2, h3, h5⟩
/-- At the end of a function that touches nothing. -/
def retP (P : Program) (rs : List ResultVar) (Q : AV → Prop) (F : List AV) (H : AS) : Prop := bo (resA P F H rs) fun x => bo (frzR H x) fun r => ∃ y, wks r.1 y ∧ y.hft = true ∧ Q y
def topN : Nat → List AV
  | 0 => []
  | n + 1 => .top :: topN n
theorem topN_eq (n : Nat) : topN n = List.replicate n .top := by
  induction n with
  | zero => rfl
  | succ n ih => rw [topN, ih]; rfl
theorem RelF.ini {g : Gh} {xs : List AV} {vs : List Value} (hg : GlA g.h) (h : Vs xs g vs) (n : Nat) : RelF g (xs ++ topN n) { tmps := vs.toArray ++ Array.replicate n undef, defers := [] } := by
  rw [topN_eq]
  refine ⟨hg, rfl, by simp [h.len], fun i x e => ?_⟩
  rw [List.getElem?_append] at e
  split at e
  · obtain ⟨v, h1, h2⟩ := h.at i x e
    have hl := (List.getElem?_eq_some_iff.1 h1).1
    have : (vs.toArray ++ Array.replicate n undef).getD i undef = v := by
      rw [Array.getD_eq_getD_getElem?, Array.getElem?_append_left (by simpa using hl)]
      simp [h1]
    simp only [this]; exact h2
  · rw [List.getElem?_replicate] at e
    split at e
    · obtain rfl := Option.some.inj e; rw [V]; trivial
    · cases e
theorem CallP.den {P : Program} {hfT : TypeId → Bool} {f : FuncId} {fn : Func} {c : Code} {xs : List AV} {Q : AV → Prop} (sc : Hn) (hf : P.funcs[f]? = some fn) (hb : fn.body = some c) (hw : (P.follows .mixedOrders && wfC P sc c && enterOk P f) = true)
    (h : Go.Proofs.YtlgdojkmbfbnjaaGreatDoor.den P hfT sc c (xs ++ topN (fn.ntmps - xs.length)) [] (retP P fn.results.toList Q) (fun e => match e with | .ret => retP P fn.results.toList Q | _ => fun _ _ => False)) : CallP P f xs Q := by
  rw [Bool.and_eq_true, Bool.and_eq_true] at hw
  refine ⟨hw.2, fun h0 w vs hi hg hv => ?_⟩
  have hw := hw.1
  have R : RelH (g0 h0) [] w := ⟨hi, fun k T c l live hf e => (by simp at e), fun k T c l live hf e => (by simp at e), fun k r k' r' b e => (by cases e), fun k r b e => (by cases e), fun k o e => (by simp at e)⟩
  have fin : ∀ F' H' g' a' w', Tr (wrt c) (g0 h0) [] ⟨vs.toArray ++ Array.replicate (fn.ntmps - vs.length) undef, []⟩ w F' g' H' a' w' → retP P fn.results.toList Q F' H' → ∀ ex, (ex = .normal ∨ ex = .ret) → bodyPost P fn (PPost h0 w Q) ex a' w' := fun F' H' g' a' w' t k ex hex => by
    obtain ⟨x, h1, k⟩ := bo_iff k
    obtain ⟨⟨y, H2⟩, h2, k⟩ := bo_iff k
    obtain ⟨y', k0, h3, k⟩ := k
    obtain ⟨v, p1, p2⟩ := results_ok h1 t.f t.r
    obtain ⟨g2, q1, q2, q3, q4⟩ := frzR_ok h2 t.r
    have tx := t.tx.trans (TX.ghost q3)
    have post : a'.defers = [] ∧ ∃ v, (results fn a'.tmps).run P w' = .ok v w' ∧ PPost h0 w Q (.returned v) w' := by
      refine ⟨t.f.df, v, p1, v, y', g2.h, rfl, (t.le.trans q1).h, q2.im, fun b hb => ?_, tx.tu.toBelow (Nat.le_refl _) fun k ⟨_, _, e⟩ => (by cases e), V.mono _ _ _ _ (z_g0 g2) ((k0.wk _ _ (q4 v p2)).hft h3), k⟩
      rcases tx.fz b with h | ⟨_, _, h⟩ | h
      · exact h
      · cases h
      · omega
    rcases hex with rfl | rfl <;> exact post
  have hl := hv.len
  refine calls_of_wp hf hb (den_ok hw.1 c hw.2 h (a := ⟨_, _⟩) (by rw [← hl]; simpa using RelF.ini (g := g0 h0) hg hv _) R (fun F' H' g' a' w' t k => fin F' H' g' a' w' (by simpa using t) k _ (.inl rfl)) fun e F' H' g' a' w' t p k => ?_)
  cases e with
  | ret => exact fin F' H' g' a' w' (by simpa using t) k _ (.inr rfl)
  | exit id => exact k.elim
  | _ => exact p.elim
end Go.Proofs.YtlgdojkmbfbnjaaGreatDoor
