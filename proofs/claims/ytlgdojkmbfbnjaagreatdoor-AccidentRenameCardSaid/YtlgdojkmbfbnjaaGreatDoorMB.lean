/- The same machine: operations, ordered regions, and what it takes for regions in whatever order. -/
import Derived.Test.YtlgdojkmbfbnjaaGreatDoorMA
namespace Go.Proofs.YtlgdojkmbfbnjaaGreatDoor
open Go.RowKit

/-- x[i]'s address. -/
def ixA (x y : AV) : Option AV :=
  match x, y with
  | .rf c k r off n, .vl (.int _ i) => if 0 ≤ i ∧ i < n then some (.pt c k r (off + i.toNat) 0) else none
  | .im _ l, .vl (.int _ i) => if 0 ≤ i then (match l[i.toNat]? with | some e => some (.pi e 0) | none => none) else none
  | _, _ => none
theorem ixA_ok {P : Program} {t e : TypeId} {i : TypeInfo} {x y z : AV} {g : Gh} {u v : Value} (h : ixA x y = some z) (ht : P.underlying t = some (.slice e)) (hi : P.info? e = some i) (hs : strideOk x i.size = true) (hx : V x g u) (hy : V y g v) (w : World) : ∃ r, (Instr.indexAt t u v).run P w = .ok r w ∧ V z g r := by
  have e0 : P.elem t = e := by simp [Program.elem, ht]
  have hu' : P.underlying t = some (.slice (P.elem t)) := by rw [e0]; exact ht
  have es : ∀ w : World, (sizeOf (P.elem t)).run P w = .ok i.size w := fun w => by rw [e0]; simp [sizeOf, typeInfo, hi]
  unfold ixA at h
  split at h
  · rename_i c k r off n kk q
    simp only [strideOk, beq_iff_eq] at hs
    subst hs
    rw [V] at hx; rw [V] at hy
    subst hy
    split at h
    · rename_i hq
      simp only [Option.some.injEq] at h
      subst h
      rcases hx with ⟨rfl, _⟩ | ⟨b, cap, hb, ⟨o, rfl, ho⟩, _⟩
      · omega
      · obtain rfl : o = off * i.size := by omega
        refine ⟨.pointer (some ⟨b, (off + q.toNat) * i.size + 0, none⟩), ?_, by rw [V]; exact ⟨b, hb, rfl⟩⟩
        rw [run_indexAt_slice _ _ _ _ _ _ _ hu', if_pos hq, es]
        simp [Addr.add_lit, Nat.add_mul]
    · cases h
  · rename_i c l kk q
    simp only [strideOk, beq_iff_eq] at hs
    subst hs
    rw [V] at hx; rw [V] at hy
    subst hy
    split at h
    · rename_i hq
      split at h
      · rename_i el hel
        simp only [Option.some.injEq] at h
        subst h
        obtain ⟨cs, ⟨a, cap, rfl, _⟩, S, hv⟩ := hx
        have hlt : q.toNat < l.length := (List.getElem?_eq_some_iff.1 hel).1
        obtain ⟨a', cap', e1, _, _, h3⟩ := S
        simp only [Value.slice.injEq, true_and] at e1
        obtain ⟨rfl, rfl⟩ := e1
        rcases h3 with h3 | ⟨b, off, cc, rfl, hb, hcc⟩
        · omega
        · obtain ⟨u', p1, p2, p3⟩ := hv.at q.toNat el hel
          refine ⟨.pointer (some ⟨b, (off + q.toNat * i.size) + 0, none⟩), ?_, ?_⟩
          · rw [run_indexAt_slice _ _ _ _ _ _ _ hu', if_pos (by omega), es]
            simp [Addr.add_lit]
          · rw [V]
            refine ⟨b, off + q.toNat * i.size, cc, u', rfl, hb, p1, fun j hj => ?_⟩
            rw [← p3 j (by omega), Nat.add_assoc, hcc]
            have : (q.toNat + 1) * i.size ≤ l.length * i.size := Nat.mul_le_mul_right _ hlt
            rw [Nat.succ_mul] at this; omega
      · cases h
    · cases h
  · cases h
/-- A field's cells: where, how many, whether a struct. -/
def fiA (P : Program) (s : TypeId) (f : Nat) : Option (Nat × Nat × Bool) := match P.underlying s with
  | some (.struct fields) => match fields[f]? with
    | some fd => match tyA P fd.type with
      | some (n, b) => if 0 < n then some (fd.offset, n, b) else none
      | none => none
    | none => none
  | _ => none
theorem fiA_ok {P : Program} {s : TypeId} {f o n : Nat} {b : Bool} (h : fiA P s f = some (o, n, b)) : ∃ fields fd, P.underlying s = some (.struct fields) ∧ fields[f]? = some fd ∧ tyA P fd.type = some (n, b) ∧ fd.offset = o ∧ 0 < n := by
  unfold fiA at h
  split at h
  · rename_i fields hu
    split at h
    · rename_i fd hf
      split at h
      · rename_i n' b' ht
        split at h
        · rename_i hn
          simp only [Option.some.injEq, Prod.mk.injEq] at h
          obtain ⟨rfl, rfl, rfl⟩ := h
          exact ⟨fields, fd, hu, hf, ht, rfl, hn⟩
        · cases h
      · cases h
    · cases h
  · cases h
def faA (x : AV) (o : Nat) : Option AV :=
  match x with
  | .pt c k r i j => some (.pt c k r i (j + o))
  | .pi e j => some (.pi e (j + o))
  | _ => none
theorem faA_ok {P : Program} {s : TypeId} {f o n : Nat} {b : Bool} {x z : AV} {g : Gh} {u : Value} (h : faA x o = some z) (hf : fiA P s f = some (o, n, b)) (hx : V x g u) (w : World) : ∃ r, (Instr.fieldAt s u f).run P w = .ok r w ∧ V z g r := by
  obtain ⟨fields, fd, h1, h2, h3, h4, h5⟩ := fiA_ok hf
  obtain ⟨i, d, t1, t2, t3, t4⟩ := tyA_ok h3
  have key : ∀ bl q, u = .pointer (some ⟨bl, q, none⟩) → (Instr.fieldAt s u f).run P w = .ok (.pointer (some ⟨bl, q + o, none⟩)) w := fun bl q e => by
    subst e
    have hz : ¬ i.size = 0 := by omega
    simp [Instr.fieldAt, run_underlying h1, h2, Instr.sureAddr, fieldPlace, sizeOf, typeInfo, t1, hz, h4, Addr.add_lit]
  unfold faA at h
  split at h <;> simp only [Option.some.injEq, reduceCtorEq] at h <;> subst h <;> rw [V] at hx
  · obtain ⟨bl, hb, e⟩ := hx
    exact ⟨_, key _ _ e, by rw [V]; exact ⟨bl, hb, by rw [Nat.add_assoc]⟩⟩
  · obtain ⟨bl, q, cc, u', e, p1, p2, p3⟩ := hx
    exact ⟨_, key _ _ e, by rw [V]; exact ⟨bl, q, cc, u', by rw [Nat.add_assoc], p1, p2, p3⟩⟩
/-- A field of a struct value. -/
def fdA (x : AV) (o n : Nat) (b : Bool) : Option AV :=
  match x with
  | .ag l => if b then (if o + n ≤ l.length then some (.ag ((l.drop o).take n)) else none) else l[o]?
  | _ => none
theorem fdA_ok {P : Program} {s : TypeId} {f o n : Nat} {b : Bool} {x z : AV} {g : Gh} {u : Value} (h : fdA x o n b = some z) (hf : fiA P s f = some (o, n, b)) (hx : V x g u) (w : World) : ∃ r, (Instr.field s u f).run P w = .ok r w ∧ V z g r := by
  obtain ⟨fields, fd, h1, h2, h3, h4, h5⟩ := fiA_ok hf
  obtain ⟨i, d, t1, t2, t3, t4⟩ := tyA_ok h3
  unfold fdA at h
  split at h
  · rename_i l
    rw [V] at hx
    obtain ⟨vs, rfl, s'⟩ := hx
    split at h
    · rename_i hb
      split at h
      · rename_i hl
        simp only [Option.some.injEq] at h
        subst h
        have hlen := s'.len
        refine ⟨.agg ((vs.drop o).take n).toArray, ?_, by rw [V]; exact ⟨_, rfl, (s'.drop o).take n⟩⟩
        have e : vs.toArray.extract o (o + n) = ((vs.drop o).take n).toArray := by simp
        simp [Instr.field, run_underlying h1, h2, asAgg, part, run_isAgg t2, t4, hb, sizeOf, typeInfo, t1, t3, h4]
      · cases h
    · rename_i hb
      obtain ⟨v, e, hv⟩ := s'.at o z h
      refine ⟨v, ?_, hv⟩
      have e2 : vs.toArray[o]? = some v := by simpa using e
      simp only [Bool.not_eq_true] at hb
      simp [Instr.field, run_underlying h1, h2, asAgg, part, run_isAgg t2, t4, hb, h4, e]
  · cases h
def exxA (x : AV) (i : Nat) : Option AV :=
  match x with
  | .tu l => l[i]?
  | _ => none
theorem exA_ok {P : Program} {i : Nat} {x z : AV} {g : Gh} {u : Value} (h : exxA x i = some z) (hx : V x g u) (w : World) : ∃ r, (Instr.extract u i).run P w = .ok r w ∧ V z g r := by
  unfold exxA at h
  split at h
  · rw [V] at hx
    obtain ⟨vs, rfl, s⟩ := hx
    obtain ⟨v, e, hv⟩ := s.at i z h
    exact ⟨v, by simp [Instr.extract, e], hv⟩
  · cases h
/-- No nil pointer. -/
def ncA (x : AV) : Option AV :=
  match x with
  | .pt .. | .pi .. => some x
  | _ => none
end Go.Proofs.YtlgdojkmbfbnjaaGreatDoor

namespace Go.Proofs.YtlgdojkmbfbnjaaGreatDoor
open Go.RowKit

/-- Elements are given up. -/
def frzEs (H : AS) : List AV → Option (List AV × AS)
  | [] => some ([], H)
  | x :: l => match frzA H x with
    | some (y, H1) => match frzEs H1 l with
      | some (m, H2) => some (y :: m, H2)
      | none => none
    | none => none
theorem frzEs_ok : ∀ {l m : List AV} {H H' : AS} {g : Gh} {w : World}, frzEs H l = some (m, H') → RelH g H w → ∃ g', g.le g' ∧ RelH g' H' w ∧ Gz g g' ∧ EX g H g' H' ∧ ∀ vs, Vs l g vs → Vs m g' vs
  | [], m, H, H', g, w, h, R => by
    simp only [frzEs, Option.some.injEq, Prod.mk.injEq] at h
    obtain ⟨rfl, rfl⟩ := h
    exact ⟨g, .rfl, R, .rfl, .rfl, fun _ h => h⟩
  | x :: l, m, H, H', g, w, h, R => by
    rw [frzEs] at h
    split at h
    · rename_i y H1 e1
      split at h
      · rename_i m' H2 e2
        simp only [Option.some.injEq, Prod.mk.injEq] at h
        obtain ⟨rfl, rfl⟩ := h
        obtain ⟨g1, a1, a2, a3, a4, a5, a6⟩ := frzA_ok e1 R
        obtain ⟨g2, b1, b2, b3, b4, b6⟩ := frzEs_ok e2 a2
        refine ⟨g2, a1.trans b1, b2, a3.trans b3, a4.trans b4, fun vs hv => ?_⟩
        rw [Vs] at hv ⊢
        obtain ⟨v, r, e, c1, c2⟩ := hv
        exact ⟨v, r, e, V.mono _ _ _ _ b1 (a6 v c1), b6 r (Vs.mono _ _ _ _ a1 c2)⟩
      · cases h
    · cases h
theorem img_le {g g' : Gh} (h : ∀ k r, g'.s k r = g.s k r) (b : Nat) : img g' b ↔ img g b := by
  unfold img
  simp only [h]
theorem Vs.vc {c : Nat} : ∀ {l : List AV} {g : Gh} {vs : List Value}, Vs l g vs → l.all (fun x => x.okc && x.cells.length == c) = true → Vc c l g (vs.flatMap fun v => v.cells.toList)
  | [], g, vs, h, _ => by rw [Vs] at h; subst h; simp [Vc]
  | x :: l, g, vs, h, o => by
    rw [Vs] at h
    obtain ⟨v, r, rfl, a, b⟩ := h
    simp only [List.all_cons, Bool.and_eq_true, beq_iff_eq] at o
    rw [List.flatMap_cons, Vc]
    exact ⟨v, _, rfl, by rw [a.size o.1.1]; exact o.1.2, a, b.vc (by simpa using o.2)⟩
theorem Vs.sizes {c : Nat} : ∀ {l : List AV} {g : Gh} {vs : List Value}, Vs l g vs → l.all (fun x => x.okc && x.cells.length == c) = true → ∀ v ∈ vs, v.cells.size = c
  | [], g, vs, h, _, v, hv => by rw [Vs] at h; subst h; cases hv
  | x :: l, g, vs, h, o, v, hv => by
    rw [Vs] at h
    obtain ⟨u, r, rfl, a, b⟩ := h
    simp only [List.all_cons, Bool.and_eq_true, beq_iff_eq] at o
    rcases List.mem_cons.1 hv with rfl | hv
    · rw [a.size o.1.1]; exact o.1.2
    · exact b.sizes (by simpa using o.2) v hv
theorem zip_parts {β : Type} (f : β → Value) : ∀ (l : List (Nat × β)) (s : Nat), l.map (·.1) = List.range' s l.length → l.map (fun p => (p.1, f p.2)) = ((l.map fun p => f p.2).zipIdx s).map fun x => (x.2, x.1)
  | [], s, _ => rfl
  | p :: l, s, h => by
    simp only [List.map_cons, List.length_cons, List.range'_succ, List.cons.injEq] at h
    simp only [List.map_cons, List.zipIdx_cons, List.cons.injEq]
    exact ⟨by rw [h.1], zip_parts f l (s + 1) h.2⟩
/-- A row of these elements. -/
def bsA (H : AS) (e : TypeId) (c : Nat) (hf : Bool) (els : List AV) : Option (AV × AS) :=
  match (if hf then frzEs H els else some (els, H)) with
  | some (m, H1) => if m.all (fun x => x.okc && x.cells.length == c) = true ∧ (hf = true → m.all AV.hfc = true) ∧ m.length * c ≤ 16777216 ∧ 0 < c then some (.rf c H1.length m.length 0 m.length, H1 ++ [.row e c m true hf]) else none
  | none => none
theorem newRow_ok {g : Gh} {H : AS} {w : World} (R : RelH g H w) {e : TypeId} {c : Nat} {hf : Bool} {m : List AV} {cs : List Value} (hv : Vc c m g cs) (hh : hf = true → m.all AV.hfc = true) (hn : m.length ≤ 140737488355328) :
    ∃ g', g.le g' ∧ RelH g' (H ++ [.row e c m true hf]) (w.alloc (.cells cs.toArray e)) ∧ TX g w g' (w.alloc (.cells cs.toArray e)) ∧ V (.rf c H.length m.length 0 m.length) g' (.slice (some ⟨w.heap.size, 0, none⟩) m.length m.length) ∧ EX g H g' (H ++ [.row e c m true hf]) := by
  obtain ⟨q1, q2, q3, q5⟩ := R.new e c m hf cs (by
    cases hf
    · exact hv
    · exact hv.hf (hh rfl)) hn
  refine ⟨_, q2, q1, q3, ?_, q5⟩
  rw [V]
  exact .inr ⟨w.heap.size, m.length, (Gh.put_s _ _ _ _ _).1, ⟨0, rfl, .inr (by simp)⟩, by rw [(Gh.put_s _ _ _ _ _).2]; simp, Nat.le_refl _⟩
theorem bsA_ok {P : Program} {t e : TypeId} {c b : Nat} (ht : elA P t = some (e, c, b)) {H H' : AS} {hf : Bool} {els : List AV} {y : AV} (h : bsA H e c hf els = some (y, H')) {g : Gh} {w : World} (R : RelH g H w) {ps : Array (Nat × Value)} (hp : ps.toList.map (·.1) = List.range' 0 ps.toList.length) (hv : Vs els g (ps.toList.map (·.2))) :
    ∃ v w' g', (Instr.buildSlice t ps.toList.length ps).run P w = .ok v w' ∧ g.le g' ∧ RelH g' H' w' ∧ TX g w g' w' ∧ V y g' v ∧ EX g H g' H' := by
  obtain ⟨zz, E, hu, i, zv, hi, hsz, hby, hz, hzs, hc⟩ := elA_ok ht
  unfold bsA at h
  have hfr : ∀ m H1, (if hf then frzEs H els else some (els, H)) = some (m, H1) → ∃ g', g.le g' ∧ RelH g' H1 w ∧ Gz g g' ∧ EX g H g' H1 ∧ ∀ vs, Vs els g vs → Vs m g' vs := fun m H1 e => by
    cases hf
    · simp only [Bool.false_eq_true, if_false, Option.some.injEq, Prod.mk.injEq] at e
      obtain ⟨rfl, rfl⟩ := e
      exact ⟨g, .rfl, R, .rfl, .rfl, fun _ h => h⟩
    · exact frzEs_ok e R
  split at h
  · rename_i m H1 em
    split at h
    · rename_i hh
      obtain ⟨h1, h2, h3, h4⟩ := hh
      simp only [Option.some.injEq, Prod.mk.injEq] at h
      obtain ⟨rfl, rfl⟩ := h
      obtain ⟨g1, a1, a2, a3, a5, a4⟩ := hfr m H1 em
      have hm := a4 _ hv
      have hlen : ps.toList.length = m.length := by have := hm.len; rw [List.length_map] at this; exact this
      have hvc := hm.vc h1
      have hnn : m.length ≤ 16777216 := by
        have := Nat.le_mul_of_pos_right m.length h4
        omega
      obtain ⟨g2, b1, b2, b3, b4, b5⟩ := newRow_ok (e := e) (hf := hf) a2 hvc h2 (by omega)
      refine ⟨_, _, g2, ?_, a1.trans b1, b2, (TX.ghost a3).trans b3, b4, a5.trans b5⟩
      rw [hlen]
      rcases Nat.eq_zero_or_pos m.length with h0 | h0
      · have hps : ps = #[] := by
          have : ps.toList = [] := List.eq_nil_of_length_eq_zero (by omega)
          simpa using this
        subst hps
        have hm0 : m = [] := List.eq_nil_of_length_eq_zero h0
        subst hm0
        simp [Instr.buildSlice, run_underlying hu, sizeOf, typeInfo, hi, Instr.fill, newRow, Array.range_zero']
      · have hmc : 0 < m.length * c := Nat.mul_pos h0 h4
        refine run_buildSlice w t e m.length ps _ i zv hu hi hz (by rw [hsz]; omega) (by rw [hsz]; omega) ?_
        have hzip := zip_parts (fun v : Value => v) ps.toList 0 hp
        have e1 : ps.toList.map (fun p => (p.1, p.2)) = ps.toList := by simp
        rw [e1] at hzip
        have := Great.fill_whole hc (ps.toList.map fun p => p.2) (Array.map (fun x => zv.cells[x % zv.cells.size]!) (Array.range (m.length * c))) (hm.sizes h1) (by rw [List.length_map, hlen]; simp)
        rw [← hzip] at this
        rw [hsz]; exact this
    · cases h
  · cases h
theorem mk_cells (z : Array Value) (c : Nat) (hz : z.size = c) (hc : 0 < c) : ∀ n, (madeCells z (n * c)).toList = (List.replicate n z.toList).flatten
  | 0 => by simp [madeCells, Array.range_zero']
  | n + 1 => by
    have ih := mk_cells z c hz hc n
    unfold madeCells at ih ⊢
    simp only [Array.toList_map, Array.toList_range] at ih ⊢
    rw [List.replicate_succ', List.flatten_append, ← ih, Nat.succ_mul, List.range_add (n := n * c), List.map_append]
    congr 1
    rw [List.map_map]
    apply List.ext_getElem?
    intro i
    simp only [List.getElem?_map, List.flatten_cons, List.flatten_nil, List.append_nil]
    by_cases hi : i < c
    · rw [List.getElem?_range hi]
      have : (n * c + i) % z.size = i := by rw [hz, Nat.mul_comm, Nat.mul_add_mod, Nat.mod_eq_of_lt hi]
      simp only [Option.map_some, Function.comp, this]
      simp [hz, hi]
    · rw [List.getElem?_eq_none (by simp; omega), List.getElem?_eq_none (by simp [hz]; omega)]; rfl
theorem Vc_rep {g : Gh} {z : AV} {v : Value} {c : Nat} (h : V z g v) (hc : v.cells.size = c) : ∀ n, Vc c (List.replicate n z) g (List.replicate n v.cells.toList).flatten
  | 0 => by simp [Vc]
  | n + 1 => by
    rw [List.replicate_succ, List.replicate_succ, List.flatten_cons, Vc]
    exact ⟨v, _, rfl, hc, h, Vc_rep h hc n⟩
/-- make. -/
def mkA (P : Program) (H : AS) (e : TypeId) (c bytes : Nat) (hf : Bool) (x y : AV) : Option (AV × AS) :=
  match x, y, zrA P e with
  | .vl (.int _ n), .vl (.int _ m), some z => if n = m ∧ 0 ≤ n ∧ n.toNat * bytes ≤ 140737488355328 ∧ (hf = true → z.hfc = true) then some (.rf c H.length n.toNat 0 n.toNat, H ++ [.row e c (List.replicate n.toNat z) true hf]) else none
  | _, _, _ => none
theorem mkA_ok {P : Program} {t e : TypeId} {c b : Nat} (ht : elA P t = some (e, c, b)) {H H' : AS} {hf : Bool} {x1 x2 y : AV} (h : mkA P H e c b hf x1 x2 = some (y, H')) {g : Gh} {w : World} (R : RelH g H w) {u1 u2 : Value} (h1 : V x1 g u1) (h2 : V x2 g u2) :
    ∃ v w' g', (Instr.makeSlice t u1 u2).run P w = .ok v w' ∧ g.le g' ∧ RelH g' H' w' ∧ TX g w g' w' ∧ V y g' v ∧ EX g H g' H' := by
  obtain ⟨zz, E, hu, i, zv, hi, hsz, hby, hz, hzs, hc⟩ := elA_ok ht
  unfold mkA at h
  split at h
  · rename_i k1 n k2 m z e1
    rw [V] at h1; rw [V] at h2
    subst h1 h2
    split at h
    · rename_i hh
      obtain ⟨rfl, h0, hb, hhf⟩ := hh
      simp only [Option.some.injEq, Prod.mk.injEq] at h
      obtain ⟨rfl, rfl⟩ := h
      unfold zrA at e1
      rw [hi] at e1
      simp only [hz, Option.map_some, Option.some.injEq] at e1
      subst e1
      have hbp := E.bpos
      have hn := Nat.le_mul_of_pos_right n.toNat hbp
      obtain ⟨g2, b1, b2, b3, b4, b5⟩ := newRow_ok (e := e) (hf := hf) R (Vc_rep (V_cst g zv) hzs n.toNat) (fun q => by simp [hhf q]) (by rw [List.length_replicate]; omega)
      rw [List.length_replicate] at b4
      refine ⟨_, _, g2, ?_, b1, b2, b3, b4, b5⟩
      have hbytes : (i.bytes : Int) * n ≤ 281474976710656 := by
        have hcast : (i.bytes : Int) * n = ((n.toNat * b : Nat) : Int) := by
          rw [hby, Int.natCast_mul, Int.toNat_of_nonneg h0, Int.mul_comm]
        omega
      have := run_make (P := P) w t e i zv hu hi hz k1 k2 n n h0 (Int.le_refl _) hbytes (by omega)
      rw [this, hsz, ← mk_cells zv.cells c hzs hc]
    · cases h
  · cases h
end Go.Proofs.YtlgdojkmbfbnjaaGreatDoor

namespace Go.Proofs.YtlgdojkmbfbnjaaGreatDoor
open Go.RowKit

/-- Behind a call. -/
def CPost (g : Gh) (H : AS) (w : World) (Q : AV → AS → Prop) (e : Ending) (w' : World) : Prop := ∃ v x H' g', e = .returned v ∧ g.le g' ∧ RelH g' H' w' ∧ TX g w g' w' ∧ V x g' v ∧ EX g H g' H' ∧ Q x H'
def enterOk (P : Program) (f : FuncId) : Bool := match P.funcs[f]? with
  | some fn => fn.body.isSome && fn.name != "runtime.NumGoroutine"
  | none => false
/-- A call, from abstract arguments. -/
def CallA (P : Program) (f : FuncId) (xs : List AV) (H : AS) (Q : AV → AS → Prop) : Prop := enterOk P f = true ∧ ∀ g w vs, RelH g H w → GlA g.h → Vs xs g vs → Calls P f vs.toArray w (CPost g H w Q)
theorem CallA.mono {P : Program} {f : FuncId} {xs : List AV} {H : AS} {Q Q' : AV → AS → Prop} (h : CallA P f xs H Q) (q : ∀ x H', Q x H' → Q' x H') : CallA P f xs H Q' :=
  ⟨h.1, fun g w vs R hg hv => (h.2 g w vs R hg hv).mono fun _ _ ⟨v, x, H', g', a, b, c, d, e, e2, k⟩ => ⟨v, x, H', g', a, b, c, d, e, e2, q _ _ k⟩⟩
def an (b : Bool) (K : Prop) : Prop := b = true ∧ K
def cd (x : AV) (K K' : Prop) : Prop := match x with
  | .vl (.bool b) => if b then K else K'
  | _ => False
def slT (P : Program) (t : TypeId) : Option (Option Nat) := match P.underlying t with
  | some (.slice e) => (P.info? e).map fun i => some i.size
  | some .string => some none
  | _ => none
def isStrT (P : Program) (t : TypeId) : Bool := match P.underlying t with
  | some .string => true
  | _ => false
def slC (q : Option Nat) (x : AV) : Bool := match q with
  | some c => strideOk x c
  | none => isStr x
/-- A nil slice is a row without elements. -/
def nilC : Operand → Bool
  | .const (.slice none 0 0) => true
  | _ => false
/-- A nil slice that is appended to. -/
def nlS (H : AS) (e : TypeId) (c : Nat) (hf : Bool) : AV → AV × AS
  | .vl (.slice none 0 0) => (.rf c H.length 0 0 0, H ++ [.row e c [] true hf])
  | x => (x, H)
def stA (P : Program) (hfT : TypeId → Bool) (o : Oper) (F : List AV) (H : AS) (K : AV → AS → Prop) : Prop :=
  match o.op with
  | .move x | .assign x => match nilC x, elA P o.type with
    | true, some e => K (.rf e.2.1 H.length 0 0 0) (H ++ [.row e.1 e.2.1 [] true (hfT e.1)])
    | _, _ => K (evA F x) H
  | .pick c a b => cd (evA F c) (K (evA F a) H) (K (evA F b) H)
  | .alloc t => bo (zrA P t) fun z => K (.pt z.cells.length H.length 1 0 0) (H ++ [.row t z.cells.length [z] true false])
  | .box t x => an (evA F x).okc (K (.pt (evA F x).cells.length H.length 1 0 0) (H ++ [.row t (evA F x).cells.length [evA F x] true false]))
  | .build t ps => bo (bldA P t (ps.toList.map fun p => (p.1, evA F p.2))) fun x => K x H
  | .buildSlice t len ps => bo (elA P t) fun e => an (ps.toList.map (·.1) == List.range' 0 ps.toList.length && len == ps.toList.length) (bo (bsA H e.1 e.2.1 (hfT e.1) (ps.toList.map fun p => evA F p.2)) fun r => K r.1 r.2)
  | .load t p => bo (tyA P t) fun s => bo (rdA H (evA F p) s.1 s.2) fun x => K x H
  | .store t p y => bo (tyA P t) fun s => bo (frzTo H (evA F p) (evA F y)) fun r => bo (wrA r.2 (evA F p) r.1 s.1) fun H' => K .top H'
  | .nilCheck x => bo (ncA (evA F x)) fun z => K z H
  | .binOp op _ x y _ => bo (bnA op (evA F x) (evA F y)) fun z => K z H
  | .unOp op _ x => bo (unA op (evA F x)) fun z => K z H
  | .convert s d x => bo (cvA P s d (evA F x)) fun z => K z H
  | .makeSlice t l c => bo (elA P t) fun e => bo (mkA P H e.1 e.2.1 e.2.2 (hfT e.1) (evA F l) (evA F c)) fun r => K r.1 r.2
  | .slice t x lo hi none => bo (slT P t) fun q => an (slC q (evA F x)) (bo (slA (evA F x) (lo.map (evA F)) (hi.map (evA F))) fun z => K z H)
  | .fieldAddr s x f => bo (fiA P s f) fun q => bo (faA (evA F x) q.1) fun z => K z H
  | .field s x f => bo (fiA P s f) fun q => bo (fdA (evA F x) q.1 q.2.1 q.2.2) fun z => K z H
  | .indexAddr t x y => bo (elA P t) fun e => an (strideOk (evA F x) e.2.1) (bo (ixA (evA F x) (evA F y)) fun z => K z H)
  | .index t x y => an (isStrT P t) (bo (sxA (evA F x) (evA F y)) fun z => K z H)
  | .extract x i => bo (exxA (evA F x) i) fun z => K z H
  | .call c => match c.callee, c.args.toList, c.argTypes.toList with
    | .builtin .len, [x], [t] => bo (seqT P t) fun b => an (b == !isStr (evA F x)) (bo (lnA (evA F x)) fun z => K z H)
    | .builtin .append, [s, x], [t, t'] => an (t == t') (bo (elA P t) fun e => an (strideOk (nlS H e.1 e.2.1 (hfT e.1) (evA F s)).1 e.2.1) (bo (apA (nlS H e.1 e.2.1 (hfT e.1) (evA F s)).2 (nlS H e.1 e.2.1 (hfT e.1) (evA F s)).1 (evA F x) e.1 e.2.2) fun r => K r.1 r.2))
    | .builtin .max, [x, y], _ => bo (mxA true (evA F x) (evA F y)) fun z => K z H
    | .builtin .min, [x, y], _ => bo (mxA false (evA F x) (evA F y)) fun z => K z H
    | .value (.func f), args, _ => CallA P f (args.map (evA F)) H K
    | _, _, _ => False
  | _ => False
theorem RelH.virt {g : Gh} {H : AS} {w : World} (R : RelH g H w) (e : TypeId) (c : Nat) (hf : Bool) : RelH g (H ++ [.row e c [] true hf]) w :=
  ⟨R.im, fun k T c' l live hf' h b hb => (by
    have := (R.lo _ _ _ hb).1
    rw [List.getElem?_append_left this] at h
    exact R.ob _ _ _ _ _ _ h b hb), fun k T c' l live hf' h r hr => (by
    cases e2 : g.s k r with
    | none => rfl
    | some b =>
      have := (R.lo _ _ _ e2).1
      rw [List.getElem?_append_left this] at h
      rw [R.ver _ _ _ _ _ _ h r hr] at e2; cases e2), R.inj, fun k r b h => by
    have := R.lo _ _ _ h
    rw [List.length_append]; exact ⟨by omega, this.2⟩, R.mbV _⟩
theorem EX.virt {g : Gh} {H : AS} (x : AO) : EX g H g (H ++ [x]) := ⟨by simp, fun k T c l live hf e => ⟨l, live, by rw [List.getElem?_append_left (List.getElem?_eq_some_iff.1 e).1]; exact e, Nat.le_refl _, fun _ _ => Eq.refl _⟩⟩
theorem nlS_ok {g : Gh} {H : AS} {w : World} (R : RelH g H w) (e : TypeId) (c : Nat) (hf : Bool) {x : AV} {v : Value} (hv : V x g v) : RelH g (nlS H e c hf x).2 w ∧ EX g H g (nlS H e c hf x).2 ∧ V (nlS H e c hf x).1 g v := by
  unfold nlS
  split
  · rw [V] at hv
    refine ⟨R.virt _ _ _, .virt _, ?_⟩
    rw [V]; exact .inl ⟨rfl, rfl, rfl, hv⟩
  · exact ⟨R, .rfl, hv⟩
theorem an_iff {b : Bool} {K : Prop} (h : an b K) : b = true ∧ K := h
theorem evs {g : Gh} {F : List AV} {a : Act} (f : RelF g F a) : ∀ l : List Operand, Vs (l.map (evA F)) g (l.map a.eval)
  | [] => by rw [List.map_nil, List.map_nil, Vs]
  | x :: l => by rw [List.map_cons, List.map_cons, Vs]; exact ⟨_, _, rfl, f.ev x, evs f l⟩
theorem evp {g : Gh} {F : List AV} {a : Act} (f : RelF g F a) : ∀ l : List (Nat × Operand), Vp g (l.map fun p => (p.1, evA F p.2)) (l.map fun p => (p.1, a.eval p.2))
  | [] => by rw [List.map_nil, List.map_nil, Vp]
  | x :: l => by rw [List.map_cons, List.map_cons, Vp]; exact ⟨_, _, rfl, f.ev x.2, evp f l⟩
theorem evo {g : Gh} {F : List AV} {a : Act} (f : RelF g F a) : ∀ x : Option Operand, Vo g (x.map (evA F)) (x.map a.eval)
  | none => trivial
  | some x => f.ev x
theorem stA_ok {P : Program} {hfT : TypeId → Bool} {o : Oper} {F : List AV} {H : AS} {K : AV → AS → Prop} {g : Gh} {w : World} {a : Act} {next : Act → World → Prop} {Q : Exit → Act → World → Prop} (h : stA P hfT o F H K) (f : RelF g F a) (R : RelH g H w) (G : GoodA g H w o a K next) : o.wp P a w next Q := by
  have val : ∀ {v x}, (execOp a.eval o).run P w = .ok (.value v) w → V x g v → K x H → o.wp P a w next Q := fun h1 h2 h3 => ops_val h1 (G _ _ _ _ _ .rfl R h2 .rfl .rfl h3)
  have val' : ∀ {v x H' g' w'}, (execOp a.eval o).run P w = .ok (.value v) w' → g.le g' → RelH g' H' w' → TX g w g' w' → V x g' v → EX g H g' H' → K x H' → o.wp P a w next Q := fun h1 h2 h3 h4 h5 h7 h6 => ops_val h1 (G _ _ _ _ _ h2 h3 h5 h4 h7 h6)
  have virt : ∀ x, (execOp a.eval o).run P w = .ok (.value (a.eval x)) w → (match nilC x, elA P o.type with
    | true, some e => K (.rf e.2.1 H.length 0 0 0) (H ++ [.row e.1 e.2.1 [] true (hfT e.1)])
    | _, _ => K (evA F x) H) → o.wp P a w next Q := fun x hr h => by
    split at h
    · rename_i e1 e2
      have : a.eval x = .slice none 0 0 := by
        unfold nilC at e1
        split at e1
        · rfl
        · cases e1
      rw [this] at hr
      refine val' hr .rfl (R.virt _ _ _) .rfl ?_ ⟨by simp, fun k T c l live hf e => ⟨l, live, by rw [List.getElem?_append_left (List.getElem?_eq_some_iff.1 e).1]; exact e, Nat.le_refl _, fun _ _ => rfl⟩⟩ h
      rw [V]; exact .inl ⟨rfl, rfl, rfl, rfl⟩
    · exact val hr (f.ev x) h
  unfold stA at h
  split at h
  · rename_i x ho
    exact virt x (by simp [execOp, ho]) h
  · rename_i x ho
    exact virt x (by simp [execOp, ho]) h
  · rename_i c x y ho
    have hc := f.ev c
    unfold cd at h
    split at h
    · rename_i b e
      rw [e, V] at hc
      cases b
      · exact val (by simp [execOp, ho, hc, asBool]) (f.ev y) (by simpa using h)
      · exact val (by simp [execOp, ho, hc, asBool]) (f.ev x) (by simpa using h)
    · exact h.elim
  · rename_i t ho
    obtain ⟨z, e1, h⟩ := bo_iff h
    obtain ⟨v, w', g', q1, q2, q3, q4, q5, q6⟩ := alloc_ok (P := P) e1 R
    exact val' (by simp [execOp, ho, q1, Result.andThen]) q2 q3 q4 q5 q6 h
  · rename_i t x ho
    obtain ⟨e1, h⟩ := an_iff h
    obtain ⟨v, w', g', q1, q2, q3, q4, q5, q6⟩ := box_ok (P := P) (t := t) (f.ev x) e1 R
    exact val' (by simp [execOp, ho, q1, Result.andThen]) q2 q3 q4 q5 q6 h
  · rename_i t ps ho
    obtain ⟨z, e1, h⟩ := bo_iff h
    obtain ⟨v, q1, q2⟩ := bldA_ok (pv := ps.map fun p => (p.1, a.eval p.2)) e1 (by simpa using evp f ps.toList) w
    exact val (by simp [execOp, ho, q1, Result.andThen]) q2 h
  · rename_i t len ps ho
    obtain ⟨e1, t1, h⟩ := bo_iff h
    obtain ⟨hc, h⟩ := an_iff h
    simp only [Bool.and_eq_true, beq_iff_eq] at hc
    obtain ⟨r, t2, h⟩ := bo_iff h
    obtain ⟨v, w', g', q1, q2, q3, q4, q5, q6⟩ := bsA_ok (P := P) (t := t) (b := e1.2.2) t1 t2 R (ps := ps.map fun p => (p.1, a.eval p.2)) (by simpa [Function.comp_def] using hc.1) (by simpa [Function.comp_def] using evs f (ps.toList.map (·.2)))
    have e2 : (ps.map fun p => (p.1, a.eval p.2)).toList.length = len := by rw [hc.2]; simp
    rw [e2] at q1
    exact val' (by simp [execOp, ho, q1, Result.andThen]) q2 q3 q4 q5 q6 h
  · rename_i t p ho
    obtain ⟨s, t1, h⟩ := bo_iff h
    obtain ⟨x, t2, h⟩ := bo_iff h
    obtain ⟨v, q1, q2⟩ := rdA_ok (P := P) t2 t1 R (f.ev p)
    exact val (by simp [execOp, ho, q1, Result.andThen]) q2 h
  · rename_i t p y ho
    obtain ⟨s, t1, h⟩ := bo_iff h
    obtain ⟨r, t2, h⟩ := bo_iff h
    obtain ⟨H', t3, h⟩ := bo_iff h
    obtain ⟨g1, a1, a2, a3, a5, a4⟩ := frzTo_ok (y := r.1) (H' := r.2) t2 R
    obtain ⟨w', q1, q2, q3, q4⟩ := wrA_ok (P := P) t3 t1 a2 (V.mono _ _ _ _ a1 (f.ev p)) (a4 _ (f.ev y))
    refine ops_skip (w' := w') (by simp [execOp, ho, q1, Result.andThen]) (G .top H' g1 w' undef a1 q2 (by rw [V]; trivial) ((TX.ghost a3).trans q3) (a5.trans q4) h)
  · rename_i x ho
    obtain ⟨z, t1, h⟩ := bo_iff h
    have hx := f.ev x
    have hz : z = evA F x ∧ ∃ ad, a.eval x = .pointer (some ad) := by
      unfold ncA at t1
      split at t1 <;> simp only [Option.some.injEq, reduceCtorEq] at t1
      · rename_i e
        rw [e, V] at hx
        obtain ⟨b, _, e3⟩ := hx
        exact ⟨by rw [← t1, e], _, e3⟩
      · rename_i e
        rw [e, V] at hx
        obtain ⟨b, o, c, u, e3, _⟩ := hx
        exact ⟨by rw [← t1, e], _, e3⟩
    obtain ⟨rfl, ad, e⟩ := hz
    exact val (v := a.eval x) (by simp [execOp, ho, e]) hx h
  · rename_i op t x y t' ho
    obtain ⟨z, t1, h⟩ := bo_iff h
    obtain ⟨r, q1, q2⟩ := bnA_ok (P := P) t1 (f.ev x) (f.ev y) t x y w
    refine val (v := r) ?_ q2 h
    simp only [execOp, ho]
    have : ∀ s : Sem Value, s.run P w = .ok r w → (do pure (.value (← s)) : Sem Next).run P w = .ok (.value r) w := fun s hs => by simp [hs, Result.andThen]
    exact this _ q1
  · rename_i op t x ho
    obtain ⟨z, t1, h⟩ := bo_iff h
    obtain ⟨r, q1, q2⟩ := unA_ok (P := P) t1 (f.ev x) w
    exact val (by simp [execOp, ho, q1, Result.andThen]) q2 h
  · rename_i s d x ho
    obtain ⟨z, t1, h⟩ := bo_iff h
    obtain ⟨r, q1, q2⟩ := cvA_ok t1 (f.ev x) w
    exact val (by simp [execOp, ho, q1, Result.andThen]) q2 h
  · rename_i t l c ho
    obtain ⟨e1, t1, h⟩ := bo_iff h
    obtain ⟨r, t2, h⟩ := bo_iff h
    obtain ⟨v, w', g', q1, q2, q3, q4, q5, q6⟩ := mkA_ok (P := P) (t := t) t1 (y := r.1) (H' := r.2) t2 R (f.ev l) (f.ev c)
    exact val' (by simp [execOp, ho, q1, Result.andThen]) q2 q3 q4 q5 q6 h
  · rename_i t x lo hi ho
    obtain ⟨q, t1, h⟩ := bo_iff h
    obtain ⟨t2, h⟩ := an_iff h
    obtain ⟨z, t3, h⟩ := bo_iff h
    have key : ∃ r, (Instr.sliceAt t (a.eval x) (lo.map a.eval) (hi.map a.eval) none).run P w = .ok r w ∧ V z g r := by
      unfold slT at t1
      split at t1
      · rename_i e hu
        cases hi' : P.info? e with
        | none => rw [hi'] at t1; cases t1
        | some i =>
          rw [hi'] at t1
          simp only [Option.map_some, Option.some.injEq] at t1
          subst t1
          exact slA_ok t3 (.inr ⟨hu, hi', t2⟩) (f.ev x) (evo f lo) (evo f hi) w
      · rename_i hu
        simp only [Option.some.injEq] at t1
        subst t1
        exact slA_ok (e := 0) (i := default) t3 (.inl ⟨t2, hu⟩) (f.ev x) (evo f lo) (evo f hi) w
      · cases t1
    obtain ⟨r, q1, q2⟩ := key
    exact val (by simp [execOp, ho, q1, Result.andThen]) q2 h
  · rename_i s x fi ho
    obtain ⟨q, t1, h⟩ := bo_iff h
    obtain ⟨z, t2, h⟩ := bo_iff h
    obtain ⟨r, q1, q2⟩ := faA_ok (P := P) (o := q.1) (n := q.2.1) (b := q.2.2) t2 t1 (f.ev x) w
    exact val (by simp [execOp, ho, q1, Result.andThen]) q2 h
  · rename_i s x fi ho
    obtain ⟨q, t1, h⟩ := bo_iff h
    obtain ⟨z, t2, h⟩ := bo_iff h
    obtain ⟨r, q1, q2⟩ := fdA_ok (P := P) (o := q.1) (n := q.2.1) (b := q.2.2) t2 t1 (f.ev x) w
    exact val (by simp [execOp, ho, q1, Result.andThen]) q2 h
  · rename_i t x y ho
    obtain ⟨e1, t1, h⟩ := bo_iff h
    obtain ⟨t2, h⟩ := an_iff h
    obtain ⟨z, t3, h⟩ := bo_iff h
    obtain ⟨zz, E, hu, i, zv, hi, hsz, hby, hz, hzs, hc⟩ := elA_ok (c := e1.2.1) (b := e1.2.2) t1
    obtain ⟨r, q1, q2⟩ := ixA_ok (P := P) t3 hu hi (by rw [hsz]; exact t2) (f.ev x) (f.ev y) w
    exact val (by simp [execOp, ho, q1, Result.andThen]) q2 h
  · rename_i t x y ho
    obtain ⟨t1, h⟩ := an_iff h
    obtain ⟨z, t2, h⟩ := bo_iff h
    have hu : P.underlying t = some .string := by
      unfold isStrT at t1
      split at t1
      · assumption
      · cases t1
    obtain ⟨r, q1, q2⟩ := sxA_ok (P := P) t2 hu (f.ev x) (f.ev y) w
    exact val (by simp [execOp, ho, q1, Result.andThen]) q2 h
  · rename_i x i ho
    obtain ⟨z, t1, h⟩ := bo_iff h
    obtain ⟨r, q1, q2⟩ := exA_ok (P := P) t1 (f.ev x) w
    exact val (by simp [execOp, ho, q1, Result.andThen]) q2 h
  · rename_i c ho
    obtain ⟨callee, args, tys⟩ := c
    obtain ⟨args⟩ := args
    obtain ⟨tys⟩ := tys
    simp only at h
    split at h
    · rename_i x t
      obtain ⟨b, t1, h⟩ := bo_iff h
      obtain ⟨t2, h⟩ := an_iff h
      obtain ⟨z, t3, h⟩ := bo_iff h
      obtain ⟨r, q1, q2⟩ := lnA_ok (P := P) (ty := o.type) t3 t1 (by simpa using t2) (f.ev x) w
      exact val (by simp [execOp, ho, resolve, invoke, builtin, q1, Result.andThen]) q2 h
    · rename_i s x t t'
      have h1 := h.2; have t0 := h.1; clear h
      have h := h1
      obtain rfl : t = t' := by simpa using t0
      obtain ⟨e1, t1, h⟩ := bo_iff h
      obtain ⟨t2, h⟩ := an_iff h
      obtain ⟨r, t3, h⟩ := bo_iff h
      obtain ⟨zz, E, hu, i, zv, hi, hsz, hby, hz, hzs, hc⟩ := elA_ok (c := e1.2.1) (b := e1.2.2) t1
      obtain ⟨n1, n2, n3⟩ := nlS_ok R e1.1 e1.2.1 (hfT e1.1) (f.ev s)
      refine apA_ok E ho t3 (fun c' k r off n e => ?_) n1 n3 (f.ev x) (fun x H' g' w' v a b c d e' k => G x H' g' w' v a b c d (n2.trans e') k) h
      rw [e] at t2
      simpa [strideOk] using t2
    · rename_i x y
      obtain ⟨z, t1, h⟩ := bo_iff h
      obtain ⟨r, q1, q2⟩ := mxA_ok (P := P) t1 (f.ev x) (f.ev y) w
      simp only [if_true] at q1
      exact val (by simp [execOp, ho, resolve, invoke, builtin, Go.Builtin.max_, q1, Result.andThen]) q2 h
    · rename_i x y
      obtain ⟨z, t1, h⟩ := bo_iff h
      obtain ⟨r, q1, q2⟩ := mxA_ok (P := P) t1 (f.ev x) (f.ev y) w
      simp only [Bool.false_eq_true, if_false] at q1
      exact val (by simp [execOp, ho, resolve, invoke, builtin, Go.Builtin.min_, q1, Result.andThen]) q2 h
    · rename_i fn
      obtain ⟨t0, h⟩ := h
      have hc := h g w _ R f.gl (evs f args)
      have hrun : (execOp a.eval o).run P w = .ok (.enter fn (args.map a.eval).toArray) w := by
        unfold enterOk at t0
        split at t0
        · rename_i fd hfd
          simp only [Bool.and_eq_true, bne_iff_ne, ne_eq] at t0
          have hb : fd.body.isNone = false := by cases hb : fd.body <;> simp_all
          have hb2 : ¬ fd.body = none := by cases hb : fd.body <;> simp_all
          simp [hb2, execOp, ho, resolve, invoke, Act.eval, Deferred.ofValue, callFunc, hfd, t0.2, Result.andThen]
        · cases t0
      unfold Oper.wp
      rw [hrun, Oper.upon_enter]
      refine hc.mono fun e w' ⟨v, x, H', g', h1, h2, h3, h4, h5, h7, h6⟩ => ?_
      subst h1
      exact G _ _ _ _ _ h2 h3 h5 h4 h7 h6
    · exact h.elim
  · exact h.elim
end Go.Proofs.YtlgdojkmbfbnjaaGreatDoor

namespace Go.Proofs.YtlgdojkmbfbnjaaGreatDoor
open Go.RowKit

def setF (F : List AV) (d : Option Tmp) (x : AV) : List AV := match d with
  | some i => F.set i x
  | none => F
theorem RelF.setF {g : Gh} {F : List AV} {a : Act} (f : RelF g F a) {d : Option Tmp} {x : AV} {v : Value} (h : V x g v) : RelF g (Go.Proofs.YtlgdojkmbfbnjaaGreatDoor.setF F d x) (a.put d v) := by
  have := f.put (d := d) h
  cases d <;> exact this
/-- Whether a guarded operation is wanted. -/
def gdA (ops : Array Oper) (F : List AV) (o : Oper) : Option Bool := match o.guard with
  | none => some true
  | some (j, want) => match (ops[j]?).bind (·.dst) with
    | some d => match F.getD d .top with
      | .vl (.bool b) => some (b == want)
      | .vl (.tuple _) => some false
      | _ => none
    | none => none
theorem gdA_ok {ops : Array Oper} {F : List AV} {o : Oper} {b : Bool} {g : Gh} {a : Act} (h : gdA ops F o = some b) (f : RelF g F a) : Region.wanted o (yielded ops a.tmps) = b := by
  unfold gdA at h
  unfold Region.wanted
  split at h
  · rename_i e
    simp only [Option.some.injEq] at h
    simp only [e]; exact h
  · rename_i j want e
    simp only [e]
    split at h
    · rename_i d hd
      split at h
      · rename_i b' hb
        simp only [Option.some.injEq] at h
        have hv := f.ev (.tmp d)
        simp only [evA, hb, Act.eval] at hv
        rw [V] at hv
        have hy : yielded ops a.tmps j = some b' := by
          unfold yielded
          rw [hd]
          simp only [Option.bind_some]
          have hlt : d < a.tmps.size := by
            rcases Nat.lt_or_ge d a.tmps.size with q | q
            · exact q
            · rw [Array.getD_eq_getD_getElem?, Array.getElem?_eq_none q] at hv; cases hv
          rw [Array.getD_eq_getD_getElem?, Array.getElem?_eq_getElem hlt] at hv
          rw [Array.getElem?_eq_getElem hlt]
          simp only [Option.getD_some] at hv
          rw [hv]
        rw [hy, ← h]
        cases b' <;> cases want <;> rfl
      · rename_i cs hb
        simp only [Option.some.injEq] at h
        subst h
        have hv := f.ev (.tmp d)
        simp only [evA, hb, Act.eval] at hv
        rw [V] at hv
        have hy : yielded ops a.tmps j = none := by
          unfold yielded
          rw [hd]
          simp only [Option.bind_some]
          rw [Array.getD_eq_getD_getElem?] at hv
          cases q : a.tmps[d]? with
          | none => rfl
          | some v => rw [q] at hv; simp only [Option.getD_some] at hv; rw [hv]
        rw [hy]; rfl
      · cases h
    · cases h
def regS (P : Program) (hfT : TypeId → Bool) (ops : Array Oper) : List Oper → List AV → AS → (List AV → AS → Prop) → Prop
  | [], F, H, K => K F H
  | o :: r, F, H, K => bo (gdA ops F o) fun b => if b then stA P hfT o F H fun x H' => regS P hfT ops r (setF F o.dst x) H' K else regS P hfT ops r (setF F o.dst (.vl undef)) H K
theorem regS_ok {P : Program} {hfT : TypeId → Bool} {ops : Array Oper} {Q : Exit → Act → World → Prop} : ∀ {l : List Oper} {F : List AV} {H : AS} {K : List AV → AS → Prop} {g : Gh} {w : World} {a : Act}, regS P hfT ops l F H K → RelF g F a → RelH g H w →
    (∀ F' H' g' a' w', g.le g' → RelF g' F' a' → RelH g' H' w' → TX g w g' w' → EX g H g' H' → K F' H' → Q .normal a' w') → wpList P ops Q l a w
  | [], F, H, K, g, w, a, h, f, R, k => k _ _ _ _ _ .rfl f R .rfl .rfl h
  | o :: r, F, H, K, g, w, a, h, f, R, k => by
    rw [regS] at h
    obtain ⟨b, hb, h⟩ := bo_iff h
    have hw := gdA_ok hb f
    rw [wpList]
    cases b
    · rw [if_neg (by rw [hw]; simp)]
      exact regS_ok (by simpa using h) (f.setF (by rw [V])) R k
    · rw [if_pos hw]
      refine .inl (stA_ok (by simpa using h) f R fun x H' g' w' v q1 q2 q3 q4 q5 q6 => ?_)
      exact regS_ok q6 ((f.mono q1).setF q3) q2 fun F2 H2 g2 a2 w2 r1 r2 r3 r4 r5 r6 => k _ _ _ _ _ (q1.trans r1) r2 r3 (q4.trans r4) (q5.trans r5) r6
/-- One of two. -/
def pkA (c x y : AV) : Option AV := match c with
  | .vl (.bool b) => some (if b then x else y)
  | _ => none
/-- Values that only read. -/
def valA (P : Program) (o : Oper) (F : List AV) (H : AS) : Option AV :=
  match o.op with
  | .move x | .assign x => if nilC x then none else some (evA F x)
  | .pick c x y => pkA (evA F c) (evA F x) (evA F y)
  | .nilCheck x => ncA (evA F x)
  | .binOp op _ x y _ => bnA op (evA F x) (evA F y)
  | .unOp op _ x => unA op (evA F x)
  | .convert s d x => cvA P s d (evA F x)
  | .build t ps => bldA P t (ps.toList.map fun p => (p.1, evA F p.2))
  | .load t p => match tyA P t with
    | some s => rdA H (evA F p) s.1 s.2
    | none => none
  | .slice t x lo hi none => match slT P t with
    | some q => if slC q (evA F x) then slA (evA F x) (lo.map (evA F)) (hi.map (evA F)) else none
    | none => none
  | .fieldAddr s x f => match fiA P s f with
    | some q => faA (evA F x) q.1
    | none => none
  | .field s x f => match fiA P s f with
    | some q => fdA (evA F x) q.1 q.2.1 q.2.2
    | none => none
  | .indexAddr t x y => match elA P t with
    | some e => if strideOk (evA F x) e.2.1 then ixA (evA F x) (evA F y) else none
    | none => none
  | .index t x y => if isStrT P t then sxA (evA F x) (evA F y) else none
  | .extract x i => exxA (evA F x) i
  | .call c => match c.callee, c.args.toList, c.argTypes.toList with
    | .builtin .len, [x], [t] => match seqT P t with
      | some b => if b == !isStr (evA F x) then lnA (evA F x) else none
      | none => none
    | .builtin .max, [x, y], _ => mxA true (evA F x) (evA F y)
    | .builtin .min, [x, y], _ => mxA false (evA F x) (evA F y)
    | _, _, _ => none
  | _ => none
theorem valA_st {P : Program} {hfT : TypeId → Bool} {o : Oper} {F : List AV} {H : AS} {x : AV} {K : AV → AS → Prop} (h : valA P o F H = some x) (k : K x H) : stA P hfT o F H K := by
  have B : ∀ {α : Type} {e : Option α} {y : α} {K : α → Prop}, e = some y → K y → bo e K := fun e k => by rw [e]; exact k
  unfold valA at h
  unfold stA
  split at h
  · rename_i y ho
    split at h
    · cases h
    · rename_i hn
      simp only [Option.some.injEq] at h
      subst h
      simp only [ho]
      have : nilC y = false := by simpa using hn
      simp only [this]; exact k
  · rename_i y ho
    split at h
    · cases h
    · rename_i hn
      simp only [Option.some.injEq] at h
      subst h
      simp only [ho]
      have : nilC y = false := by simpa using hn
      simp only [this]; exact k
  · rename_i ho; simp only [ho]
    unfold pkA at h
    split at h
    · rename_i b e
      simp only [Option.some.injEq] at h
      subst h
      rw [e, cd]
      cases b
      · exact k
      · exact k
    · cases h
  · rename_i ho; simp only [ho]; exact B h k
  · rename_i ho; simp only [ho]; exact B h k
  · rename_i ho; simp only [ho]; exact B h k
  · rename_i ho; simp only [ho]; exact B h k
  · rename_i ho; simp only [ho]; exact B h k
  · rename_i ho; simp only [ho]
    split at h
    · rename_i s e; exact B e (B h k)
    · cases h
  · rename_i ho; simp only [ho]
    split at h
    · rename_i q e
      split at h
      · rename_i hq; exact B e ⟨hq, B h k⟩
      · cases h
    · cases h
  · rename_i ho; simp only [ho]
    split at h
    · rename_i s e; exact B e (B h k)
    · cases h
  · rename_i ho; simp only [ho]
    split at h
    · rename_i s e; exact B e (B h k)
    · cases h
  · rename_i ho; simp only [ho]
    split at h
    · rename_i q e
      split at h
      · rename_i hq; exact B e ⟨hq, B h k⟩
      · cases h
    · cases h
  · rename_i ho; simp only [ho]
    split at h
    · rename_i hq; exact ⟨hq, B h k⟩
    · cases h
  · rename_i ho; simp only [ho]; exact B h k
  · rename_i c ho
    simp only [ho]
    split at h
    · rename_i x' t e1 e2 e3
      simp only [e1, e2, e3]
      split at h
      · rename_i b e
        split at h
        · rename_i hq; exact B e ⟨hq, B h k⟩
        · cases h
      · cases h
    · rename_i x' y' e1 e2
      simp only [e1, e2]
      exact B h k
    · rename_i x' y' e1 e2
      simp only [e1, e2]
      exact B h k
    · cases h
  · cases h
/-- New objects, that nothing is given up for. -/
def newA (P : Program) (hfT : TypeId → Bool) (o : Oper) (F : List AV) : Option (AO × (Nat → AV)) :=
  match o.op with
  | .alloc t => match zrA P t with
    | some z => some (.row t z.cells.length [z] true false, fun n => .pt z.cells.length n 1 0 0)
    | none => none
  | .box t x => if (evA F x).okc then some (.row t (evA F x).cells.length [evA F x] true false, fun n => .pt (evA F x).cells.length n 1 0 0) else none
  | .makeSlice t l c => match elA P t with
    | some e => match evA F l, evA F c, zrA P e.1 with
      | .vl (.int _ n), .vl (.int _ m), some z => if n = m ∧ 0 ≤ n ∧ n.toNat * e.2.2 ≤ 140737488355328 ∧ (hfT e.1 = true → z.hfc = true) then some (.row e.1 e.2.1 (List.replicate n.toNat z) true (hfT e.1), fun k => .rf e.2.1 k n.toNat 0 n.toNat) else none
      | _, _, _ => none
    | none => none
  | .buildSlice t len ps => match elA P t with
    | some e => if ps.toList.map (·.1) = List.range' 0 ps.toList.length ∧ len = ps.toList.length ∧ ((ps.toList.map fun p => evA F p.2).all fun x => x.okc && x.cells.length == e.2.1) = true ∧ (hfT e.1 = true → (ps.toList.map fun p => evA F p.2).all AV.hfc = true) ∧ ps.toList.length * e.2.1 ≤ 16777216 ∧ 0 < e.2.1 then
        some (.row e.1 e.2.1 (ps.toList.map fun p => evA F p.2) true (hfT e.1), fun k => .rf e.2.1 k ps.toList.length 0 ps.toList.length) else none
    | none => none
  | _ => none
end Go.Proofs.YtlgdojkmbfbnjaaGreatDoor

namespace Go.Proofs.YtlgdojkmbfbnjaaGreatDoor
open Go.RowKit

/-- An object that was only announced is made. -/
theorem RelH.mat {g : Gh} {H : AS} {w : World} (R : RelH g H w) {n : Nat} {T : TypeId} {c : Nat} {l : List AV} {hf : Bool} (e : H[n]? = some (.row T c l true hf)) (hn : ∀ r, g.s n r = none) {cs : List Value} (hl : Vc c l (if hf then g.z else g) cs) (hz : l.length ≤ 140737488355328) :
    RelH (g.put n l.length w.heap.size l.length) H (w.alloc (.cells cs.toArray T)) ∧ g.le (g.put n l.length w.heap.size l.length) ∧ TX g w (g.put n l.length w.heap.size l.length) (w.alloc (.cells cs.toArray T)) := by
  have q : g.le (g.put n l.length w.heap.size l.length) := Gh.le_put (hn _)
  have hst : ∀ k r' b, (g.put n l.length w.heap.size l.length).s k r' = some b → (k = n ∧ r' = l.length ∧ b = w.heap.size) ∨ g.s k r' = some b := fun k r' b e => by
    have e : (if k = n ∧ r' = l.length then some w.heap.size else g.s k r') = some b := e
    split at e
    · rename_i h; exact .inl ⟨h.1, h.2, (Option.some.inj e).symm⟩
    · exact .inr e
  refine ⟨⟨R.im.alloc _, fun k T' c' l' live' hf' e1 b hb => ?_, fun k T' c' l' live' hf' e1 r2 h2 => ?_, fun k r1 k' r2 b e1 e2 => ?_, fun k r' b e1 => ?_, R.mbK q fun k o e1 hm => ⟨e1, fun b hb => (hst _ _ _ hb).elim (fun h => by obtain ⟨rfl, -, -⟩ := h; rw [e] at e1; obtain rfl := Option.some.inj e1; cases hm) fun h => ⟨h, Below.heap_alloc _ _ _ (R.lo _ _ _ h).2, rfl⟩⟩⟩, q, ⟨(Tu.refl _ _).alloc _, fun b ⟨k, r', e⟩ => (hst _ _ _ e).elim (fun h => .inr (Nat.le_of_eq h.2.2.symm)) fun h => .inl ⟨k, r', h⟩, fun _ => .inl rfl⟩⟩
  · rcases hst _ _ _ hb with ⟨rfl, -, rfl⟩ | hb
    · rw [e] at e1
      simp only [Option.some.injEq, AO.row.injEq] at e1
      obtain ⟨rfl, rfl, rfl, rfl, rfl⟩ := e1
      refine ⟨cs, ?_, ?_, hz, ?_⟩
      · cases hf
        · exact Vc.mono c l _ _ cs q hl
        · exact Vc.mono c l _ _ cs q.z hl
      · rw [(Gh.put_s _ _ _ _ _).2]; exact Nat.le_refl _
      · rw [(Gh.put_s _ _ _ _ _).2]
        exact own_lit R.im (Nat.zero_le _) cs l.length c T (by unfold maxLen; omega) hl.len
    · exact (R.ob _ _ _ _ _ _ e1 b hb).mono q hb (Below.heap_alloc _ _ _ (R.lo _ _ _ hb).2) fun _ => rfl
  · cases e3 : (g.put n l.length w.heap.size l.length).s k r2 with
    | none => rfl
    | some b =>
      rcases hst _ _ _ e3 with ⟨rfl, rfl, rfl⟩ | hb
      · rw [e] at e1
        simp only [Option.some.injEq, AO.row.injEq] at e1
        obtain ⟨-, -, rfl, -, -⟩ := e1
        omega
      · rw [R.ver _ _ _ _ _ _ e1 r2 h2] at hb; cases hb
  · rcases hst _ _ _ e1 with ⟨rfl, rfl, rfl⟩ | h1 <;> rcases hst _ _ _ e2 with ⟨rfl, rfl, h⟩ | h2
    · rfl
    · have := (R.lo _ _ _ h2).2; omega
    · subst h; have := (R.lo _ _ _ h1).2; omega
    · exact R.inj _ _ _ _ _ h1 h2
  · rcases hst _ _ _ e1 with ⟨rfl, rfl, rfl⟩ | h
    · exact ⟨(List.getElem?_eq_some_iff.1 e).1, by simp⟩
    · have := R.lo _ _ _ h; simp; omega
/-- Its address. -/
theorem V_pt {g : Gh} {c n b m : Nat} (h : g.s n m = some b) : V (.pt c n m 0 0) g (.pointer (some ⟨b, 0, none⟩)) := by
  rw [V]; exact ⟨b, h, by simp⟩
theorem V_rf {g : Gh} {c n b m : Nat} (h : g.s n m = some b) (h2 : g.cp n m = m) : V (.rf c n m 0 m) g (.slice (some ⟨b, 0, none⟩) m m) := by
  rw [V]; exact .inr ⟨b, m, h, ⟨0, rfl, .inr (by simp)⟩, by rw [h2]; simp, Nat.le_refl _⟩
theorem newA_ok {P : Program} {hfT : TypeId → Bool} {o : Oper} {F : List AV} {x : AO} {mk : Nat → AV} {g : Gh} {a : Act} (h : newA P hfT o F = some (x, mk)) (f : RelF g F a) (w : World) :
    ∃ T c l hf v cs, x = .row T c l true hf ∧ (execOp a.eval o).run P w = .ok (.value v) (w.alloc (.cells cs.toArray T)) ∧ Vc c l (if hf then g.z else g) cs ∧ l.length ≤ 140737488355328 ∧ ∀ g' n, g'.s n l.length = some w.heap.size → g'.cp n l.length = l.length → V (mk n) g' v := by
  unfold newA at h
  split at h
  · rename_i t ho
    split at h
    · rename_i z hz
      simp only [Option.some.injEq, Prod.mk.injEq] at h
      obtain ⟨rfl, rfl⟩ := h
      unfold zrA at hz
      split at hz
      · rename_i i hi
        cases hzz : i.zero with
        | none => rw [hzz] at hz; cases hz
        | some zv =>
          rw [hzz] at hz
          simp only [Option.map_some, Option.some.injEq] at hz
          subst hz
          refine ⟨_, _, _, _, .pointer (some ⟨w.heap.size, 0, none⟩), zv.cells.toList, rfl, ?_, ?_, by simp, fun g' n h1 _ => V_pt h1⟩
          · simp [execOp, ho, Instr.alloc, zeroValue, typeInfo, hi, hzz, newVar, newRow, Result.andThen]
          · simp only [Bool.false_eq_true, if_false]
            rw [Vc]; exact ⟨zv, [], by simp, (cst_cells zv).symm, V_cst _ _, by rw [Vc]⟩
      · cases hz
    · cases h
  · rename_i t y ho
    split at h
    · rename_i hk
      simp only [Option.some.injEq, Prod.mk.injEq] at h
      obtain ⟨rfl, rfl⟩ := h
      have hv := f.ev y
      refine ⟨_, _, _, _, .pointer (some ⟨w.heap.size, 0, none⟩), (a.eval y).cells.toList, rfl, ?_, ?_, by simp, fun g' n h1 _ => V_pt h1⟩
      · simp [execOp, ho, Instr.box, newVar, newRow, Result.andThen]
      · simp only [Bool.false_eq_true, if_false]
        rw [Vc]; exact ⟨a.eval y, [], by simp, hv.size hk, hv, by rw [Vc]⟩
    · cases h
  · rename_i t l c ho
    split at h
    · rename_i e he
      obtain ⟨zz, E, hu, i, zv, hi, hsz, hby, hz, hzs, hc⟩ := elA_ok (e := e.1) (c := e.2.1) (b := e.2.2) he
      have hl := f.ev l
      have hcc := f.ev c
      split at h
      · rename_i k1 n k2 m z e1 e2 e3
        rw [e1, V] at hl
        rw [e2, V] at hcc
        split at h
        · rename_i hh
          obtain ⟨rfl, h0, hb, hhf⟩ := hh
          simp only [Option.some.injEq, Prod.mk.injEq] at h
          obtain ⟨rfl, rfl⟩ := h
          unfold zrA at e3
          rw [hi] at e3
          simp only [hz, Option.map_some, Option.some.injEq] at e3
          subst e3
          have hn := Nat.le_mul_of_pos_right n.toNat E.bpos
          have hbytes : (i.bytes : Int) * n ≤ 281474976710656 := by
            have hcast : (i.bytes : Int) * n = ((n.toNat * e.2.2 : Nat) : Int) := by
              rw [hby, Int.natCast_mul, Int.toNat_of_nonneg h0, Int.mul_comm]
            omega
          have hr := run_make (P := P) w t e.1 i zv hu hi hz k1 k2 n n h0 (Int.le_refl _) hbytes (by omega)
          rw [hsz] at hr
          refine ⟨_, _, _, _, .slice (some ⟨w.heap.size, 0, none⟩) n.toNat n.toNat, (List.replicate n.toNat zv.cells.toList).flatten, rfl, ?_, ?_, by rw [List.length_replicate]; omega, fun g' k h1 h2 => ?_⟩
          · rw [← mk_cells zv.cells e.2.1 hzs hc]
            simp [execOp, ho, hl, hcc, hr, Result.andThen]
          · have hv := Vc_rep (V_cst (if hfT e.1 then g.z else g) zv) hzs n.toNat
            exact hv
          · rw [List.length_replicate] at h1 h2
            exact V_rf h1 h2
        · cases h
      · cases h
    · cases h
  · rename_i t len ps ho
    split at h
    · rename_i e he
      obtain ⟨zz, E, hu, i, zv, hi, hsz, hby, hz, hzs, hc⟩ := elA_ok (e := e.1) (c := e.2.1) (b := e.2.2) he
      split at h
      · rename_i hh
        obtain ⟨h1, h2, h3, h4, h5, h6⟩ := hh
        simp only [Option.some.injEq, Prod.mk.injEq] at h
        obtain ⟨rfl, rfl⟩ := h
        have hv := evs f (ps.toList.map (·.2))
        rw [List.map_map, List.map_map] at hv
        have hv : Vs (ps.toList.map fun p => evA F p.2) g (ps.toList.map fun p => a.eval p.2) := hv
        have hvc := hv.vc h3
        have hn : ps.toList.length ≤ 16777216 := by have := Nat.le_mul_of_pos_right ps.toList.length h6; omega
        have hrun : (Instr.buildSlice t len (ps.map fun p => (p.1, a.eval p.2))).run P w = .ok (.slice (some ⟨w.heap.size, 0, none⟩) ps.toList.length ps.toList.length) (w.alloc (.cells ((ps.toList.map fun p => a.eval p.2).flatMap fun v => v.cells.toList).toArray e.1)) := by
          rw [h2]
          rcases Nat.eq_zero_or_pos ps.toList.length with z0 | z0
          · have hps : ps = #[] := by
              have : ps.toList = [] := List.eq_nil_of_length_eq_zero z0
              simpa using this
            subst hps
            simp [Instr.buildSlice, run_underlying hu, sizeOf, typeInfo, hi, Instr.fill, newRow, Array.range_zero']
          · have hmc : 0 < ps.toList.length * e.2.1 := Nat.mul_pos z0 h6
            refine run_buildSlice w t e.1 ps.toList.length _ _ i zv hu hi hz (by rw [hsz]; omega) (by rw [hsz]; omega) ?_
            have hzip := zip_parts a.eval ps.toList 0 h1
            have := Great.fill_whole hc (ps.toList.map fun p => a.eval p.2) (Array.map (fun x => zv.cells[x % zv.cells.size]!) (Array.range (ps.toList.length * e.2.1))) (hv.sizes h3) (by rw [List.length_map]; simp)
            rw [← hzip] at this
            rw [hsz, Array.toList_map]; exact this
        refine ⟨_, _, _, _, .slice (some ⟨w.heap.size, 0, none⟩) ps.toList.length ps.toList.length, (ps.toList.map fun p => a.eval p.2).flatMap fun v => v.cells.toList, rfl, by simp only [execOp, ho]; simp only [Sem.run_bind, hrun, Result.andThen_ok, Sem.run_pure], ?_, by rw [List.length_map]; omega, fun g' k q1 q2 => ?_⟩
        · cases hq : hfT e.1
          · exact hvc
          · exact hvc.hf (h4 hq)
        · rw [List.length_map] at q1 q2
          exact V_rf q1 q2
      · cases h
    · cases h
  · cases h
end Go.Proofs.YtlgdojkmbfbnjaaGreatDoor

namespace Go.Proofs.YtlgdojkmbfbnjaaGreatDoor
open Go.RowKit

/-- An operation that has been reckoned: with which slots, what it gives, its object. -/
structure EntA where
  i : Nat
  F : List AV
  x : AV
  n : Nat
  wt : Bool
def dstO (ops : Array Oper) (i : Nat) : Option Tmp := (ops[i]?).bind (·.dst)
def rep (ops : Array Oper) (F0 : List AV) (E : List EntA) : List AV := E.foldl (fun F e => setF F (dstO ops e.i) e.x) F0
theorem setF_len (F : List AV) (d : Option Tmp) (x : AV) : (setF F d x).length = F.length := by cases d <;> simp [setF]
theorem rep_len (ops : Array Oper) (E : List EntA) : ∀ F0, (rep ops F0 E).length = F0.length := by
  induction E with
  | nil => intro F0; rfl
  | cons e E ih => intro F0; show (rep ops _ E).length = _; rw [ih, setF_len]
theorem rep_app (ops : Array Oper) (F0 : List AV) (E E' : List EntA) : rep ops F0 (E ++ E') = rep ops (rep ops F0 E) E' := by unfold rep; rw [List.foldl_append]
/-- A slot depends only on who writes it. -/
theorem rep_slot (ops : Array Oper) (d : Nat) : ∀ (E : List EntA) (F0 F1 : List AV), F0.length = F1.length → F0[d]? = F1[d]? → (rep ops F0 E)[d]? = (rep ops F1 (E.filter fun e => dstO ops e.i == some d))[d]?
  | [], F0, F1, _, h => h
  | e :: E, F0, F1, hl, h => by
    show (rep ops (setF F0 (dstO ops e.i) e.x) E)[d]? = _
    by_cases hd : dstO ops e.i = some d
    · rw [List.filter_cons_of_pos (by simpa using hd)]
      show _ = (rep ops (setF F1 (dstO ops e.i) e.x) _)[d]?
      refine rep_slot ops d E _ _ (by rw [setF_len, setF_len, hl]) ?_
      rw [hd]
      simp only [setF]
      by_cases hlt : d < F0.length
      · rw [List.getElem?_set_self hlt, List.getElem?_set_self (by omega)]
      · rw [List.getElem?_eq_none (by simp; omega), List.getElem?_eq_none (by simp; omega)]
    · rw [List.filter_cons_of_neg (by simpa using hd)]
      refine rep_slot ops d E _ _ (by rw [setF_len, hl]) ?_
      rw [← h]
      cases hq : dstO ops e.i with
      | none => rfl
      | some q =>
        simp only [setF]
        rw [List.getElem?_set_ne]
        rintro rfl; exact hd hq
theorem rep_eq (ops : Array Oper) (d : Nat) (F0 : List AV) {E E' : List EntA} (h : (E.filter fun e => dstO ops e.i == some d) = E'.filter fun e => dstO ops e.i == some d) : (rep ops F0 E)[d]? = (rep ops F0 E')[d]? := by
  rw [rep_slot ops d E F0 F0 rfl rfl, h, ← rep_slot ops d E' F0 F0 rfl rfl]
/-- The slots that an operation looks at. -/
def looksA (ops : Array Oper) (o : Oper) : List Tmp := (o.op.operands.toList.filterMap fun | .tmp t => some t | _ => none) ++ (match o.guard with
  | some (j, _) => (dstO ops j).toList
  | none => [])
def agr (F F' : List AV) (o : Oper) : Prop := ∀ x ∈ o.op.operands, evA F x = evA F' x
theorem agr_of {ops : Array Oper} {o : Oper} {F F' : List AV} (h : ∀ d ∈ looksA ops o, F[d]? = F'[d]?) : agr F F' o ∧ gdA ops F o = gdA ops F' o := by
  refine ⟨fun x hx => ?_, ?_⟩
  · cases x with
    | tmp t =>
      simp only [evA, List.getD_eq_getElem?_getD]
      rw [h t]
      unfold looksA
      refine List.mem_append_left _ (List.mem_filterMap.2 ⟨.tmp t, by simpa using hx, rfl⟩)
    | _ => rfl
  · unfold gdA
    split
    · rfl
    · rename_i j want e
      show (match dstO ops j with | some d => _ | none => none) = (match dstO ops j with | some d => _ | none => none)
      cases hd : dstO ops j with
      | none => rfl
      | some d =>
        simp only [List.getD_eq_getElem?_getD]
        rw [h d]
        unfold looksA
        rw [e]
        exact List.mem_append_right _ (by simp [hd])
theorem map_agr {F F' : List AV} : ∀ {l : List (Nat × Operand)}, (∀ x ∈ l.map (·.2), evA F x = evA F' x) → (l.map fun p => (p.1, evA F p.2)) = (l.map fun p => (p.1, evA F' p.2)) ∧ (l.map fun p => evA F p.2) = l.map fun p => evA F' p.2
  | [], _ => ⟨rfl, rfl⟩
  | p :: l, h => by
    have ih := map_agr (l := l) fun x hx => h x (by simp only [List.map_cons]; exact List.mem_cons_of_mem _ hx)
    have h0 := h p.2 (by simp)
    simp only [List.map_cons, h0, ih.1, ih.2, and_self]
theorem map_agr1 {F F' : List AV} {l : List Operand} (h : ∀ x ∈ l, evA F x = evA F' x) : l.map (evA F) = l.map (evA F') := List.map_congr_left h
theorem opt_agr {F F' : List AV} {l : Option Operand} (h : ∀ x ∈ l.toArray, evA F x = evA F' x) : l.map (evA F) = l.map (evA F') := by
  cases l with
  | none => rfl
  | some x => simp only [Option.map_some]; rw [h x (by simp)]
theorem valA_congr {P : Program} {o : Oper} {F F' : List AV} {H : AS} (h : agr F F' o) : valA P o F H = valA P o F' H := by
  unfold agr at h
  unfold valA
  split <;> rename_i ho <;> simp only [ho, Op.operands] at h <;> first
    | rfl
    | (simp at h; simp only [h]; done)
    | skip
  · rw [(map_agr (fun x hx => h x (by simpa using hx))).1]
  · rename_i x0 lo0 hi0
    have h1 := h x0 (Array.mem_append_left _ (Array.mem_append_left _ (Array.mem_append_left _ (by simp))))
    have h2 := opt_agr fun x hx => h x (Array.mem_append_left _ (Array.mem_append_left _ (Array.mem_append_right _ hx)))
    have h3 := opt_agr fun x hx => h x (Array.mem_append_left _ (Array.mem_append_right _ hx))
    simp only [h1, h2, h3]
  · rename_i c
    obtain ⟨callee, args, tys⟩ := c
    obtain ⟨args⟩ := args
    simp only
    split
    · rename_i x t e
      have h1 := h x (by simp [Call.operands])
      simp only [h1]
    · rename_i x y
      have h1 := h x (by simp [Call.operands])
      have h2 := h y (by simp [Call.operands])
      simp only [h1, h2]
    · rename_i x y
      have h1 := h x (by simp [Call.operands])
      have h2 := h y (by simp [Call.operands])
      simp only [h1, h2]
    · rfl
theorem newA_congr {P : Program} {hfT : TypeId → Bool} {o : Oper} {F F' : List AV} (h : agr F F' o) : newA P hfT o F = newA P hfT o F' := by
  unfold agr at h
  unfold newA
  split <;> rename_i ho <;> simp only [ho, Op.operands] at h <;> first
    | rfl
    | (simp at h; simp only [h]; done)
    | skip
  rw [(map_agr (fun x hx => h x (by simpa using hx))).2]
theorem stA_congr {P : Program} {hfT : TypeId → Bool} {o : Oper} {F F' : List AV} {H : AS} {K : AV → AS → Prop} (h : agr F F' o) : stA P hfT o F H K = stA P hfT o F' H K := by
  unfold agr at h
  unfold stA
  split <;> rename_i ho <;> simp only [ho, Op.operands] at h <;> first
    | rfl
    | (simp at h; simp only [h]; done)
    | skip
  · rw [(map_agr (fun x hx => h x (by simpa using hx))).1]
  · rw [(map_agr (fun x hx => h x (by simpa using hx))).2]
  · rename_i x0 lo0 hi0
    have h1 := h x0 (Array.mem_append_left _ (Array.mem_append_left _ (Array.mem_append_left _ (by simp))))
    have h2 := opt_agr fun x hx => h x (Array.mem_append_left _ (Array.mem_append_left _ (Array.mem_append_right _ hx)))
    have h3 := opt_agr fun x hx => h x (Array.mem_append_left _ (Array.mem_append_right _ hx))
    simp only [h1, h2, h3]
  · rename_i c
    obtain ⟨callee, args, tys⟩ := c
    obtain ⟨args⟩ := args
    simp only
    split
    · rename_i x t e
      have h1 := h x (by simp [Call.operands])
      simp only [h1]
    · rename_i s x t t' e
      have h1 := h s (by simp [Call.operands])
      have h2 := h x (by simp [Call.operands])
      simp only [h1, h2]
    · rename_i x y
      have h1 := h x (by simp [Call.operands])
      have h2 := h y (by simp [Call.operands])
      simp only [h1, h2]
    · rename_i x y
      have h1 := h x (by simp [Call.operands])
      have h2 := h y (by simp [Call.operands])
      simp only [h1, h2]
    · rw [map_agr1 fun x hx => h x (by simp [Call.operands, hx])]
    · rfl
/-- Kinds: 0 a value, 1 a load, 2 a new object, 3 what turns objects. -/
def slcV : AV → Bool
  | .vl (.slice ..) => true
  | _ => false
def hasSl (P : Program) (t : TypeId) : Bool := match zrA P t with
  | some z => z.cells.any slcV
  | none => true
def kdA (P : Program) (o : Op) : Nat := match o with
  | .load .. => 1
  | .alloc _ | .box .. | .makeSlice .. => 2
  | .buildSlice t _ _ => match elA P t with
    | some e => if hasSl P e.1 then 3 else 2
    | none => 3
  | .store .. => 3
  | .move x | .assign x => if nilC x then 3 else 0
  | .call c => match c.callee with
    | .builtin .len | .builtin .max | .builtin .min => 0
    | _ => 3
  | _ => 0
theorem valA_pure {P : Program} {o : Oper} {F : List AV} {H H' : AS} (h : kdA P o.op = 0) : valA P o F H = valA P o F H' := by
  unfold valA
  split <;> rename_i ho <;> first
    | rfl
    | (rw [ho] at h; simp [kdA] at h; done)
theorem rdA_app {H : AS} {p : AV} {sz : Nat} {agg : Bool} {x : AV} (o : AO) (h : rdA H p sz agg = some x) : rdA (H ++ [o]) p sz agg = some x := by
  unfold rdA at h ⊢
  split at h
  · rename_i c k r i j
    split at h
    · rename_i T c' l live hf e
      rw [List.getElem?_append_left (List.getElem?_eq_some_iff.1 e).1, e]
      exact h
    · cases h
  · exact h
  · cases h
theorem valA_app {P : Program} {o : Oper} {F : List AV} {H : AS} {x : AV} (q : AO) (h : valA P o F H = some x) : valA P o F (H ++ [q]) = some x := by
  by_cases hk : kdA P o.op = 0
  · rw [valA_pure (H' := H) hk]; exact h
  · unfold valA at h ⊢
    split at h <;> first
      | exact h
      | skip
    split at h
    · exact rdA_app q h
    · cases h
end Go.Proofs.YtlgdojkmbfbnjaaGreatDoor

namespace Go.Proofs.YtlgdojkmbfbnjaaGreatDoor
open Go.RowKit

theorem bo.mono {α : Type} {e : Option α} {K K' : α → Prop} (h : bo e K) (k : ∀ x, K x → K' x) : bo e K' := by
  cases e with
  | none => exact h
  | some x => exact k x h
theorem an.mono {b : Bool} {K K' : Prop} (h : an b K) (k : K → K') : an b K' := ⟨h.1, k h.2⟩
theorem cd.mono {x : AV} {A B A' B' : Prop} (h : cd x A B) (k : A → A') (l : B → B') : cd x A' B' := by
  unfold cd at h ⊢
  split
  · split
    · exact k (by simpa [*] using h)
    · exact l (by simpa [*] using h)
  · split at h
    · simp_all
    · exact h
section
variable {P : Program} {hfT : TypeId → Bool}
theorem stA_mono {o : Oper} {F : List AV} {H : AS} {K K' : AV → AS → Prop} (h : stA P hfT o F H K) (k : ∀ x H', K x H' → K' x H') : stA P hfT o F H K' := by
  unfold stA at h ⊢
  split <;> simp only [*] at h <;>
    first
    | exact h.mono fun _ h => h.mono fun _ h => h.mono fun _ h => h.mono fun _ => k _ _
    | exact h.mono fun _ h => h.mono fun _ h => h.mono fun _ => k _ _
    | exact h.mono fun _ h => h.mono fun h => h.mono fun _ => k _ _
    | exact h.mono fun h => h.mono fun _ => k _ _
    | exact h.mono fun _ h => h.mono fun _ => k _ _
    | exact h.mono fun h => k _ _ h
    | exact h.mono fun _ => k _ _
    | exact h.mono (fun h => k _ _ h) fun h => k _ _ h
    | exact h.elim
    | (revert h; split <;> exact k _ _)
    | skip
  revert h
  split
  · exact fun h => h.mono fun _ h => h.mono fun h => h.mono fun _ => k _ _
  · exact fun h => h.mono fun h => h.mono fun _ h => h.mono fun h => h.mono fun _ => k _ _
  · exact fun h => h.mono fun _ => k _ _
  · exact fun h => h.mono fun _ => k _ _
  · exact fun h => h.mono k
  · exact id
end
end Go.Proofs.YtlgdojkmbfbnjaaGreatDoor

namespace Go.Proofs.YtlgdojkmbfbnjaaGreatDoor
open Go.RowKit

section
variable {P : Program} {hfT : TypeId → Bool}
theorem kdA_le (o : Op) : kdA P o ≤ 3 := by
  unfold kdA
  split <;> (try split) <;> (try split) <;> omega
theorem newA_row {o : Oper} {F : List AV} {r : AO × (Nat → AV)} (h : newA P hfT o F = some r) : ∃ T c l hf, r.1 = .row T c l true hf := by
  unfold newA at h
  split at h
  · split at h
    · simp only [Option.some.injEq] at h; subst h; exact ⟨_, _, _, _, rfl⟩
    · cases h
  · split at h
    · simp only [Option.some.injEq] at h; subst h; exact ⟨_, _, _, _, rfl⟩
    · cases h
  · split at h
    · split at h
      · split at h
        · simp only [Option.some.injEq] at h; subst h; exact ⟨_, _, _, _, rfl⟩
        · cases h
      · cases h
    · cases h
  · split at h
    · split at h
      · simp only [Option.some.injEq] at h; subst h; exact ⟨_, _, _, _, rfl⟩
      · cases h
    · cases h
  · cases h
end
/-- What is asked of the law of one operation: kinds 0 a value, 1 a load, 2 a new object, 3 what turns objects. -/
structure Mch (P : Program) where
  st : Oper → List AV → AS → (AV → AS → Prop) → Prop
  val : Oper → List AV → AS → Option AV
  new : Oper → List AV → Option (AO × (Nat → AV))
  kd : Op → Nat
  st_ok : ∀ {o : Oper} {F : List AV} {H : AS} {K : AV → AS → Prop} {g : Gh} {w : World} {a : Act} {next : Act → World → Prop} {Q : Exit → Act → World → Prop}, st o F H K → RelF g F a → RelH g H w → GoodA g H w o a K next → o.wp P a w next Q
  val_st : ∀ {o : Oper} {F : List AV} {H : AS} {x : AV} {K : AV → AS → Prop}, val o F H = some x → K x H → st o F H K
  new_ok : ∀ {o : Oper} {F : List AV} {x : AO} {mk : Nat → AV} {g : Gh} {a : Act}, new o F = some (x, mk) → RelF g F a → ∀ w : World, ∃ T c l hf v cs, x = .row T c l true hf ∧ (execOp a.eval o).run P w = .ok (.value v) (w.alloc (.cells cs.toArray T)) ∧ Vc c l (if hf then g.z else g) cs ∧ l.length ≤ 140737488355328 ∧ ∀ g' n, g'.s n l.length = some w.heap.size → g'.cp n l.length = l.length → V (mk n) g' v
  st_congr : ∀ {o : Oper} {F F' : List AV} {H : AS} {K : AV → AS → Prop}, agr F F' o → st o F H K = st o F' H K
  val_congr : ∀ {o : Oper} {F F' : List AV} {H : AS}, agr F F' o → val o F H = val o F' H
  new_congr : ∀ {o : Oper} {F F' : List AV}, agr F F' o → new o F = new o F'
  val_pure : ∀ {o : Oper} {F : List AV} {H H' : AS}, kd o.op = 0 → val o F H = val o F H'
  val_app : ∀ {o : Oper} {F : List AV} {H : AS} {x : AV} (q : AO), val o F H = some x → val o F (H ++ [q]) = some x
  kd_le : ∀ o, kd o ≤ 3
  st_mono : ∀ {o : Oper} {F : List AV} {H : AS} {K K' : AV → AS → Prop}, st o F H K → (∀ x H', K x H' → K' x H') → st o F H K'
  new_row : ∀ {o : Oper} {F : List AV} {r : AO × (Nat → AV)}, new o F = some r → ∃ T c l hf, r.1 = .row T c l true hf
@[reducible] def mA (P : Program) (hfT : TypeId → Bool) : Mch P := ⟨stA P hfT, valA P, newA P hfT, kdA P, stA_ok, valA_st, newA_ok, stA_congr, valA_congr, newA_congr, valA_pure, valA_app, kdA_le, stA_mono, newA_row⟩
end Go.Proofs.YtlgdojkmbfbnjaaGreatDoor

namespace Go.Proofs.YtlgdojkmbfbnjaaGreatDoor
open Go.RowKit

/-- Who comes before whom, as numbers' bits. -/
def preM (ops : Array Oper) : List Nat := ops.toList.foldl (fun acc o => acc ++ [o.after.toList.foldl (fun s e => if Region.binds .any e then s ||| (2 ^ e.on ||| acc.getD e.on 0) else s) 0]) []
def bit (pm : List Nat) (i j : Nat) : Bool := (pm.getD i 0).testBit j
/-- Each bit comes from an edge. -/
def okM (ops : Array Oper) (pm : List Nat) : Bool := (List.range ops.size).all fun i => (List.range ops.size).all fun j => !bit pm i j || (match ops[i]? with
  | some o => o.after.any fun e => Region.binds .any e && (e.on == j || (decide (e.on < i) && bit pm e.on j))
  | none => false)
def topo (n : Nat) (pm : List Nat) : List Nat → List Nat → Bool
  | _, [] => true
  | dn, i :: r => (List.range n).all (fun j => !bit pm i j || dn.contains j) && topo n pm (i :: dn) r
/-- One thing is left, and it turns objects. -/
def lastK (kd : Op → Nat) (ops : Array Oper) : List Nat → Bool
  | [j] => (match ops[j]? with | some o' => kd o'.op == 3 | none => false)
  | _ => false
def wrLast (kd : Op → Nat) (ops : Array Oper) (pm : List Nat) : List Nat → Bool
  | [] => true
  | i :: r => (match ops[i]? with
    | some o => kd o.op != 3 || (r.all fun q => bit pm q i) || lastK kd ops r
    | none => false) && wrLast kd ops pm r
def cnf (ops : Array Oper) (i j : Nat) : Bool := match dstO ops j, ops[i]? with
  | some d, some o => (looksA ops o).contains d || o.dst == some d
  | _, _ => false
/-- Each edge is a bit. -/
def okE (ops : Array Oper) (pm : List Nat) : Bool := (List.range ops.size).all fun i => match ops[i]? with
  | some o => o.after.all fun e => !Region.binds .any e || (decide (e.on < ops.size) && bit pm i e.on)
  | none => true
def wfD (kd : Op → Nat) (ops : Array Oper) (pm s : List Nat) : Bool :=
  okE ops pm && decide s.Nodup && s.all (fun i => decide (i < ops.size)) && (List.range ops.size).all (fun i => s.contains i) && okM ops pm && topo ops.size pm [] s && wrLast kd ops pm s &&
    (List.range ops.size).all fun i => (List.range ops.size).all fun j => i == j || !cnf ops i j || bit pm i j || bit pm j i
theorem okM_ok {ops : Array Oper} {pm : List Nat} (h : okM ops pm = true) {i j : Nat} {o : Oper} (hj : j < ops.size) (ho : ops[i]? = some o) (hb : bit pm i j = true) : ∃ e ∈ o.after, Region.binds .any e = true ∧ (e.on = j ∨ (e.on < i ∧ bit pm e.on j = true)) := by
  have hi : i < ops.size := (Array.getElem?_eq_some_iff.1 ho).1
  unfold okM at h
  have := List.all_eq_true.1 (List.all_eq_true.1 h i (List.mem_range.2 hi)) j (List.mem_range.2 hj)
  rw [hb, ho] at this
  simp only [Bool.not_true, Bool.false_or, Array.any_eq_true'] at this
  obtain ⟨e, he, h2⟩ := this
  simp only [Bool.and_eq_true, Bool.or_eq_true, beq_iff_eq, decide_eq_true_eq] at h2
  exact ⟨e, he, h2.1, h2.2⟩
/-- What has come up is closed. -/
def Dcl (ops : Array Oper) (listed : Array Bool) : Prop := ∀ (i : Nat) o, listed.getD i false = true → ops[i]? = some o → ∀ e ∈ o.after, Region.binds .any e = true → listed.getD e.on false = true
theorem pre_listed {ops : Array Oper} {pm : List Nat} (h : okM ops pm = true) {listed : Array Bool} (dc : Dcl ops listed) : ∀ (n i : Nat) (o : Oper) (j : Nat), i ≤ n → j < ops.size → ops[i]? = some o → (∀ e ∈ o.after, Region.binds .any e = true → listed.getD e.on false = true) → bit pm i j = true → listed.getD j false = true := by
  intro n
  induction n with
  | zero =>
    intro i o j hi hj ho hr hb
    obtain ⟨e, h1, h2, h3 | ⟨h3, h4⟩⟩ := okM_ok h hj ho hb
    · rw [← h3]; exact hr e h1 h2
    · omega
  | succ n ih =>
    intro i o j hi hj ho hr hb
    obtain ⟨e, h1, h2, h3 | ⟨h3, h4⟩⟩ := okM_ok h hj ho hb
    · rw [← h3]; exact hr e h1 h2
    · have hl := hr e h1 h2
      have hi2 : i < ops.size := (Array.getElem?_eq_some_iff.1 ho).1
      exact ih e.on ops[e.on] j (by omega) hj (Array.getElem?_eq_getElem (by omega)) (fun e' h5 h6 => dc e.on _ hl (Array.getElem?_eq_getElem (by omega)) e' h5 h6) h4
theorem topo_ok {n : Nat} {pm : List Nat} : ∀ {s1 dn : List Nat} {i : Nat} {s2 : List Nat}, topo n pm dn (s1 ++ i :: s2) = true → ∀ j, j < n → bit pm i j = true → j ∈ dn ∨ j ∈ s1
  | [], dn, i, s2, h, j, hj, hb => by
    rw [List.nil_append, topo, Bool.and_eq_true] at h
    have := List.all_eq_true.1 h.1 j (List.mem_range.2 hj)
    rw [hb] at this
    exact .inl (by simpa using this)
  | a :: s1, dn, i, s2, h, j, hj, hb => by
    rw [List.cons_append, topo, Bool.and_eq_true] at h
    rcases topo_ok h.2 j hj hb with q | q
    · rcases List.mem_cons.1 q with rfl | q
      · exact .inr List.mem_cons_self
      · exact .inl q
    · exact .inr (List.mem_cons_of_mem _ q)
theorem wrLast_ok {kd : Op → Nat} {ops : Array Oper} {pm : List Nat} : ∀ {s1 : List Nat} {i : Nat} {s2 : List Nat} {o : Oper}, wrLast kd ops pm (s1 ++ i :: s2) = true → ops[i]? = some o → kd o.op = 3 → ∀ q ∈ s2, bit pm q i = true ∨ (s2 = [q] ∧ ∃ o', ops[q]? = some o' ∧ kd o'.op = 3)
  | [], i, s2, o, h, ho, hk, q, hq => by
    rw [List.nil_append, wrLast, Bool.and_eq_true, ho] at h
    have := h.1
    simp only [hk, bne_self_eq_false, Bool.false_or, Bool.or_eq_true, List.all_eq_true] at this
    rcases this with h | h
    · exact .inl (h q hq)
    · unfold lastK at h
      split at h
      · simp only [List.mem_singleton] at hq
        subst hq
        split at h
        · rename_i o' ho'; exact .inr ⟨rfl, o', ho', by simpa using h⟩
        · cases h
      · cases h
  | a :: s1, i, s2, o, h, ho, hk, q, hq => by
    rw [List.cons_append, wrLast, Bool.and_eq_true] at h
    exact wrLast_ok h.2 ho hk q hq
structure WfD (kd : Op → Nat) (ops : Array Oper) (pm s : List Nat) : Prop where
  eb : ∀ (i : Nat) o, ops[i]? = some o → ∀ e ∈ o.after, Region.binds .any e = true → e.on < ops.size ∧ bit pm i e.on = true
  nd : s.Nodup
  lt : ∀ i ∈ s, i < ops.size
  all : ∀ i, i < ops.size → i ∈ s
  ok : okM ops pm = true
  tp : ∀ (s1 : List Nat) (i : Nat) (s2 : List Nat), s = s1 ++ i :: s2 → ∀ j, j < ops.size → bit pm i j = true → j ∈ s1
  wl : ∀ (s1 : List Nat) (i : Nat) (s2 : List Nat), s = s1 ++ i :: s2 → ∀ o, ops[i]? = some o → kd o.op = 3 → ∀ q ∈ s2, bit pm q i = true ∨ (s2 = [q] ∧ ∃ o', ops[q]? = some o' ∧ kd o'.op = 3)
  cf : ∀ i j, i < ops.size → j < ops.size → i ≠ j → cnf ops i j = true → bit pm i j = true ∨ bit pm j i = true
theorem wfD_ok {kd : Op → Nat} {ops : Array Oper} {pm s : List Nat} (h : wfD kd ops pm s = true) : WfD kd ops pm s := by
  unfold wfD at h
  simp only [Bool.and_eq_true, decide_eq_true_eq, List.all_eq_true, List.mem_range, List.contains_iff_mem] at h
  obtain ⟨⟨⟨⟨⟨⟨⟨h0, h1⟩, h2⟩, h3⟩, h4⟩, h5⟩, h6⟩, h7⟩ := h
  refine ⟨fun i o ho e he hb => ?_, h1, h2, h3, h4, fun s1 i s2 e j hj hb => ?_, fun s1 i s2 e o ho hk => ?_, fun i j hi hj hne hc => ?_⟩
  · unfold okE at h0
    have := List.all_eq_true.1 h0 i (List.mem_range.2 (Array.getElem?_eq_some_iff.1 ho).1)
    rw [ho] at this
    simp only [Array.all_eq_true_iff_forall_mem] at this
    have := this e he
    simpa [hb] using this
  · rw [e] at h5
    rcases topo_ok h5 j hj hb with q | q
    · cases q
    · exact q
  · rw [e] at h6
    exact wrLast_ok h6 ho hk
  have := h7 i hi j hj
  simp only [hc, Bool.not_true, Bool.or_false, Bool.or_eq_true, beq_iff_eq] at this
  rcases this with (q | q) | q
  · exact absurd q hne
  · exact .inl q
  · exact .inr q
/-- What a thing that has been reckoned must still give behind a step. -/
def ck1 {P : Program} (M : Mch P) (ops : Array Oper) (H H' : AS) (e : EntA) : Prop := match ops[e.i]? with
  | some o => match M.kd o.op with
    | 1 => M.val o e.F H' = some e.x
    | 2 => H'[e.n]? = H[e.n]?
    | _ => True
  | none => True
def ckLA {P : Program} (M : Mch P) (ops : Array Oper) (pm : List Nat) (w : Nat) (H H' : AS) : List EntA → Prop
  | [] => True
  | e :: l => if e.wt && !bit pm w e.i then ck1 M ops H H' e ∧ ckLA M ops pm w H H' l else ckLA M ops pm w H H' l
theorem ckL_ok {P : Program} {M : Mch P} {ops : Array Oper} {pm : List Nat} {w : Nat} {H H' : AS} : ∀ {l : List EntA}, ckLA M ops pm w H H' l → ∀ e ∈ l, e.wt = true → bit pm w e.i = false → ck1 M ops H H' e
  | a :: l, h, e, he, h1, h2 => by
    rw [ckLA] at h
    rcases List.mem_cons.1 he with rfl | he
    · rw [h1, h2] at h; exact h.1
    · split at h
      · exact ckL_ok h.2 e he h1 h2
      · exact ckL_ok h e he h1 h2
/-- The last two, when both turn objects and come in either order: the other way round. -/
def swp {P : Program} (M : Mch P) (ops : Array Oper) (pm : List Nat) (i : Nat) (oi : Oper) (s : List Nat) (pd : List EntA) (F : List AV) (H : AS) (K : List AV → AS → Prop) : Prop := match s with
  | [j] => if bit pm j i = true then True else match ops[j]? with
    | none => False
    | some o => bo (gdA ops F o) fun b => b = true ∧ M.st o F H fun y H1 => (H1 = H ∨ ckLA M ops pm j H H1 pd) ∧ bo (gdA ops (setF F o.dst y) oi) fun b => b = true ∧ M.st oi (setF F o.dst y) H1 fun x H2 => (H2 = H1 ∨ ckLA M ops pm i H1 H2 pd) ∧ K (setF (setF F o.dst y) oi.dst x) H2
  | _ => True
/-- A region whose order is drawn. -/
def regD {P : Program} (M : Mch P) (ops : Array Oper) (pm : List Nat) : List Nat → List EntA → List AV → AS → (List AV → AS → Prop) → Prop
  | [], _, F, H, K => K F H
  | i :: s, pd, F, H, K => match ops[i]? with
    | none => False
    | some o => bo (gdA ops F o) fun b => if b then
        (match M.kd o.op with
        | 2 => bo (M.new o F) fun r => regD M ops pm s (⟨i, F, r.2 H.length, H.length, true⟩ :: pd) (setF F o.dst (r.2 H.length)) (H ++ [r.1]) K
        | 3 => (M.st o F H fun x H' => (H' = H ∨ ckLA M ops pm i H H' pd) ∧ regD M ops pm s pd (setF F o.dst x) H' K) ∧ swp M ops pm i o s pd F H K
        | _ => bo (M.val o F H) fun x => regD M ops pm s (⟨i, F, x, 0, true⟩ :: pd) (setF F o.dst x) H K)
      else regD M ops pm s (⟨i, F, .vl undef, 0, false⟩ :: pd) (setF F o.dst (.vl undef)) H K
theorem RelH.virtual {g : Gh} {H : AS} {w : World} (R : RelH g H w) (x : AO) : RelH g (H ++ [x]) w :=
  ⟨R.im, fun k T c' l live hf' h b hb => (by
    have := (R.lo _ _ _ hb).1
    rw [List.getElem?_append_left this] at h
    exact R.ob _ _ _ _ _ _ h b hb), fun k T c' l live hf' h r hr => (by
    cases e2 : g.s k r with
    | none => rfl
    | some b =>
      have := (R.lo _ _ _ e2).1
      rw [List.getElem?_append_left this] at h
      rw [R.ver _ _ _ _ _ _ h r hr] at e2; cases e2), R.inj, fun k r b h => by
    have := R.lo _ _ _ h
    rw [List.length_append]; exact ⟨by omega, this.2⟩, R.mbV _⟩
theorem EX.virtual {g : Gh} {H : AS} (x : AO) : EX g H g (H ++ [x]) := ⟨by simp, fun k T c l live hf e => ⟨l, live, by rw [List.getElem?_append_left (List.getElem?_eq_some_iff.1 e).1]; exact e, Nat.le_refl _, fun _ _ => Eq.refl _⟩⟩
/-- What is still to come up, though it has been reckoned. -/
def Pend {P : Program} (M : Mch P) (ops : Array Oper) (F0 : List AV) (N : Nat) (H : AS) (g : Gh) (E1 : List EntA) (e : EntA) : Prop :=
  e.F = rep ops F0 E1 ∧ ∃ o, ops[e.i]? = some o ∧ ((e.wt = false ∧ gdA ops e.F o = some false ∧ e.x = .vl undef) ∨ (e.wt = true ∧ gdA ops e.F o = some true ∧
    ((M.kd o.op ≠ 2 ∧ M.kd o.op ≠ 3 ∧ M.val o e.F H = some e.x) ∨ (M.kd o.op = 2 ∧ N ≤ e.n ∧ (∀ r, g.s e.n r = none) ∧ ∃ r, M.new o e.F = some r ∧ e.x = r.2 e.n ∧ H[e.n]? = some r.1))))
def nw {P : Program} (M : Mch P) (ops : Array Oper) (e : EntA) : Bool := e.wt && (match ops[e.i]? with
  | some o => M.kd o.op == 2
  | none => false)
structure DI {P : Program} (M : Mch P) (ops : Array Oper) (pm s : List Nat) (F0 : List AV) (H0 : AS) (g0 : Gh) (w0 : World) (K : List AV → AS → Prop) (E : List EntA) (s2 : List Nat) (pd : List EntA) (F : List AV) (H : AS) (listed : Array Bool) (a : Act) (w : World) (g : Gh) : Prop where
  sz : listed.size = ops.size
  sc : s = E.map (·.i) ++ s2
  dn : ∀ i, listed.getD i false = true → i ∈ E.map (·.i)
  dc : Dcl ops listed
  fF : F = rep ops F0 E
  rf : RelF g (rep ops F0 (E.filter fun e => listed.getD e.i false)) a
  rh : RelH g H w
  pe : ∀ E1 e E2, E = E1 ++ e :: E2 → listed.getD e.i false = false → Pend M ops F0 H0.length H g E1 e
  ap : E.Pairwise fun e e' => listed.getD e.i false = false → listed.getD e'.i false = false → nw M ops e = true → nw M ops e' = true → e.n ≠ e'.n
  rd : regD M ops pm s2 pd F H K
  pm' : ∀ e ∈ E, listed.getD e.i false = false → e ∈ pd
  lg : g0.le g
  tx : TX g0 w0 g w
  ex : EX g0 H0 g H

section
variable {P : Program} {M : Mch P} {ops : Array Oper} {pm s : List Nat} {F0 : List AV} {H0 : AS} {g0 : Gh} {w0 : World} {K : List AV → AS → Prop} {E : List EntA} {s2 : List Nat} {pd : List EntA} {F : List AV} {H : AS} {listed : Array Bool} {a : Act} {w : World} {g : Gh}
theorem filter_snoc {listed : Array Bool} {E : List EntA} {e : EntA} (h : listed.getD e.i false = false) : ((E ++ [e]).filter fun e => listed.getD e.i false) = E.filter fun e => listed.getD e.i false := by
  rw [List.filter_append, List.filter_cons_of_neg (by rw [h]; simp), List.filter_nil, List.append_nil]
/-- What waits keeps waiting, behind a step that leaves it alone. -/
theorem Pend.keep {N : Nat} {H' : AS} {g' : Gh} {E1 : List EntA} {e : EntA} (p : Pend M ops F0 N H g E1 e) (h1 : ∀ o, ops[e.i]? = some o → M.val o e.F H = some e.x → M.kd o.op ≠ 2 → M.kd o.op ≠ 3 → e.wt = true → M.val o e.F H' = some e.x) (h2 : nw M ops e = true → H'[e.n]? = H[e.n]? ∧ ∀ r, g'.s e.n r = g.s e.n r) : Pend M ops F0 N H' g' E1 e := by
  obtain ⟨q1, o, q2, q3⟩ := p
  refine ⟨q1, o, q2, q3.imp id fun ⟨q4, q5, q6⟩ => ⟨q4, q5, ?_⟩⟩
  rcases q6 with ⟨q6, q7, q8⟩ | ⟨q6, q7, q8, r, q9, q10, q11⟩
  · exact .inl ⟨q6, q7, h1 o q2 q8 q6 q7 q4⟩
  · obtain ⟨h3, h4⟩ := h2 (by unfold nw; rw [q4, q2]; simp [q6])
    exact .inr ⟨q6, q7, fun r => by rw [h4]; exact q8 r, r, q9, q10, by rw [h3]; exact q11⟩
theorem snoc_split {α : Type} {E E1 E2 : List α} {e x : α} (h : E ++ [x] = E1 ++ e :: E2) : (∃ E3, E = E1 ++ e :: E3 ∧ E2 = E3 ++ [x]) ∨ (E1 = E ∧ e = x ∧ E2 = []) := by
  rcases List.eq_nil_or_concat E2 with rfl | ⟨E3, y, rfl⟩
  · have := List.append_inj' h rfl
    simp only [List.cons.injEq, and_true] at this
    exact .inr ⟨this.1.symm, this.2.symm, rfl⟩
  · rw [List.concat_eq_append] at h ⊢
    rw [show E1 ++ e :: (E3 ++ [y]) = (E1 ++ e :: E3) ++ [y] by simp] at h
    have := List.append_inj' h rfl
    simp only [List.cons.injEq, and_true] at this
    exact .inl ⟨E3, this.1, by rw [this.2]⟩
/-- One more is reckoned ahead. -/
theorem DI.one (W : WfD M.kd ops pm s) {i : Nat} {r : List Nat} {o : Oper} (d : DI M ops pm s F0 H0 g0 w0 K E (i :: r) pd F H listed a w g) (ho : ops[i]? = some o) (hk : gdA ops F o = some true → M.kd o.op ≠ 3) :
    ∃ E' pd' F' H', DI M ops pm s F0 H0 g0 w0 K E' r pd' F' H' listed a w g := by
  have hi : listed.getD i false = false := by
    cases h : listed.getD i false with
    | false => rfl
    | true =>
      have h1 := d.dn i h
      have h2 := W.nd
      rw [d.sc, List.nodup_append] at h2
      exact absurd rfl (h2.2.2 i h1 i List.mem_cons_self)
  have dst : dstO ops i = o.dst := by unfold dstO; rw [ho]; rfl
  have mk : ∀ (x : AV) (n : Nat) (wt : Bool) (H' : AS), (H' = H ∨ ∃ q, H' = H ++ [q]) → regD M ops pm r (⟨i, F, x, n, wt⟩ :: pd) (setF F o.dst x) H' K → Pend M ops F0 H0.length H' g E ⟨i, F, x, n, wt⟩ → (nw M ops ⟨i, F, x, n, wt⟩ = true → n = H.length) →
      DI M ops pm s F0 H0 g0 w0 K (E ++ [⟨i, F, x, n, wt⟩]) r (⟨i, F, x, n, wt⟩ :: pd) (setF F o.dst x) H' listed a w g := fun x n wt H' hH' hrd hp hn => by
    have hr : RelH g H' w := by
      rcases hH' with rfl | ⟨q, rfl⟩
      · exact d.rh
      · exact d.rh.virtual q
    have hex : EX g H g H' := by
      rcases hH' with rfl | ⟨q, rfl⟩
      · exact .rfl
      · exact .virtual q
    refine ⟨d.sz, by rw [d.sc]; simp, fun j hj => by rw [List.map_append]; exact List.mem_append_left _ (d.dn j hj), d.dc, ?_, ?_, hr, fun E1 e E2 he hl => ?_, ?_, hrd, fun e he hl => ?_, d.lg, d.tx, d.ex.trans hex⟩
    · rw [rep_app, ← d.fF]
      show _ = setF F (dstO ops i) x
      rw [dst]
    · rw [filter_snoc hi]; exact d.rf
    · rcases snoc_split he with ⟨E3, h1, h2⟩ | ⟨h1, h2, h3⟩
      · refine (d.pe E1 e E3 h1 hl).keep (fun o' ho' hv _ _ _ => ?_) fun hw => ⟨?_, fun _ => rfl⟩
        · rcases hH' with rfl | ⟨q, rfl⟩
          · exact hv
          · exact M.val_app q hv
        · rcases hH' with rfl | ⟨q, rfl⟩
          · rfl
          · obtain ⟨_, o', ho', q3⟩ := d.pe E1 e E3 h1 hl
            unfold nw at hw
            rw [ho'] at hw
            simp only [Bool.and_eq_true, beq_iff_eq] at hw
            rcases q3 with ⟨q4, _⟩ | ⟨_, _, ⟨q5, _⟩ | ⟨_, _, _, rr, _, _, q6⟩⟩
            · rw [hw.1] at q4; cases q4
            · exact absurd hw.2 q5
            · rw [List.getElem?_append_left (List.getElem?_eq_some_iff.1 q6).1]
      · subst h1 h2; exact hp
    · rw [List.pairwise_append]
      refine ⟨d.ap, List.pairwise_singleton _ _, fun e he e' he' h1 h2 h3 h4 => ?_⟩
      simp only [List.mem_singleton] at he'
      subst he'
      obtain ⟨E1, E2, h5⟩ := List.append_of_mem he
      obtain ⟨_, o', ho', q3⟩ := d.pe E1 e E2 h5 h1
      unfold nw at h3
      rw [ho'] at h3
      simp only [Bool.and_eq_true, beq_iff_eq] at h3
      rcases q3 with ⟨q4, _⟩ | ⟨_, _, ⟨q5, _⟩ | ⟨_, _, _, rr, _, _, q6⟩⟩
      · rw [h3.1] at q4; cases q4
      · exact absurd h3.2 q5
      · have := (List.getElem?_eq_some_iff.1 q6).1
        have := hn h4
        show e.n ≠ n
        omega
    · rcases List.mem_append.1 he with he | he
      · exact List.mem_cons_of_mem _ (d.pm' e he hl)
      · simp only [List.mem_singleton] at he; subst he; exact List.mem_cons_self
  have hrd := d.rd
  rw [regD, ho] at hrd
  simp only at hrd
  obtain ⟨b, hb, hrd⟩ := bo_iff hrd
  cases b
  · simp only [Bool.false_eq_true, if_false] at hrd
    exact ⟨_, _, _, _, mk (.vl undef) 0 false H (.inl rfl) hrd ⟨d.fF, o, ho, .inl ⟨rfl, hb, rfl⟩⟩ fun h => by simp [nw] at h⟩
  · simp only [if_true] at hrd
    have hk3 := hk hb
    by_cases hk2 : M.kd o.op = 2
    · rw [hk2] at hrd
      simp only at hrd
      obtain ⟨q, hq, hrd⟩ := bo_iff hrd
      refine ⟨_, _, _, _, mk (q.2 H.length) H.length true (H ++ [q.1]) (.inr ⟨_, rfl⟩) hrd ⟨d.fF, o, ho, .inr ⟨rfl, hb, .inr ⟨hk2, ?_, fun r' => ?_, q, hq, rfl, by simp⟩⟩⟩ fun _ => rfl⟩
      · exact d.ex.1
      · cases e : g.s H.length r' with
        | none => rfl
        | some b => have := (d.rh.lo _ _ _ e).1; omega
    · have : bo (M.val o F H) fun x => regD M ops pm r (⟨i, F, x, 0, true⟩ :: pd) (setF F o.dst x) H K := by
        split at hrd
        · rename_i h; exact absurd h hk2
        · rename_i h; exact absurd h hk3
        · exact hrd
      obtain ⟨x, hx, hrd⟩ := bo_iff this
      exact ⟨_, _, _, _, mk x 0 true H (.inl rfl) hrd ⟨d.fF, o, ho, .inr ⟨rfl, hb, .inl ⟨hk2, hk3, hx⟩⟩⟩ fun h => by
        unfold nw at h; simp only [ho, Bool.true_and, beq_iff_eq] at h; exact absurd h hk2⟩
end
end Go.Proofs.YtlgdojkmbfbnjaaGreatDoor
