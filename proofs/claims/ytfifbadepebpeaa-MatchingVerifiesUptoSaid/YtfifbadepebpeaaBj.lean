/- The entries while the reference's Match reckons them from the end. -/
import Derived.Test.YtfifbadepebpeaaFo
import Derived.Test.YtfifbadepebpeaaBk
import Derived.Test.YtfifbadepebpeaaAg
import Derived.Test.YtfifbadepebpeaaCs
import Derived.Test.YtfifbadepebpeaaRu
namespace Go.Proofs.Ytfifbadepebpeaa

def blankC (p : Int × Int) : CompP := ⟨p.1, p.2, 0, ⟨[], 0, []⟩⟩
def esR (x y : List NodeP) (C : List (Int × Int)) (r : Nat) : List CompP := (C.take r).map blankC ++ buildP x y (C.drop r)

theorem esR_keys (x y : List NodeP) (C : List (Int × Int)) (r : Nat) : keys (esR x y C r) = C := by
  unfold keys esR
  rw [List.map_append, build_keys, List.map_map]
  have : (fun e : CompP => (e.a, e.b)) ∘ blankC = id := by funext p; rfl
  rw [this, List.map_id, List.take_append_drop]
theorem esR_len (x y : List NodeP) (C : List (Int × Int)) (r : Nat) : (esR x y C r).length = C.length := by rw [← keys_len, esR_keys]
theorem esR_zero (x y : List NodeP) (C : List (Int × Int)) : esR x y C 0 = buildP x y C := by simp [esR]
theorem esR_full (x y : List NodeP) (C : List (Int × Int)) : esR x y C C.length = C.map blankC := by simp [esR, buildP]
theorem dget_blank (bs : List (Int × Int)) (es : List CompP) {q : Int × Int} (h : q ∉ bs) : dget (bs.map blankC ++ es) q = dget es q := by
  induction bs with
  | nil => rfl
  | cons p bs ih =>
    rw [List.map_cons, List.cons_append, dget_cons, if_neg, ih (fun e => h (by simp [e]))]
    intro e
    exact h (by rw [e]; simp [blankC])
theorem dget_blank_in (bs : List (Int × Int)) (es : List CompP) {q : Int × Int} (h : q ∈ bs) : dget (bs.map blankC ++ es) q = 0 := by
  induction bs with
  | nil => simp at h
  | cons p bs ih =>
    rw [List.map_cons, List.cons_append, dget_cons]
    by_cases e : q = ((blankC p).a, (blankC p).b)
    · rw [if_pos e]; rfl
    · rw [if_neg e]
      refine ih ?_
      rcases List.mem_cons.1 h with h | h
      · exact absurd h e
      · exact h

section
variable {x y : List NodeP}
theorem allC_cmp (px : PO x) (py : PO y) : Cmp x y (allC x y) := by
  obtain ⟨l, h1, h2⟩ := (cmpB_all px py ((allC x y).length : Int)).1 (Int.le_refl _)
  rw [← h2]
  exact cmp_of px.wf py.wf h1

theorem dget_esR (px : PO x) (py : PO y) (nx : narrowB x = true) (ny : narrowB y = true) {C : List (Int × Int)} (hC : Cmp x y C) (r : Nat) (q : Int × Int) : 0 ≤ dget (esR x y C r) q ∧ dget (esR x y C r) q ≤ 524288 := by
  have sx : x.length ≤ 262144 := by unfold narrowB at nx; simp only [Bool.and_eq_true, decide_eq_true_eq] at nx; exact nx.1
  have sy : y.length ≤ 262144 := by unfold narrowB at ny; simp only [Bool.and_eq_true, decide_eq_true_eq] at ny; exact ny.1
  by_cases h : q ∈ C.take r
  · unfold esR; rw [dget_blank_in _ _ h]; omega
  · unfold esR; rw [dget_blank _ _ h]
    exact dget_ok px.wf py.wf sx sy (build_ok px.wf py.wf nx ny _ (fun p hp => hC.inr p (List.mem_of_mem_drop hp))) q

theorem kid_late (px : PO x) (py : PO y) {C : List (Int × Int)} (hC : Cmp x y C) {r : Nat} (hr : r < C.length) {q : Int × Int} (hq : q ∈ kp x y C[r]) : q ∉ C.take (r + 1) := by
  intro hm
  obtain ⟨k, hk, e⟩ := List.mem_iff_getElem.1 hm
  rw [List.getElem_take] at e
  rw [List.length_take] at hk
  have hlt := ((kp_kf px.wf py.wf).inr _ (hC.inr _ (List.getElem_mem hr)) q hq).2.1
  rcases Nat.lt_or_ge k r with h | h
  · have := List.pairwise_iff_getElem.1 hC.srt k r (by omega) hr h
    rw [e] at this
    unfold ltP at this
    omega
  · have : k = r := by omega
    subst this
    rw [e] at hlt
    omega
theorem cost_esR (px : PO x) (py : PO y) {C : List (Int × Int)} (hC : Cmp x y C) {r : Nat} (hr : r < C.length) : costP x y C[r] (dget (esR x y C (r + 1))) = costP x y C[r] (dget (buildP x y (C.drop (r + 1)))) := by
  unfold costP
  apply List.map_congr_left
  intro c hc
  apply List.map_congr_left
  intro k hk
  by_cases e : (nd x c).kind = (nd y k).kind
  · rw [if_pos e, if_pos e]
    unfold esR
    refine dget_blank _ _ (kid_late px py hC hr ?_)
    unfold kp kpC
    exact List.mem_flatMap.2 ⟨c, hc, List.mem_map.2 ⟨k, List.mem_filter.2 ⟨hk, by simpa using e⟩, rfl⟩⟩
  · rw [if_neg e, if_neg e]
theorem esR_clo {C : List (Int × Int)} (hC : Cmp x y C) {r : Nat} (hr : r < C.length) (n : Nat) : ∀ c ∈ (nd x C[r].1).kids, ∀ k ∈ (nd y C[r].2).kids, (nd x c).kind = (nd y k).kind → (c, k) ∈ keys (esR x y C n) := by
  intro c hc k hk e
  rw [esR_keys]
  refine hC.clo _ (List.getElem_mem hr) _ ?_
  unfold kp kpC
  exact List.mem_flatMap.2 ⟨c, hc, List.mem_map.2 ⟨k, List.mem_filter.2 ⟨hk, by simpa using e⟩, rfl⟩⟩
theorem prop_esR (px : PO x) (py : PO y) (nx : narrowB x = true) (ny : narrowB y = true) {C : List (Int × Int)} (hC : Cmp x y C) {r : Nat} (hr : r < C.length) : Prop17 (dropP x C[r].1) (dropP y C[r].2) (costP x y C[r] (dget (buildP x y (C.drop (r + 1))))) := by
  rw [← cost_esR px py hC hr]
  exact tab_proper px.wf py.wf nx ny (hC.inr _ (List.getElem_mem hr)) _ (dget_esR px py nx ny hC _)
theorem esR_step {C : List (Int × Int)} {r : Nat} (hr : r < C.length) : esR x y C r = (C.take r).map blankC ++ entryP x y C[r] (dget (buildP x y (C.drop (r + 1)))) :: buildP x y (C.drop (r + 1)) := by
  unfold esR
  rw [build_drop x y C r hr]
theorem esR_pre {C : List (Int × Int)} {r : Nat} (hr : r < C.length) : esR x y C (r + 1) = (C.take r).map blankC ++ blankC C[r] :: buildP x y (C.drop (r + 1)) := by
  unfold esR
  rw [List.take_add_one, List.getElem?_eq_getElem hr, List.map_append, List.append_assoc]
  rfl
theorem build_fol (px : PO x) (py : PO y) {C : List (Int × Int)} (hC : Cmp x y C) (hl : C.length ≤ 1000000) : FolOk x y (buildP x y C) := by
  have hk : keys (buildP x y C) = C := build_keys x y C
  refine ⟨kpL_ka px.wf py.wf C, by rw [hk]; exact hC.srt, by rw [build_length]; exact hl, fun p hp => ?_⟩
  rw [hk] at hp
  refine ⟨hC.inr p hp, fun z hz => ?_⟩
  have hz0 := hz
  rw [pent_fix px.wf hC hp] at hz
  obtain ⟨h1, h2, h3, h4, _⟩ := align_kids (k := z) (p := p) (x := x) (y := y) (dm := dget (buildP x y C)) hz
  refine ⟨h1, h2, h3, h4, ?_⟩
  rw [hk]
  refine hC.clo p hp _ (kpL_kp C ?_)
  unfold kpL
  exact List.mem_map.2 ⟨z, hz0, rfl⟩
end
end Go.Proofs.Ytfifbadepebpeaa

/- The reference's Match: both trees are numbered. -/
namespace Go.Proofs.Ytfifbadepebpeaa
open Go.RowKit

theorem Has.blk {w : World} {b : Nat} {c : Array Value} (h : Has w b c) (hc : 0 < c.size) : blk w b = some c := by
  have h0 := h.cl 0
  rw [Array.getElem?_eq_getElem hc] at h0
  cases e : w.heap[b]? with
  | none => simp [World.cell?, e] at h0
  | some o =>
    cases o with
    | cells c' ty fz =>
      have hb : Go.Proofs.Ytfifbadepebpeaa.blk w b = some c' := by simp [Go.Proofs.Ytfifbadepebpeaa.blk, e]
      rw [hb]
      congr 1
      apply Array.ext_getElem?
      intro i
      rw [← blk_cell hb i]
      exact h.cl i
    | _ => simp [World.cell?, e] at h0
theorem Has.put5 {w : World} {b : Nat} {a0 a1 a2 a3 a4 : Value} (x : Has w b #[a0, a1, a2, a3, a4]) (v0 v1 v2 v3 v4 : Value) :
    Has (((((w.setCell ⟨b, 0, none⟩ v0).setCell ⟨b, 1, none⟩ v1).setCell ⟨b, 2, none⟩ v2).setCell ⟨b, 3, none⟩ v3).setCell ⟨b, 4, none⟩ v4) b #[v0, v1, v2, v3, v4] := by
  have := ((((x.put1 0 (by simp) v0).put1 1 (by simp) v1).put1 2 (by simp) v2).put1 3 (by simp) v3).put1 4 (by simp) v4
  simpa using this
theorem Has.no5 {w : World} {b g : Nat} {cs : Array Value} (h : Has w b cs) (hg : g ≠ b) (v0 v1 v2 v3 v4 : Value) : Has (((((w.setCell ⟨g, 0, none⟩ v0).setCell ⟨g, 1, none⟩ v1).setCell ⟨g, 2, none⟩ v2).setCell ⟨g, 3, none⟩ v3).setCell ⟨g, 4, none⟩ v4) b cs :=
  ((((h.ne hg 0 v0).ne hg 1 v1).ne hg 2 v2).ne hg 3 v3).ne hg 4 v4
theorem St.put5 {B : Nat} {h0 h : Hp} {w0 w : World} (s : St B h0 w0 h w) {g : Nat} (hg : B ≤ g) (hn : h g = none) (v0 v1 v2 v3 v4 : Value) : St B h0 w0 h (((((w.setCell ⟨g, 0, none⟩ v0).setCell ⟨g, 1, none⟩ v1).setCell ⟨g, 2, none⟩ v2).setCell ⟨g, 3, none⟩ v3).setCell ⟨g, 4, none⟩ v4) :=
  ((((s.setCell (p := ⟨g, 0, none⟩) hg hn v0).setCell (p := ⟨g, 1, none⟩) hg hn v1).setCell (p := ⟨g, 2, none⟩) hg hn v2).setCell (p := ⟨g, 3, none⟩) hg hn v3).setCell (p := ⟨g, 4, none⟩) hg hn v4

def RmX (h : Hp) (w3 : World) (x y : List NodeP) (g7 g8 : Nat) (wx : World) : Prop :=
  ∃ h', St w3.heap.size h w3 h' wx ∧ (∃ cs, h' g7 = some (List.toArray cs) ∧ NumE h' x cs) ∧ (∃ cs, h' g8 = some (List.toArray cs) ∧ NumE h' y cs)
structure RmT (h : Hp) (w3 : World) (x y : List NodeP) (h10 : Hp) (w10 : World) (a0 a1 a2 a3 a4 b0 b1 b2 b3 b4 : Value) : Prop where
  st : St w3.heap.size h w3 h10 w10
  nx : NumE h10 x [a0, a1, a2, a3, a4]
  ny : NumE h10 y [b0, b1, b2, b3, b4]
structure RmG (w3 : World) (h10 : Hp) (w10 : World) (g : Nat) : Prop where
  has : Has w10 g #[.slice none 0 0, .slice none 0 0, .slice none 0 0, .slice none 0 0, .bool false]
  no : h10 g = none
  le : w3.heap.size ≤ g

section
variable {h : Hp} {w3 : World} {x y : List NodeP} {h10 : Hp} {w10 : World} {a0 a1 a2 a3 a4 b0 b1 b2 b3 b4 : Value}
theorem rmEnd (T : RmT h w3 x y h10 w10 a0 a1 a2 a3 a4 b0 b1 b2 b3 b4) {g7 g8 : Nat} {wx : World} (S : St w3.heap.size h w3 h10 wx) (H7 : Has wx g7 #[a0, a1, a2, a3, a4]) (H8 : Has wx g8 #[b0, b1, b2, b3, b4]) (l7 : w3.heap.size ≤ g7) (l8 : w3.heap.size ≤ g8) : RmX h w3 x y g7 g8 wx := by
  refine ⟨_, S.fr, ⟨[a0, a1, a2, a3, a4], ?_, T.nx.mono (Hp.le_fr S.imm)⟩, ⟨[b0, b1, b2, b3, b4], ?_, T.ny.mono (Hp.le_fr S.imm)⟩⟩
  · unfold Hp.fr; rw [if_neg (by omega)]; exact H7.blk (by simp)
  · unfold Hp.fr; rw [if_neg (by omega)]; exact H8.blk (by simp)
theorem rm1 (T : RmT h w3 x y h10 w10 a0 a1 a2 a3 a4 b0 b1 b2 b3 b4) : RmX h w3 x y w10.heap.size (w10.heap.size + 1) ((w10.alloc (Obj.cells #[a0, a1, a2, a3, a4] 72)).alloc (Obj.cells #[b0, b1, b2, b3, b4] 72)) :=
  rmEnd T ((T.st.alloc _).alloc _) ((Has.new w10 _ _).alloc _) (Has.new1 w10 _ _ _) T.st.size (Nat.le_succ_of_le T.st.size)
theorem rm2 (T : RmT h w3 x y h10 w10 a0 a1 a2 a3 a4 b0 b1 b2 b3 b4) : RmX h w3 x y (w10.heap.size + 1) w10.heap.size ((w10.alloc (Obj.cells #[b0, b1, b2, b3, b4] 72)).alloc (Obj.cells #[a0, a1, a2, a3, a4] 72)) :=
  rmEnd T ((T.st.alloc _).alloc _) (Has.new1 w10 _ _ _) ((Has.new w10 _ _).alloc _) (Nat.le_succ_of_le T.st.size) T.st.size
theorem rm3 (T : RmT h w3 x y h10 w10 a0 a1 a2 a3 a4 b0 b1 b2 b3 b4) {g : Nat} (G : RmG w3 h10 w10 g) : RmX h w3 x y g w10.heap.size ((((((w10.setCell ⟨g, 0, none⟩ a0).setCell ⟨g, 1, none⟩ a1).setCell ⟨g, 2, none⟩ a2).setCell ⟨g, 3, none⟩ a3).setCell ⟨g, 4, none⟩ a4).alloc (Obj.cells #[b0, b1, b2, b3, b4] 72)) := by
  have hz : (((((w10.setCell ⟨g, 0, none⟩ a0).setCell ⟨g, 1, none⟩ a1).setCell ⟨g, 2, none⟩ a2).setCell ⟨g, 3, none⟩ a3).setCell ⟨g, 4, none⟩ a4).heap.size = w10.heap.size := by simp [World.setCell]
  have := Has.new (((((w10.setCell ⟨g, 0, none⟩ a0).setCell ⟨g, 1, none⟩ a1).setCell ⟨g, 2, none⟩ a2).setCell ⟨g, 3, none⟩ a3).setCell ⟨g, 4, none⟩ a4) #[b0, b1, b2, b3, b4] 72
  rw [hz] at this
  exact rmEnd T ((T.st.put5 G.le G.no _ _ _ _ _).alloc _) ((G.has.put5 _ _ _ _ _).alloc _) this G.le T.st.size
theorem rm4 (T : RmT h w3 x y h10 w10 a0 a1 a2 a3 a4 b0 b1 b2 b3 b4) {g : Nat} (G : RmG w3 h10 w10 g) : RmX h w3 x y w10.heap.size g ((((((w10.setCell ⟨g, 0, none⟩ b0).setCell ⟨g, 1, none⟩ b1).setCell ⟨g, 2, none⟩ b2).setCell ⟨g, 3, none⟩ b3).setCell ⟨g, 4, none⟩ b4).alloc (Obj.cells #[a0, a1, a2, a3, a4] 72)) := by
  have hz : (((((w10.setCell ⟨g, 0, none⟩ b0).setCell ⟨g, 1, none⟩ b1).setCell ⟨g, 2, none⟩ b2).setCell ⟨g, 3, none⟩ b3).setCell ⟨g, 4, none⟩ b4).heap.size = w10.heap.size := by simp [World.setCell]
  have := Has.new (((((w10.setCell ⟨g, 0, none⟩ b0).setCell ⟨g, 1, none⟩ b1).setCell ⟨g, 2, none⟩ b2).setCell ⟨g, 3, none⟩ b3).setCell ⟨g, 4, none⟩ b4) #[a0, a1, a2, a3, a4] 72
  rw [hz] at this
  exact rmEnd T ((T.st.put5 G.le G.no _ _ _ _ _).alloc _) this ((G.has.put5 _ _ _ _ _).alloc _) T.st.size G.le
theorem rm5 (T : RmT h w3 x y h10 w10 a0 a1 a2 a3 a4 b0 b1 b2 b3 b4) {g k : Nat} (G : RmG w3 h10 w10 g) (K : RmG w3 h10 w10 k) (hgk : g ≠ k) : RmX h w3 x y g k ((((((((((w10.setCell ⟨g, 0, none⟩ a0).setCell ⟨g, 1, none⟩ a1).setCell ⟨g, 2, none⟩ a2).setCell ⟨g, 3, none⟩ a3).setCell ⟨g, 4, none⟩ a4).setCell ⟨k, 0, none⟩ b0).setCell ⟨k, 1, none⟩ b1).setCell ⟨k, 2, none⟩ b2).setCell ⟨k, 3, none⟩ b3).setCell ⟨k, 4, none⟩ b4) :=
  rmEnd T ((T.st.put5 G.le G.no _ _ _ _ _).put5 K.le K.no _ _ _ _ _) ((G.has.put5 _ _ _ _ _).no5 (fun e => hgk e.symm) _ _ _ _ _) ((K.has.no5 hgk _ _ _ _ _).put5 _ _ _ _ _) G.le K.le
end

end Go.Proofs.Ytfifbadepebpeaa

/- The row of entries in memory, while the reference's Match reckons them. -/
namespace Go.Proofs.Ytfifbadepebpeaa
open Go.RowKit

theorem EncL.put {α : Type} {R : α → List Value → Prop} (k : Nat) (hk : ∀ x a, R x a → a.length = k) : ∀ {l : List α} {cs : List Value}, EncL R l cs → ∀ (i : Nat) (_ : i < l.length) (x' : α) (b : List Value), R x' b → ∀ cs' : List Value, (∀ o, o < k → cs'[i * k + o]? = b[o]?) → (∀ j, (j < i * k ∨ i * k + k ≤ j) → cs'[j]? = cs[j]?) → EncL R (l.set i x') cs'
  | x :: l, cs, ⟨a, r, he, h1, h2⟩, 0, _, x', b, hb, cs', g1, g2 => by
    have la := hk _ _ h1
    have lb := hk _ _ hb
    refine ⟨b, r, ?_, hb, h2⟩
    apply List.ext_getElem?
    intro j
    rcases Nat.lt_or_ge j k with hj | hj
    · have := g1 j hj
      rw [Nat.zero_mul, Nat.zero_add] at this
      rw [this, List.getElem?_append_left (by omega)]
    · rw [g2 j (.inr (by omega)), he, List.getElem?_append_right (by omega), List.getElem?_append_right (by omega), la, lb]
  | x :: l, cs, ⟨a, r, he, h1, h2⟩, i + 1, hi, x', b, hb, cs', g1, g2 => by
    have la := hk _ _ h1
    have e1 : (i + 1) * k = i * k + k := by rw [Nat.add_mul]; omega
    refine ⟨a, cs'.drop k, ?_, h1, EncL.put k hk h2 i (by simpa using hi) x' b hb _ (fun o ho => ?_) (fun j hj => ?_)⟩
    · apply List.ext_getElem?
      intro j
      rcases Nat.lt_or_ge j k with hj | hj
      · rw [g2 j (.inl (by omega)), he, List.getElem?_append_left (by omega), List.getElem?_append_left (by omega)]
      · rw [List.getElem?_append_right (by omega), List.getElem?_drop, la]
        congr 1
        omega
    · rw [List.getElem?_drop, ← g1 o ho]
      congr 1
      omega
    · rw [List.getElem?_drop, g2 (k + j) (by omega), he, List.getElem?_append_right (by omega)]
      congr 1
      omega

structure TlI (h4 : Hp) (w4 : World) (bt gl : Nat) (x y : List NodeP) (es : List CompP) (hj : Hp) (wr : World) (xs : List Value) : Prop where
  st : St w4.heap.size h4 w4 hj wr
  own : Ow wr hj w4.heap.size 45 6 (.slice (some ⟨gl, 0, none⟩) es.length es.length) es.length xs
  enc : EncL (EncComp hj) es xs
  tab : Tab hj bt x y (.slice (some ⟨gl, 0, none⟩) es.length es.length)

section
variable {h4 : Hp} {w4 : World} {bt gl : Nat} {x y : List NodeP} {es : List CompP} {hj h' : Hp} {wr w' : World} {xs : List Value}
theorem TlI.call (L : TlI h4 w4 bt gl x y es hj wr xs) (t : St wr.heap.size hj wr h' w') : TlI h4 w4 bt gl x y es h' w' xs :=
  ⟨L.st.call t, L.own.call t, L.enc.mono fun _ _ r => r.mono t.le, L.tab.mono t.le⟩
theorem TlI.drewN (L : TlI h4 w4 bt gl x y es hj wr xs) (n : Nat) : TlI h4 w4 bt gl x y es hj (wr.drewN n) xs := ⟨L.st.drewN n, L.own.drewN n, L.enc, L.tab⟩
theorem TlI.drew (L : TlI h4 w4 bt gl x y es hj wr xs) : TlI h4 w4 bt gl x y es hj wr.drew xs := ⟨L.st.drew, L.own.drew, L.enc, L.tab⟩
theorem TlI.fr (L : TlI h4 w4 bt gl x y es hj wr xs) (hl : es.length ≤ 1000000) : Imm (hj.fr w4.heap.size wr) wr ∧ hj.le (hj.fr w4.heap.size wr) ∧ Tab (hj.fr w4.heap.size wr) bt x y (.slice (some ⟨gl, 0, none⟩) es.length es.length) ∧ Cmps (hj.fr w4.heap.size wr) (.slice (some ⟨gl, 0, none⟩) es.length es.length) es :=
  ⟨L.st.imm.fr, Hp.le_fr L.st.imm, L.tab.mono (Hp.le_fr L.st.imm), xs, L.own.sl (by omega), L.enc.mono fun _ _ r => r.mono (Hp.le_fr L.st.imm)⟩
theorem TlI.cells (L : TlI h4 w4 bt gl x y es hj wr xs) {i : Nat} (hi : i < es.length) : gl < wr.heap.size ∧ (∀ o, o < 6 → ∃ v, wr.cell? ⟨gl, i * 6 + o, none⟩ = some v ∧ xs[i * 6 + o]? = some v ∧ wr.frozen? ⟨gl, i * 6 + o, none⟩ = false) := by
  obtain ⟨g', hg', _, hlt, _, hcl, hfz⟩ := L.own.cell (by omega)
  obtain rfl : gl = g' := by simpa using hg'
  refine ⟨hlt, fun o ho => ?_⟩
  have hl := L.own.len
  have : i * 6 + o < xs.length := by omega
  exact ⟨xs[i * 6 + o], hcl _ _ (List.getElem?_eq_getElem this), List.getElem?_eq_getElem this, hfz _⟩
theorem TlI.gl_no (L : TlI h4 w4 bt gl x y es hj wr xs) : hj gl = none ∧ w4.heap.size ≤ gl ∧ bt ≠ gl := by
  have h1 := L.own.free gl rfl
  refine ⟨h1, (L.own.lt gl rfl).1, fun e => ?_⟩
  obtain ⟨_, _, _, _, _, _, _, _, _, _, e2, _⟩ := L.tab
  rw [e, h1] at e2
  cases e2
theorem TlI.put6 (L : TlI h4 w4 bt gl x y es hj wr xs) {i : Nat} (hi : i < es.length) (e : CompP) (v0 v1 v2 v3 v4 v5 : Value) (he : EncComp hj e [v0, v1, v2, v3, v4, v5]) :
    TlI h4 w4 bt gl x y (es.set i e) hj ((((((wr.setCell ⟨gl, i * 6, none⟩ v0).setCell ⟨gl, i * 6 + 1, none⟩ v1).setCell ⟨gl, i * 6 + 2, none⟩ v2).setCell ⟨gl, i * 6 + 3, none⟩ v3).setCell ⟨gl, i * 6 + 4, none⟩ v4).setCell ⟨gl, i * 6 + 5, none⟩ v5)
      ((((((xs.set (i * 6) v0).set (i * 6 + 1) v1).set (i * 6 + 2) v2).set (i * 6 + 3) v3).set (i * 6 + 4) v4).set (i * 6 + 5) v5) := by
  obtain ⟨g1, g2, _⟩ := L.gl_no
  have hl := L.own.len
  have o1 := (((((L.own.set (i * 6) v0 (by omega)).set (i * 6 + 1) v1 (by omega)).set (i * 6 + 2) v2 (by omega)).set (i * 6 + 3) v3 (by omega)).set (i * 6 + 4) v4 (by omega)).set (i * 6 + 5) v5 (by omega)
  refine ⟨?_, by simpa using o1, ?_, by simpa using L.tab⟩
  · exact (((((L.st.setCell (p := ⟨gl, i * 6, none⟩) g2 g1 v0).setCell (p := ⟨gl, i * 6 + 1, none⟩) g2 g1 v1).setCell (p := ⟨gl, i * 6 + 2, none⟩) g2 g1 v2).setCell (p := ⟨gl, i * 6 + 3, none⟩) g2 g1 v3).setCell (p := ⟨gl, i * 6 + 4, none⟩) g2 g1 v4).setCell (p := ⟨gl, i * 6 + 5, none⟩) g2 g1 v5
  · refine L.enc.put 6 EncComp.len i hi e _ he _ (fun o ho => ?_) (fun j hj => ?_)
    · have : o = 0 ∨ o = 1 ∨ o = 2 ∨ o = 3 ∨ o = 4 ∨ o = 5 := by omega
      rcases this with rfl | rfl | rfl | rfl | rfl | rfl <;> simp [List.getElem?_set] <;> omega
    · simp only [List.getElem?_set]
      repeat' rw [if_neg (by omega)]
theorem TlI.put3 (L : TlI h4 w4 bt gl x y es hj wr xs) {i : Nat} (hi : i < es.length) (A : AlignP) (v3 v4 v5 : Value) (he : EncAlign hj A [v3, v4, v5]) :
    TlI h4 w4 bt gl x y (es.set i { es[i] with kids := A }) hj (((wr.setCell ⟨gl, i * 6 + 3, none⟩ v3).setCell ⟨gl, i * 6 + 4, none⟩ v4).setCell ⟨gl, i * 6 + 5, none⟩ v5) (((xs.set (i * 6 + 3) v3).set (i * 6 + 4) v4).set (i * 6 + 5) v5) := by
  obtain ⟨g1, g2, _⟩ := L.gl_no
  have hl := L.own.len
  have o1 := ((L.own.set (i * 6 + 3) v3 (by omega)).set (i * 6 + 4) v4 (by omega)).set (i * 6 + 5) v5 (by omega)
  obtain ⟨a, h1, h2⟩ := L.enc.at 6 EncComp.len i hi
  obtain ⟨r, rfl, i1, i2, i3, h3⟩ := h1
  refine ⟨?_, by simpa using o1, ?_, by simpa using L.tab⟩
  · exact ((L.st.setCell (p := ⟨gl, i * 6 + 3, none⟩) g2 g1 v3).setCell (p := ⟨gl, i * 6 + 4, none⟩) g2 g1 v4).setCell (p := ⟨gl, i * 6 + 5, none⟩) g2 g1 v5
  · refine L.enc.put 6 EncComp.len i hi { es[i] with kids := A } ([.int .i64 es[i].a, .int .i64 es[i].b, .int .i64 es[i].cost] ++ [v3, v4, v5]) ⟨_, rfl, i1, i2, i3, he⟩ _ (fun o ho => ?_) (fun j hj => ?_)
    · have e0 := h2 0 (by omega)
      have e1 := h2 1 (by omega)
      have e2 := h2 2 (by omega)
      simp only [List.cons_append, List.getElem?_cons_zero, List.getElem?_cons_succ, Nat.add_zero] at e0 e1 e2
      have : o = 0 ∨ o = 1 ∨ o = 2 ∨ o = 3 ∨ o = 4 ∨ o = 5 := by omega
      rcases this with rfl | rfl | rfl | rfl | rfl | rfl
      · simp [e0]
      · simp [e1]
      · simp [e2]
      · simp [List.getElem?_set]; omega
      · simp [List.getElem?_set]; omega
      · simp [List.getElem?_set]; omega
    · simp only [List.getElem?_set]
      repeat' rw [if_neg (by omega)]
theorem TlI.put1 (L : TlI h4 w4 bt gl x y es hj wr xs) {i : Nat} (hi : i < es.length) (c : Int) (hc : I64 c) :
    TlI h4 w4 bt gl x y (es.set i { es[i] with cost := c }) hj (wr.setCell ⟨gl, i * 6 + 2, none⟩ (.int .i64 c)) (xs.set (i * 6 + 2) (.int .i64 c)) := by
  obtain ⟨g1, g2, _⟩ := L.gl_no
  have hl := L.own.len
  have o1 := L.own.set (i * 6 + 2) (.int .i64 c) (by omega)
  obtain ⟨a, h1, h2⟩ := L.enc.at 6 EncComp.len i hi
  obtain ⟨r, rfl, i1, i2, i3, h3⟩ := h1
  have hr := EncAlign.len _ _ h3
  refine ⟨L.st.setCell (p := ⟨gl, i * 6 + 2, none⟩) g2 g1 _, by simpa using o1, ?_, by simpa using L.tab⟩
  refine L.enc.put 6 EncComp.len i hi { es[i] with cost := c } ([.int .i64 es[i].a, .int .i64 es[i].b, .int .i64 c] ++ r) ⟨r, rfl, i1, i2, hc, h3⟩ _ (fun o ho => ?_) (fun j hj => ?_)
  · rw [List.getElem?_set]
    by_cases e : i * 6 + 2 = i * 6 + o
    · have : o = 2 := by omega
      subst this
      rw [if_pos rfl, if_pos (by omega)]; rfl
    · rw [if_neg e, h2 o ho]
      have : o = 0 ∨ o = 1 ∨ o = 3 ∨ o = 4 ∨ o = 5 := by omega
      rcases this with rfl | rfl | rfl | rfl | rfl <;> rfl
  · rw [List.getElem?_set, if_neg (by omega)]
end
theorem Tab.l {h : Hp} {bt : Nat} {x y : List NodeP} {vl : Value} (t : Tab h bt x y vl) {w : World} (hw : Imm h w) : bt < w.heap.size ∧ w.cell? ⟨bt, 10, none⟩ = some vl := by
  obtain ⟨a0, a1, a2, a3, a4, b0, b1, b2, b3, b4, e, _⟩ := t
  exact ⟨blk_lt (hw bt _ e), blk_cell (hw bt _ e) 10⟩
def es1 (C : List (Int × Int)) (k : Nat) : List CompP := (C.take k).map blankC ++ List.replicate (C.length - k) (blankC (0, 0))
theorem es1_len {C : List (Int × Int)} {k : Nat} (hk : k ≤ C.length) : (es1 C k).length = C.length := by simp [es1]; omega
theorem es1_zero (C : List (Int × Int)) : es1 C 0 = List.replicate C.length (blankC (0, 0)) := by simp [es1]
theorem es1_full (x y : List NodeP) (C : List (Int × Int)) : es1 C C.length = esR x y C C.length := by rw [esR_full]; simp [es1]
theorem es1_succ {C : List (Int × Int)} {k : Nat} (hk : k < C.length) : (es1 C k).set k (blankC C[k]) = es1 C (k + 1) := by
  unfold es1
  have hl : ((C.take k).map blankC).length = k := by simp; omega
  rw [List.set_append_right _ _ (by omega), hl, Nat.sub_self, show C.length - k = (C.length - (k + 1)) + 1 by omega, List.replicate_succ, List.set_cons_zero, List.take_add_one, List.getElem?_eq_getElem hk, List.map_append, List.append_assoc]
  rfl
theorem EncL.rep {α : Type} {R : α → List Value → Prop} (k : Nat) {e : α} {b : List Value} (hb : R e b) (hl : b.length = k) : ∀ (n : Nat) (cs : List Value), cs.length = n * k → (∀ i, i < n → ∀ o, o < k → cs[i * k + o]? = b[o]?) → EncL R (List.replicate n e) cs
  | 0, cs, h, _ => by rw [Nat.zero_mul] at h; exact List.eq_nil_of_length_eq_zero h
  | n + 1, cs, h, g => by
    have e1 : (n + 1) * k = n * k + k := by rw [Nat.add_mul]; omega
    rw [List.replicate_succ]
    refine ⟨b, cs.drop k, ?_, hb, EncL.rep k hb hl n _ (by rw [List.length_drop]; omega) (fun i hi o ho => ?_)⟩
    · apply List.ext_getElem?
      intro j
      rcases Nat.lt_or_ge j k with hj | hj
      · have := g 0 (by omega) j hj
        rw [Nat.zero_mul, Nat.zero_add] at this
        rw [this, List.getElem?_append_left (by omega)]
      · rw [List.getElem?_append_right (by omega), List.getElem?_drop]
        congr 1
        omega
    · rw [List.getElem?_drop, ← g (i + 1) (by omega) o ho]
      congr 1
      rw [Nat.add_mul]
      omega
def zC : Array Value := #[.int .i64 0, .int .i64 0, .int .i64 0, .slice none 0 0, .int .i64 0, .slice none 0 0]
theorem blank_enc (h : Hp) (p : Int × Int) (h1 : I64 p.1) (h2 : I64 p.2) : EncComp h (blankC p) [.int .i64 p.1, .int .i64 p.2, .int .i64 0, .slice none 0 0, .int .i64 0, .slice none 0 0] :=
  ⟨[.slice none 0 0, .int .i64 0, .slice none 0 0], rfl, h1, h2, by show I64 0; unfold I64; omega, none, 0, none, 0, rfl, by show I64 0; unfold I64; omega, ⟨Sl.nil _ _ _ _, by simp [blankC]⟩, ⟨[], Sl.nil _ _ _ _, rfl⟩⟩
theorem mk_cmps (n : Nat) (hn : n ≤ 1000000) (W : World) : (Instr.makeSlice 30 (.int .i64 (n : Int)) (.int .i64 (n : Int))).run Try.prog W = .ok (.slice (some ⟨W.heap.size, 0, none⟩) n n) (W.alloc (.cells (madeCells zC (n * 6)) 45)) := by
  obtain ⟨i, zv, hi, hz, hsz, hby, hzc⟩ := el_cmps.info
  have hb : (i.bytes : Int) * (n : Int) ≤ 281474976710656 := by
    rw [hby]
    have : ((80 : Nat) : Int) * (n : Int) ≤ 281474976710656 := by omega
    exact this
  have := run_make W 30 45 i zv el_cmps.und hi hz .i64 .i64 (n : Int) (n : Int) (by omega) (by omega) hb (by omega)
  rw [this, hzc, hsz]
  rfl
theorem TlI.start {h4 : Hp} {w4 : World} (hi : Imm h4 w4) {x y : List NodeP} {a0 a1 a2 a3 a4 b0 b1 b2 b3 b4 : Value} (nx : NumE h4 x [a0, a1, a2, a3, a4]) (ny : NumE h4 y [b0, b1, b2, b3, b4]) (n : Nat) (hn : n ≤ 1000000) (T : TypeId) :
    TlI h4 w4 (w4.heap.size + 1) w4.heap.size x y (List.replicate n (blankC (0, 0))) (h4.add (w4.heap.size + 1) #[a0, a1, a2, a3, a4, b0, b1, b2, b3, b4, .slice (some ⟨w4.heap.size, 0, none⟩) n n]) ((w4.alloc (.cells (madeCells zC (n * 6)) 45)).alloc (.cells #[a0, a1, a2, a3, a4, b0, b1, b2, b3, b4, .slice (some ⟨w4.heap.size, 0, none⟩) n n] T)) (madeCells zC (n * 6)).toList := by
  have hno : h4 (w4.heap.size + 1) = none := new_own hi _ (by omega)
  have hle := Hp.le_add #[a0, a1, a2, a3, a4, b0, b1, b2, b3, b4, .slice (some ⟨w4.heap.size, 0, none⟩) n n] hno
  have S := ((St.refl hi).alloc (.cells (madeCells zC (n * 6)) 45)).alloc (.cells #[a0, a1, a2, a3, a4, b0, b1, b2, b3, b4, .slice (some ⟨w4.heap.size, 0, none⟩) n n] T)
  have HB := Has.new1 w4 (.cells (madeCells zC (n * 6)) 45) #[a0, a1, a2, a3, a4, b0, b1, b2, b3, b4, .slice (some ⟨w4.heap.size, 0, none⟩) n n] T
  have o := (own_made hi (Nat.le_refl _) zC n 6 45 (by simp [maxLen]; omega)).alloc (.cells #[a0, a1, a2, a3, a4, b0, b1, b2, b3, b4, .slice (some ⟨w4.heap.size, 0, none⟩) n n] T)
  refine ⟨⟨S.below, S.imm.add (HB.blk (by simp)), hle, fun b hb => ?_, Nat.le_refl _⟩, ?_, ?_, ?_⟩
  · unfold Hp.add; rw [if_neg (by omega)]
  · rw [List.length_replicate]
    refine o.keep (fun _ _ => rfl) (fun g hg => ?_)
    simp only [Value.ownBlock, Option.some.injEq] at hg
    unfold Hp.add; rw [if_neg (by omega)]
  · refine EncL.rep 6 (blank_enc _ (0, 0) (by show I64 0; unfold I64; omega) (by show I64 0; unfold I64; omega)) rfl n _ (by simp [size_madeCells]) (fun i hi o ho => ?_)
    have hlt : i * 6 + o < n * 6 := by omega
    have e : (i * 6 + o) % 6 = o := by omega
    have hj : (madeCells zC (n * 6)).toList[i * 6 + o]? = some (zC[(i * 6 + o) % 6]!) := by
      rw [Array.getElem?_toList]
      unfold madeCells
      rw [Array.getElem?_map, Array.getElem?_range, if_pos hlt]
      rfl
    rw [hj, e]
    have : o = 0 ∨ o = 1 ∨ o = 2 ∨ o = 3 ∨ o = 4 ∨ o = 5 := by omega
    rcases this with rfl | rfl | rfl | rfl | rfl | rfl <;> rfl
  · rw [List.length_replicate]
    exact ⟨a0, a1, a2, a3, a4, b0, b1, b2, b3, b4, by unfold Hp.add; rw [if_pos rfl], nx.mono hle, ny.mono hle⟩
end Go.Proofs.Ytfifbadepebpeaa

/- The entries of the reference's Match: one more is reckoned; reads of the table at the end. -/
namespace Go.Proofs.Ytfifbadepebpeaa
open Go.RowKit

def CompP.setK (e : CompP) (A : AlignP) : CompP := ⟨e.a, e.b, e.cost, A⟩
theorem set_at (es : List CompP) (s : Nat) (e : CompP) (h : s < (es.set s e).length) : (es.set s e)[s] = e := by rw [List.getElem_set_self]
section
variable {x y : List NodeP}
theorem esR_at {C : List (Int × Int)} {r : Nat} (hr : r < C.length) (h : r < (esR x y C (r + 1)).length) : (esR x y C (r + 1))[r] = blankC C[r] := by
  have hl : ((C.take r).map blankC).length = r := by simp; omega
  have e : (esR x y C (r + 1))[r]? = some (blankC C[r]) := by
    rw [esR_pre hr, List.getElem?_append_right (by omega), hl, Nat.sub_self]; rfl
  rw [List.getElem?_eq_getElem h] at e
  exact Option.some.inj e
theorem esR_put {C : List (Int × Int)} {r : Nat} (hr : r < C.length) (e : CompP) : (esR x y C (r + 1)).set r e = (C.take r).map blankC ++ e :: buildP x y (C.drop (r + 1)) := by
  have hl : ((C.take r).map blankC).length = r := by simp; omega
  rw [esR_pre hr, List.set_append_right _ _ (by omega), hl, Nat.sub_self, List.set_cons_zero]
theorem esR_next {C : List (Int × Int)} {r : Nat} (hr : r < C.length) {es : List CompP} (A : AlignP) (hA : A = alignOf x y C[r] (dget (buildP x y (C.drop (r + 1))))) (he : es = (esR x y C (r + 1)).set r ((blankC C[r]).setK A)) (h : r < es.length) :
    es.set r { es[r] with cost := differP (nd x C[r].1).text (nd y C[r].2).text + A.cost } = esR x y C r := by
  have e1 : es[r] = ((blankC C[r]).setK A) := by
    subst he
    rw [List.getElem_set_self]
  rw [e1, he, List.set_set, esR_put hr, esR_step hr, hA]
  rfl
theorem entry_bd (px : PO x) (py : PO y) (nx : narrowB x = true) (ny : narrowB y = true) {C : List (Int × Int)} (hC : Cmp x y C) {r : Nat} (hr : r < C.length) :
    0 ≤ differP (nd x C[r].1).text (nd y C[r].2).text + (alignOf x y C[r] (dget (buildP x y (C.drop (r + 1))))).cost ∧ differP (nd x C[r].1).text (nd y C[r].2).text + (alignOf x y C[r] (dget (buildP x y (C.drop (r + 1))))).cost ≤ 524288 := by
  have sx : x.length ≤ 262144 := by unfold narrowB at nx; simp only [Bool.and_eq_true, decide_eq_true_eq] at nx; exact nx.1
  have sy : y.length ≤ 262144 := by unfold narrowB at ny; simp only [Bool.and_eq_true, decide_eq_true_eq] at ny; exact ny.1
  have hin := hC.inr _ (List.getElem_mem hr)
  have ok := entry_ok px.wf py.wf hin (dget (buildP x y (C.drop (r + 1)))) (prop_esR px py nx ny hC hr)
  have h1 := size_le px.wf x.length C[r].1 hin.1 hin.2.1 (by have := hin.2.1; omega)
  have h2 := size_le py.wf y.length C[r].2 hin.2.2.1 hin.2.2.2 (by have := hin.2.2.2; omega)
  have lo := ok.lo
  have hi := ok.hi
  simp only [entryP] at lo hi
  omega
end
theorem TlI.put3e {h4 : Hp} {w4 : World} {bt gl : Nat} {x y : List NodeP} {es : List CompP} {hj : Hp} {wr : World} {xs : List Value} (L : TlI h4 w4 bt gl x y es hj wr xs) {i : Nat} (hi : i < es.length) (e : CompP) (hee : es[i] = e) (A : AlignP) (v3 v4 v5 : Value) (he : EncAlign hj A [v3, v4, v5]) :
    ∃ xs', TlI h4 w4 bt gl x y (es.set i (e.setK A)) hj (((wr.setCell ⟨gl, i * 6 + 3, none⟩ v3).setCell ⟨gl, i * 6 + 4, none⟩ v4).setCell ⟨gl, i * 6 + 5, none⟩ v5) xs' := by
  subst hee
  exact ⟨_, L.put3 hi A v3 v4 v5 he⟩
theorem TlI.row {h4 : Hp} {w4 : World} {bt gl : Nat} {x y : List NodeP} {es : List CompP} {hj : Hp} {wr : World} {xs : List Value} (L : TlI h4 w4 bt gl x y es hj wr xs) {i : Nat} (hi : i < es.length) :
    gl < wr.heap.size ∧ wr.cell? ⟨gl, i * 6 + 2, none⟩ = some (.int .i64 es[i].cost) ∧ wr.cell? ⟨gl, i * 6 + 4, none⟩ = some (.int .i64 es[i].kids.cost) ∧ I64 es[i].cost ∧ I64 es[i].kids.cost := by
  obtain ⟨hlt, hc⟩ := L.cells hi
  obtain ⟨a, h1, h2⟩ := L.enc.at 6 EncComp.len i hi
  obtain ⟨r, rfl, i1, i2, i3, h3⟩ := h1
  obtain ⟨ap, cp, ar, cr, rfl, i4, -⟩ := h3
  refine ⟨hlt, ?_, ?_, i3, i4⟩
  · obtain ⟨v, e1, e2, -⟩ := hc 2 (by omega)
    rw [h2 2 (by omega)] at e2
    rw [e1, ← e2]; rfl
  · obtain ⟨v, e1, e2, -⟩ := hc 4 (by omega)
    rw [h2 4 (by omega)] at e2
    rw [e1, ← e2]; rfl
theorem far1 {w : World} {g k b i : Nat} {v u : Value} (hg : g ≠ b) (h : w.cell? ⟨b, i, none⟩ = some v) : (w.setCell ⟨g, k, none⟩ u).cell? ⟨b, i, none⟩ = some v := by
  rw [World.cell?_of_block (a := ⟨b, i, none⟩) (Below.heap_setCell _ _ _ _ (by exact fun e => hg e.symm))]; exact h
theorem near1 {w : World} {g k i : Nat} {v u : Value} (hg : k ≠ i) (h : w.cell? ⟨g, i, none⟩ = some v) : (w.setCell ⟨g, k, none⟩ u).cell? ⟨g, i, none⟩ = some v := by
  have e : ((⟨g, i, none⟩ : Addr) = ⟨g, k, none⟩) → False := fun e => hg (by injection e with _ e2; exact e2.symm)
  rw [World.cell?_setCell_other _ _ _ _ (by first | exact e | exact fun q => e q.symm)]; exact h
theorem far5 {w : World} {g b i : Nat} {v : Value} (hg : g ≠ b) (h : w.cell? ⟨b, i, none⟩ = some v) (v0 v1 v2 v3 v4 : Value) :
    (((((w.setCell ⟨g, 0, none⟩ v0).setCell ⟨g, 1, none⟩ v1).setCell ⟨g, 2, none⟩ v2).setCell ⟨g, 3, none⟩ v3).setCell ⟨g, 4, none⟩ v4).cell? ⟨b, i, none⟩ = some v := by
  have e : ∀ (w : World) (k : Nat) (u : Value), w.cell? ⟨b, i, none⟩ = some v → (w.setCell ⟨g, k, none⟩ u).cell? ⟨b, i, none⟩ = some v := fun w k u hw => by
    rw [World.cell?_of_block (a := ⟨b, i, none⟩) (Below.heap_setCell _ _ _ _ (by exact fun e => hg e.symm))]; exact hw
  exact e _ _ _ (e _ _ _ (e _ _ _ (e _ _ _ (e _ _ _ h))))
theorem EncAlign.three {h : Hp} {A : AlignP} {cs : List Value} (e : EncAlign h A cs) : ∃ (ap : Option Addr) (cp : Nat) (ar : Option Addr) (cr : Nat), cs = [.slice ap A.pairs.length cp, .int .i64 A.cost, .slice ar A.pot.length cr] := by
  obtain ⟨ap, cp, ar, cr, rfl, -⟩ := e
  exact ⟨_, _, _, _, rfl⟩
end Go.Proofs.Ytfifbadepebpeaa
