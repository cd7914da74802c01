/- The reference's parents. -/
import Derived.Test.YtfifbadepebpeaaWe
import Derived.Test.YtfifbadepebpeaaBp
import Derived.Test.YtfifbadepebpeaaBa
import Derived.Test.YtfifbadepebpeaaWa
namespace Go.Proofs.Ytfifbadepebpeaa
open Go.RowKit

mutual
def parT : Tree → Nat → List (Int × Int)
  | .node _ _ _ ks, a => parTs ks a (a + 1) 0
def parTs : List Tree → Nat → Nat → Nat → List (Int × Int)
  | [], _, _, _ => []
  | t :: ts, a, n, i => ((a : Int), (i : Int)) :: (parT t n ++ parTs ts a (n + t.size) (i + 1))
end
theorem parT_eq (t : Tree) (a : Nat) : parT t a = parTs t.kids a (a + 1) 0 := by cases t; rw [parT]; rfl
mutual
theorem par_flat : ∀ (t : Tree) (p : Int) (n : Nat), p :: (parT t n).map (·.1) = (flatAt t p n).map (·.parent)
  | .node k s l ks, p, n => by
    rw [parT, flatAt, List.map_cons, par_flats ks n (n + 1) 0]
theorem par_flats : ∀ (ts : List Tree) (p n i : Nat), (parTs ts p n i).map (·.1) = (flatKids ts p n).map (·.parent)
  | [], p, n, i => by rw [parTs, flatKids]; rfl
  | t :: ts, p, n, i => by
    rw [parTs, flatKids, List.map_cons, List.map_append, List.map_append, ← par_flat t p n, par_flats ts p (n + t.size) (i + 1)]
    rfl
end
theorem parTs_length (ts : List Tree) (p n i : Nat) : (parTs ts p n i).length = sizes ts := by
  have := congrArg List.length (par_flats ts p n i)
  simpa [flatKids_length] using this
theorem parT_length (t : Tree) (n : Nat) : (parT t n).length + 1 = t.size := by rw [parT_eq, parTs_length, t.size_eq]
theorem parTs_take (ts : List Tree) (a n i j : Nat) (h : j < ts.length) : parTs (ts.take (j + 1)) a n i = parTs (ts.take j) a n i ++ (((a : Int), ((i + j : Nat) : Int)) :: parT ts[j] (n + sizes (ts.take j))) := by
  induction ts generalizing n i j with
  | nil => simp at h
  | cons t ts ih =>
    cases j with
    | zero => simp [parTs, sizes]
    | succ j =>
      simp only [List.take_succ_cons, parTs, List.getElem_cons_succ, sizes, List.cons_append, List.append_assoc]
      rw [ih (n + t.size) (i + 1) j (by simpa using h)]
      simp only [Nat.add_assoc, Nat.add_comm 1 j]
mutual
theorem parT_bd : ∀ (t : Tree) (n : Nat) (q : Int × Int), q ∈ parT t n → 0 ≤ q.1 ∧ q.1 ≤ ((n + t.size : Nat) : Int) ∧ 0 ≤ q.2 ∧ q.2 ≤ (t.size : Int)
  | .node k s l ks, n, q, h => by
    rw [parT] at h
    have := parTs_bd ks n (n + 1) 0 q h (by omega)
    rw [Tree.size]
    omega
theorem parTs_bd : ∀ (ts : List Tree) (a n i : Nat) (q : Int × Int), q ∈ parTs ts a n i → a ≤ n → 0 ≤ q.1 ∧ q.1 ≤ ((n + sizes ts : Nat) : Int) ∧ 0 ≤ q.2 ∧ q.2 ≤ ((i + sizes ts : Nat) : Int)
  | [], a, n, i, q, h, _ => by rw [parTs] at h; simp at h
  | t :: ts, a, n, i, q, h, ha => by
    rw [parTs] at h
    rw [sizes]
    have hs : 0 < t.size := by have := t.size_eq; omega
    rcases List.mem_cons.1 h with rfl | h
    · simp only; omega
    · rcases List.mem_append.1 h with h | h
      · have := parT_bd t n q h; omega
      · have := parTs_bd ts a (n + t.size) (i + 1) q h (by omega); omega
end

structure ParI (h : Hp) (w : World) (B : Nat) (vl : Value) (m : List (Int × Int)) (wr : World) (v : Value) : Prop where
  imm : Imm h wr
  grown : w.grownBy wr vl.ownBlock
  own : PrOw wr h B v m
  blk : v.ownBlock = vl.ownBlock ∨ ∃ g, v.ownBlock = some g ∧ w.heap.size ≤ g

set_option maxRecDepth 100000 in
set_option maxHeartbeats 2000000 in
theorem rparents_any (m : Nat) : ∀ (t : Tree) (_ : t.size ≤ m) (h : Hp) (w : World) (_ : Imm h w) (B : Nat) (_ : B ≤ w.heap.size) (v : Value) (_ : TreeV h v t) (vl : Value) (l : List (Int × Int)) (a : Nat) (_ : PrOw w h B vl l) (_ : l.length = a + 1) (_ : a + t.size ≤ 1000000),
    Calls Try.prog 71 #[vl, v, .int .i64 a] w fun e w' => ∃ v', e = .returned v' ∧ ParI h w B vl (l ++ parT t a) w' v' := by
  induction m with
  | zero => intro t hn; have := t.size_eq; omega
  | succ m ih =>
    intro t htm h w hi B hB v ht vl l a hown hla hbd
    have HI := Lib.hid hi
    have IH := Lib.hid ih
    have HO := Lib.hid hown
    have HLA := Lib.hid hla
    obtain ⟨al, cl, ak, ck, ys, rfl, hk, hll, hkl, hs1, hs2, he⟩ := ht.open
    have SL := Lib.hid hs2
    have EN := Lib.hid he
    have hsz := t.size_eq
    have hkn := length_le_sizes t.kids
    have hrow : ∀ k, vl.ownBlock = some k → k < w.heap.size := fun k hk => (hown.lt k hk).2
    have HROW := Lib.hid hrow
    obtain ⟨a0, c0, rfl⟩ := Ow.shape hown
    clear ht hi ih hs1 hs2 he hown hla hrow
    go_enter Try.func71, Try.ntmps71
    go_wp2_with fail
    go_loopw [0, 7, 8, 9, 10, 11, 12, 13, 14, 15, 16, 17, 18, 19, 20, 21, 22, 23, 24, 25, 26, 27, 28, 29, 30, 31] (fun v i _ _ _ _ _ _ _ _ _ _ _ _ _ _ _ _ _ _ _ _ _ _ _ _ wr => ∃ (j : Nat), j ≤ t.kids.length ∧ i = .int .i64 j ∧ ParI h (w.alloc (Obj.cells #[.int .i64 t.kind, .string t.text, .slice al t.leads.length cl, .slice ak t.kids.length ck] 25)) B (.slice a0 l.length c0) (l ++ parTs (t.kids.take j) a (a + 1) 0) wr v) (fun _ i _ _ _ _ _ _ _ _ _ _ _ _ _ _ _ _ _ _ _ _ _ _ _ _ _ => t.kids.length - (intOf i).toNat)
    case atStart => exact ⟨0, Nat.zero_le _, rfl, ⟨HI.out.alloc _, World.grownBy.refl _ _, by have := Ow.alloc HO.out (Obj.cells #[.int .i64 t.kind, .string t.text, .slice al t.leads.length cl, .slice ak t.kids.length ck] 25); rw [List.take_zero, parTs, List.append_nil]; exact this, .inl rfl⟩⟩
    case round =>
      obtain ⟨j, hjl, rfl, P⟩ := hrel
      obtain ⟨am, cm, rfl⟩ := Ow.shape P.own
      have P' := Lib.hid P
      have hb3 : wr.cell? ⟨w.heap.size, 3, none⟩ = some (.slice ak t.kids.length ck) := by
        have := box_kept1 P.grown HROW.out 3
        simpa using this
      have hzr : w.heap.size < wr.heap.size := by have := P.grown.size; simp at this; omega
      have hlen : (l ++ parTs (t.kids.take j) a (a + 1) 0).length = a + 1 + sizes (t.kids.take j) := by rw [List.length_append, parTs_length, HLA.out]
      have hst0 := sizes_take_le t.kids j
      by_cases hlt : j < t.kids.length
      · obtain ⟨b, off, al', cl', ak', ck', rfl, hb, e0, e1, e2, e3, TV⟩ := trees_at SL.out EN.out P.imm j hlt
        have hst := sizes_take t.kids j hlt
        have hstl := sizes_take_le t.kids (j + 1)
        have hsm : t.kids[j].size ≤ m := by omega
        have HPT := Lib.hid (parTs_take t.kids a (a + 1) 0 j hlt)
        have HTV : Hid (∀ W, Imm h W → ∃ al' cl' ak' ck', W.cell? ⟨b, off + j * 4, none⟩ = some (.int .i64 t.kids[j].kind) ∧ W.cell? ⟨b, off + j * 4 + 1, none⟩ = some (.string t.kids[j].text) ∧
            W.cell? ⟨b, off + j * 4 + 2, none⟩ = some (.slice al' t.kids[j].leads.length cl') ∧ W.cell? ⟨b, off + j * 4 + 3, none⟩ = some (.slice ak' t.kids[j].kids.length ck') ∧ b < W.heap.size ∧
            TreeV h (.agg #[.int .i64 t.kids[j].kind, .string t.kids[j].text, .slice al' t.kids[j].leads.length cl', .slice ak' t.kids[j].kids.length ck']) t.kids[j]) := fun W hW => by
          obtain ⟨b2, off2, x1, x2, x3, x4, he, hb2, y0, y1, y2, y3, yt⟩ := trees_at SL.out EN.out hW j hlt
          simp only [Option.some.injEq, Addr.mk.injEq, and_true] at he
          obtain ⟨rfl, rfl⟩ := he
          exact ⟨x1, x2, x3, x4, y0, y1, y2, y3, hb2, yt⟩
        have hks : 0 < t.kids[j].size := by have := t.kids[j].size_eq; omega
        generalize t.kids[j] = kt at *
        generalize hM : l ++ parTs (t.kids.take j) a (a + 1) 0 = M at *
        have HM := Lib.hid hM
        have HLEN := Lib.hid hlen
        have hMl : M.length ≤ 1000001 := by omega
        have hMI : (M.length : Int) = ((a + 1 + sizes (t.kids.take j) : Nat) : Int) := by omega
        have u0 : (0 : Int) ≤ (j : Int) := by omega
        have u1 : (j : Int) < (t.kids.length : Int) := by omega
        clear P TV e0 e1 e2 e3 hM hlen hMI
        have SR : Hid (St B h wr h wr) := St.refl' P'.out.imm (by have := P'.out.grown.size; simp at this; omega)
        go_upto_region 6 with (at_builtin; refine wpList_app el_pairs rfl _ _ rfl (SR.out.alloc _) _ M.length _ rfl (Ow.alloc P'.out.own _) ⟨_, 0, none⟩ 1 1 (encP ((a : Int), (j : Int))) rfl rfl (new_cells _ _ _ _ (by simp)) (one_cells _ rfl) (by omega) ?_; intro v2 w3 st2 own2 gr2 bk2)
        obtain ⟨xa, xb, xc, xd, y0, y1, y2, y3, yb, yt⟩ := HTV.out w3 st2.imm
        have f3 : w3.cell? ⟨w.heap.size, 3, none⟩ = some (.slice (some ⟨b, off, none⟩) t.kids.length ck) := by
          have hne : (Value.slice am M.length cm).ownBlock ≠ some w.heap.size := by
            rcases P'.out.blk with e | ⟨g, e, hg⟩
            · rw [e]; exact fun hh => Nat.lt_irrefl _ (HROW.out _ hh)
            · rw [e]; simp only [ne_eq, Option.some.injEq]; simp at hg; omega
          exact ((gr2.cellOf (b := w.heap.size) (i := 3) (by simp; omega) hne).1.trans (World.cell?_alloc_past _ _ _ hzr)).trans hb3
        have yt' := Lib.hid yt
        have ST2 := Lib.hid st2
        have OW2 : Hid (PrOw w3 h B v2 (M ++ [((a : Int), (j : Int))])) := by unfold Hid PrOw; rw [flatMap_snoc]; simpa using own2
        have G2 := Lib.hid gr2
        have K2 := Lib.hid bk2
        have z3 : w.heap.size < w3.heap.size := by have := gr2.size; simp at this; omega
        obtain ⟨av2, cv2, rfl⟩ := Ow.shape OW2.out
        clear yt st2 own2 gr2 bk2
        have hl2 : (M ++ [((a : Int), (j : Int))]).length = M.length + 1 := by simp
        rw [hl2]
        go_wp2_with fail
        refine (IH.out kt hsm h _ ST2.out.imm B ST2.out.size _ yt'.out _ (M ++ [((a : Int), (j : Int))]) M.length (by rw [hl2] at OW2; exact OW2.out) hl2 (by have := HLEN.out; omega)).mono ?_
        rintro e w4 ⟨v4, rfl, P4⟩
        have PN : Hid (ParI h (w.alloc (Obj.cells #[.int .i64 t.kind, .string t.text, .slice al t.leads.length cl, .slice (some ⟨b, off, none⟩) t.kids.length ck] 25)) B (.slice a0 l.length c0) (l ++ parTs (t.kids.take (j + 1)) a (a + 1) 0) w4 v4) := by
          have g1 : (w.alloc (Obj.cells #[.int .i64 t.kind, .string t.text, .slice al t.leads.length cl, .slice (some ⟨b, off, none⟩) t.kids.length ck] 25)).grownBy w3 (Value.slice a0 l.length c0).ownBlock := grown_step (grown_alloc P'.out.grown _) G2.out (fun k hk => by
            rcases P'.out.blk with e | ⟨g, e, hg⟩
            · exact .inl (e ▸ hk)
            · have : some g = some k := e ▸ hk
              exact .inr (by have := Option.some.inj this; omega))
          have b2 : (Value.slice av2 (M.length + 1) cv2).ownBlock = (Value.slice a0 l.length c0).ownBlock ∨ ∃ g, (Value.slice av2 (M.length + 1) cv2).ownBlock = some g ∧ (w.alloc (Obj.cells #[.int .i64 t.kind, .string t.text, .slice al t.leads.length cl, .slice (some ⟨b, off, none⟩) t.kids.length ck] 25)).heap.size ≤ g := by
            have K := K2.out
            rw [hl2] at K
            rcases K with e | e
            · rcases P'.out.blk with e' | ⟨g, e', hg⟩
              · exact .inl (e.trans e')
              · exact .inr ⟨g, e.trans e', hg⟩
            · exact .inr ⟨_, e, by have := P'.out.grown.size; simp at this ⊢; omega⟩
          refine ⟨P4.imm, grown_step g1 P4.grown (fun k hk => ?_), ?_, ?_⟩
          · rcases b2 with e | ⟨g, e, hg⟩
            · exact .inl (e ▸ hk)
            · have : some g = some k := e ▸ hk
              exact .inr (by have := Option.some.inj this; omega)
          · have := P4.own
            rw [HPT.out, ← List.append_assoc, HM.out, show a + 1 + sizes (t.kids.take j) = M.length by have := HLEN.out; omega]
            simpa using this
          · rcases P4.blk with e | ⟨g, e, hg⟩
            · rcases b2 with e' | ⟨g, e', hg⟩
              · exact .inl (e.trans e')
              · exact .inr ⟨g, e.trans e', hg⟩
            · exact .inr ⟨g, e, by have := g1.size; omega⟩
        clear P4
        go_wp2_with fail
        go_roundw
        case rel =>
          first
            | exact ⟨j + 1, by omega, by go_num, PN.out⟩
            | (repeat apply Exists.intro
               refine ⟨?_, rfl⟩
               exact ⟨j + 1, by omega, by go_num, PN.out⟩)
        case measure => simp [intOf]; omega
      · obtain rfl : j = t.kids.length := by omega
        go_wp2_with fail
        go_ret
        rw [List.take_length] at P
        rw [List.take_length]
        refine ⟨_, rfl, P.imm, ⟨P.grown.os, P.grown.tape, P.grown.output, by have := P.grown.size; simp at this; omega, fun k hk hne => (P.grown.block k (by simp; omega) hne).trans (Below.heap_alloc _ _ _ hk)⟩, by rw [parT_eq]; exact P.own, ?_⟩
        rcases P.blk with e | ⟨g, e, hg⟩
        · exact .inl e
        · exact .inr ⟨g, e, by simp at hg; omega⟩

theorem rParents_any (h : Hp) (w : World) (hi : Imm h w) (v : Value) (t : Tree) (ht : TreeV h v t) (hs : t.size ≤ 1000000) :
    Calls Try.prog 57 #[v] w fun e w' => ∃ v', e = .returned v' ∧ ∃ h', St w.heap.size h w h' w' ∧ Prs h' v' ((-1, 0) :: parT t 0) := by
  have HT := Lib.hid ht
  have HI := Lib.hid hi
  obtain ⟨al, cl, ak, ck, ys, rfl, hk, hll, hkl, hs1, hs2, he⟩ := ht.open
  clear ht hi hs1 hs2 he
  go_enter Try.func57, Try.ntmps57
  go_wp2_with fail
  have hz : (w.alloc (Obj.cells #[.int .i64 t.kind, .string t.text, .slice al t.leads.length cl, .slice ak t.kids.length ck] 25)).heap.size = w.heap.size + 1 := by simp
  have O0 : PrOw ((w.alloc (Obj.cells #[.int .i64 t.kind, .string t.text, .slice al t.leads.length cl, .slice ak t.kids.length ck] 25)).alloc (Obj.cells #[.int .i64 (-1), .int .i64 0] 52)) h (w.heap.size + 1) (.slice (some ⟨w.heap.size + 1, 0, none⟩) 1 1) [(-1, 0)] := by
    have := own_lit (w := w.alloc (Obj.cells #[.int .i64 t.kind, .string t.text, .slice al t.leads.length cl, .slice ak t.kids.length ck] 25)) (HI.out.alloc _) (B := w.heap.size + 1) (by simp) [.int .i64 (-1), .int .i64 0] 1 2 52 (by simp [maxLen]) rfl
    rw [hz] at this
    exact this
  refine (rparents_any t.size t (Nat.le_refl _) h _ ((HI.out.alloc _).alloc _) (w.heap.size + 1) (by simp) _ HT.out _ [(-1, 0)] 0 O0 rfl (by omega)).mono ?_
  rintro e w2 ⟨v2, rfl, P⟩
  have S0 : St (w.heap.size + 1) h (w.alloc (Obj.cells #[.int .i64 t.kind, .string t.text, .slice al t.leads.length cl, .slice ak t.kids.length ck] 25)) h w2 := by
    have s1 := (St.refl' (B := w.heap.size + 1) (HI.out.alloc (Obj.cells #[.int .i64 t.kind, .string t.text, .slice al t.leads.length cl, .slice ak t.kids.length ck] 25)) (by simp)).alloc (Obj.cells #[.int .i64 (-1), .int .i64 0] 52)
    refine s1.grown P.grown (fun k hk => ?_)
    simp only [Value.ownBlock, Option.some.injEq] at hk
    subst hk
    exact ⟨Nat.le_refl _, new_own HI.out _ (by omega)⟩
  have S1 : Hid (St w.heap.size h w h w2) := ((St.refl HI.out).alloc (Obj.cells #[.int .i64 t.kind, .string t.text, .slice al t.leads.length cl, .slice ak t.kids.length ck] 25)).call (by rw [hz]; exact S0)
  have P' := Lib.hid P
  clear P S0 O0 hz
  go_wp2_with fail
  go_ret
  have hl : ([(-1, 0)] ++ parT t 0).length = t.size := by have := parT_length t 0; simp; omega
  refine ⟨_, rfl, _, S1.out.fr, ?_, fun q hq => ?_⟩
  · have := (Ow.base (B' := w.heap.size) P'.out.own (by omega)).sl (by omega)
    exact this
  · rcases List.mem_cons.1 hq with rfl | hq
    · simp only; unfold I64; omega
    · have := parT_bd t 0 q hq
      unfold I64; omega
end Go.Proofs.Ytfifbadepebpeaa

/- The reference's Nodes. -/
namespace Go.Proofs.Ytfifbadepebpeaa
open Go.RowKit

mutual
def nodesT : Tree → List Tree
  | .node k s l ks => .node k s l ks :: nodesTs ks
def nodesTs : List Tree → List Tree
  | [] => []
  | t :: ts => nodesT t ++ nodesTs ts
end
theorem nodesT_eq (t : Tree) : nodesT t = t :: nodesTs t.kids := by cases t; rw [nodesT]; rfl

def sigN (e : NodeP) : Int × ByteArray × Nat × Int := (e.kind, e.text, e.kids.length, e.size)
def sigT (t : Tree) : Int × ByteArray × Nat × Int := (t.kind, t.text, t.kids.length, (t.size : Int))
mutual
theorem nodes_flat : ∀ (t : Tree) (p : Int) (n : Nat), (nodesT t).map sigT = (flatAt t p n).map sigN
  | .node k s l ks, p, n => by
    rw [nodesT, flatAt, List.map_cons, List.map_cons, nodes_flats ks n (n + 1)]
    simp [sigT, sigN, Tree.kind, Tree.text, Tree.kids, Tree.size, kidNums_length]
theorem nodes_flats : ∀ (ts : List Tree) (p n : Nat), (nodesTs ts).map sigT = (flatKids ts p n).map sigN
  | [], p, n => by rw [nodesTs, flatKids]; rfl
  | t :: ts, p, n => by rw [nodesTs, flatKids, List.map_append, List.map_append, nodes_flat t p n, nodes_flats ts p (n + t.size)]
end
theorem nodesT_length (t : Tree) : (nodesT t).length = t.size := by
  have := congrArg List.length (nodes_flat t (-1) 0)
  simpa [flatAt_length] using this
theorem nodesTs_take (ts : List Tree) (j : Nat) (h : j < ts.length) : nodesTs (ts.take (j + 1)) = nodesTs (ts.take j) ++ nodesT ts[j] := by
  induction ts generalizing j with
  | nil => simp at h
  | cons t ts ih =>
    cases j with
    | zero => simp [nodesTs]
    | succ j => simp only [List.take_succ_cons, nodesTs, List.getElem_cons_succ]; rw [ih j (by simpa using h), List.append_assoc]
theorem tree_one {h : Hp} : ∀ {ts : List Tree} {cs : List Value}, EncL (EncTree h) ts cs → ∀ u ∈ cs, u.oneCell' = true
  | [], cs, e, u, hu => by simp only [EncL] at e; subst e; simp at hu
  | t :: ts, cs, ⟨a, r, e, h1, h2⟩, u, hu => by
    subst e
    rcases List.mem_append.1 hu with hu | hu
    · obtain ⟨al, cl, ak, ck, xs, rfl, _⟩ := EncTree.iff.1 h1
      exact one_cells _ rfl u hu
    · exact tree_one h2 u hu

set_option maxRecDepth 100000 in
set_option maxHeartbeats 2000000 in
theorem rnodes_any (m : Nat) : ∀ (t : Tree) (_ : t.size ≤ m) (h : Hp) (w : World) (_ : Imm h w) (v : Value) (_ : TreeV h v t) (_ : t.size ≤ 1000000),
    Calls Try.prog 56 #[v] w fun e w' => ∃ v', e = .returned v' ∧ ∃ h', St w.heap.size h w h' w' ∧ Trs h' v' (nodesT t) := by
  induction m with
  | zero => intro t hn; have := t.size_eq; omega
  | succ m ih =>
    intro t htm h w hi v ht hbd
    have HT := Lib.hid ht
    have HI := Lib.hid hi
    have IH := Lib.hid ih
    obtain ⟨al, cl, ak, ck, ys, rfl, hk, hll, hkl, hs1, hs2, he⟩ := ht.open
    have SL := Lib.hid hs2
    have EN := Lib.hid he
    have hsz := t.size_eq
    have hkn := length_le_sizes t.kids
    have ENT : Hid (EncTree h t [.int .i64 t.kind, .string t.text, .slice al t.leads.length cl, .slice ak t.kids.length ck]) := by
      obtain ⟨cs, e, i⟩ := HT.out
      have : cs = [.int .i64 t.kind, .string t.text, .slice al t.leads.length cl, .slice ak t.kids.length ck] := by
        simp only [Value.agg.injEq] at e
        have := congrArg Array.toList e
        simpa using this.symm
      rw [this] at i
      exact i
    clear ht hi ih hs1 hs2 he
    go_enter Try.func56, Try.ntmps56
    go_wp2_with fail
    have I0 : Hid (Imm h (w.alloc (Obj.cells #[.int .i64 t.kind, .string t.text, .slice al t.leads.length cl, .slice ak t.kids.length ck] 25))) := HI.out.alloc _
    have hz : (w.alloc (Obj.cells #[.int .i64 t.kind, .string t.text, .slice al t.leads.length cl, .slice ak t.kids.length ck] 25)).heap.size = w.heap.size + 1 := by simp
    have HZ := Lib.hid hz
    clear hz
    generalize hW0 : w.alloc (Obj.cells #[.int .i64 t.kind, .string t.text, .slice al t.leads.length cl, .slice ak t.kids.length ck] 25) = w0 at *
    have HW0 := Lib.hid hW0
    clear hW0
    have hz0 : w.heap.size < w0.heap.size := by rw [HZ.out]; omega
    go_loopw [3, 4, 7, 8, 9, 10, 11, 12, 13, 14, 15, 16, 17, 18, 19, 20, 21] (fun v i _ _ _ _ _ _ _ _ _ _ _ _ _ _ _ wr => ∃ (j : Nat) (hj : Hp) (vs : List Value), j ≤ t.kids.length ∧ i = .int .i64 j ∧ St w0.heap.size h w0 hj wr ∧ Ow wr hj w0.heap.size 25 4 v (1 + sizes (t.kids.take j)) vs ∧ EncL (EncTree hj) (t :: nodesTs (t.kids.take j)) vs) (fun _ i _ _ _ _ _ _ _ _ _ _ _ _ _ _ _ _ => t.kids.length - (intOf i).toNat)
    case atStart =>
      refine ⟨0, h, [.int .i64 t.kind, .string t.text, .slice al t.leads.length cl, .slice ak t.kids.length ck], Nat.zero_le _, rfl, (St.refl I0.out).alloc _, ?_, ?_⟩
      · rw [← HZ.out]; exact own_lit (w := w0) I0.out (Nat.le_refl _) _ 1 4 25 (by simp [maxLen]) rfl
      · exact ⟨_, [], by simp, ENT.out, rfl⟩
    case round =>
      obtain ⟨j, hj, vs, hjl, rfl, S, O, E⟩ := hrel
      obtain ⟨am, cm, rfl⟩ := O.shape
      have S' := Lib.hid S
      have O' := Lib.hid O
      have E' := Lib.hid E
      have hb3 : wr.cell? ⟨w.heap.size, 3, none⟩ = some (.slice ak t.kids.length ck) := (box_at HW0.out S.below 3).1
      have hzr : w.heap.size < wr.heap.size := by have := S.below.size; omega
      by_cases hlt : j < t.kids.length
      · obtain ⟨b, off, al', cl', ak', ck', rfl, hb, e0, e1, e2, e3, TV⟩ := trees_at (SL.out.mono S.le) (EN.out.mono fun _ _ q => q.mono S.le) S.imm j hlt
        have TV' := Lib.hid TV
        have hst := sizes_take t.kids j hlt
        have hstl := sizes_take_le t.kids (j + 1)
        have hsm : t.kids[j].size ≤ m := by omega
        have HNT := Lib.hid (nodesTs_take t.kids j hlt)
        have HNL := Lib.hid (nodesT_length t.kids[j])
        generalize t.kids[j] = kt at *
        clear S O E TV
        go_wp2_with fail
        refine (IH.out kt hsm hj _ S'.out.imm _ TV'.out (by omega)).mono ?_
        rintro e w2 ⟨v2, rfl, h2, S2, cs2, SL2, EN2⟩
        have SN := Lib.hid (S'.out.call S2)
        have ON := Lib.hid (O'.out.call S2)
        have EE : Hid (EncL (EncTree h2) (t :: nodesTs (t.kids.take j)) vs) := E'.out.mono fun _ _ q => q.mono S2.le
        have SL2' : Hid (Sl h2 v2 kt.size 4 cs2) := by unfold Hid; rw [← HNL.out]; exact SL2
        have EN2' := Lib.hid EN2
        have O2' := Lib.hid (tree_one EN2)
        clear S2 SL2 EN2
        go_wp2_with (at_builtin; refine wpList_appS el_trees rfl _ _ rfl SN.out _ (1 + sizes (t.kids.take j)) vs rfl ON.out v2 kt.size cs2 rfl SL2'.out O2'.out (by omega) ?_; intro v3 w3 st3 own3 gr3 bk3)
        go_roundw
        case rel =>
          refine ⟨j + 1, h2, vs ++ cs2, by omega, by go_num, st3, ?_, ?_⟩
          · rw [show 1 + sizes (t.kids.take (j + 1)) = 1 + sizes (t.kids.take j) + kt.size by omega]; exact own3
          · rw [HNT.out, ← List.cons_append]; exact EE.out.append EN2'.out
        case measure => simp [intOf]; omega
      · obtain rfl : j = t.kids.length := by omega
        go_wp2_with fail
        go_ret
        rw [List.take_length] at O E ⊢
        have Sb : St w.heap.size h w hj wr := by
          have h1 := (St.refl HI.out).alloc (Obj.cells #[.int .i64 t.kind, .string t.text, .slice al t.leads.length cl, .slice ak t.kids.length ck] 25)
          rw [HW0.out] at h1
          exact h1.call S
        refine ⟨_, rfl, _, Sb.fr, vs, ?_, ?_⟩
        · have hl : (nodesT t).length = 1 + sizes t.kids := by rw [nodesT_length]; omega
          rw [hl]
          exact (O.base (B' := w.heap.size) (by omega)).sl (by omega)
        · rw [nodesT_eq]
          exact E.mono fun _ _ q => q.mono (Hp.le_fr S.imm)
end Go.Proofs.Ytfifbadepebpeaa

/- Several rows that a call owns, no two in one block. -/
namespace Go.Proofs.Ytfifbadepebpeaa
open Go.RowKit

def Apart (a b : Value) : Prop := ∀ g, a.ownBlock = some g → b.ownBlock ≠ some g
def boxH (g : Nat) : Value := .slice (some ⟨g, 0, none⟩) 0 0

theorem apart_set {H : List Value} {N k : Nat} {v : Value} (hp : H.Pairwise Apart) (hl : ∀ u ∈ H, ∀ g, u.ownBlock = some g → g < N) (hk : k < H.length) (hv : v.ownBlock = H[k].ownBlock ∨ ∃ g, v.ownBlock = some g ∧ N ≤ g) : (H.set k v).Pairwise Apart := by
  rw [List.pairwise_iff_getElem] at hp ⊢
  intro i j hi hj hij
  simp only [List.length_set] at hi hj
  rw [List.getElem_set, List.getElem_set]
  by_cases h1 : k = i
  · subst h1
    rw [if_pos rfl, if_neg (by omega)]
    rcases hv with e | ⟨g, e, hg⟩
    · intro q hq; rw [e] at hq; exact hp k j hi hj hij q hq
    · intro q hq e2
      rw [e] at hq
      have := hl H[j] (List.getElem_mem hj) q e2
      have := Option.some.inj hq
      omega
  · by_cases h2 : k = j
    · subst h2
      rw [if_neg h1, if_pos rfl]
      rcases hv with e | ⟨g, e, hg⟩
      · intro q hq; rw [e]; exact hp i k hi hj hij q hq
      · intro q hq e2
        rw [e] at e2
        have := hl H[i] (List.getElem_mem hi) q hq
        have := Option.some.inj e2
        omega
    · rw [if_neg h1, if_neg h2]; exact hp i j hi hj hij
theorem apart_ne {H : List Value} (hp : H.Pairwise Apart) {i j : Nat} (hi : i < H.length) (hj : j < H.length) (hij : i ≠ j) : Apart H[i] H[j] := by
  rcases Nat.lt_or_gt_of_ne hij with h | h
  · exact List.pairwise_iff_getElem.1 hp i j hi hj h
  · intro g h1 h2
    exact List.pairwise_iff_getElem.1 hp j i hj hi h g h2 h1

def kidsTo (x : List NodeP) (i : Nat) : List (List Int) := x.map fun e => e.kids.filter fun c => decide (c < (i : Int))
theorem kidsTo_zero {x : List NodeP} (hx : WF x) : kidsTo x 0 = x.map fun _ => [] := by
  unfold kidsTo
  apply List.map_congr_left
  intro e he
  obtain ⟨k, hk, rfl⟩ := List.mem_iff_getElem.1 he
  rw [List.filter_eq_nil_iff]
  intro c hc
  obtain ⟨m, _, _, e2, _⟩ := hx.kid k _ c (List.getElem?_eq_getElem hk) hc
  simp only [decide_eq_true_eq]
  omega
theorem kidsTo_one {x : List NodeP} (hx : WF x) : kidsTo x 1 = kidsTo x 0 := by
  unfold kidsTo
  apply List.map_congr_left
  intro e he
  obtain ⟨k, hk, rfl⟩ := List.mem_iff_getElem.1 he
  apply List.filter_congr
  intro c hc
  obtain ⟨m, _, _, e2, h3, _⟩ := hx.kid k _ c (List.getElem?_eq_getElem hk) hc
  rw [decide_eq_decide]
  omega
theorem kidsTo_full {x : List NodeP} (hx : WF x) : kidsTo x x.length = x.map (·.kids) := by
  unfold kidsTo
  apply List.map_congr_left
  intro e he
  obtain ⟨k, hk, rfl⟩ := List.mem_iff_getElem.1 he
  rw [List.filter_eq_self]
  intro c hc
  obtain ⟨m, md, h1, e2, h3, _⟩ := hx.kid k _ c (List.getElem?_eq_getElem hk) hc
  have := lt_of_some h1
  simp only [decide_eq_true_eq]
  omega
theorem filter_asc_succ {l : List Int} (h : l.Pairwise (· < ·)) {i : Int} (hi : i ∈ l) : l.filter (fun c => decide (c < i + 1)) = l.filter (fun c => decide (c < i)) ++ [i] := by
  induction l with
  | nil => simp at hi
  | cons a l ih =>
    rw [List.pairwise_cons] at h
    rcases List.mem_cons.1 hi with rfl | hi
    · have e1 : l.filter (fun c => decide (c < i + 1)) = [] := by rw [List.filter_eq_nil_iff]; intro c hc; have := h.1 c hc; simp only [decide_eq_true_eq]; omega
      have e2 : l.filter (fun c => decide (c < i)) = [] := by rw [List.filter_eq_nil_iff]; intro c hc; have := h.1 c hc; simp only [decide_eq_true_eq]; omega
      rw [List.filter_cons_of_pos (by simp; omega), List.filter_cons_of_neg (by simp), e1, e2]; rfl
    · have := h.1 i hi
      rw [List.filter_cons_of_pos (by simp; omega), List.filter_cons_of_pos (by simp; omega), ih h.2 hi]; rfl
theorem kidsTo_succ {x : List NodeP} (hx : WF x) {i : Nat} (h0 : 0 < i) (hi : i < x.length) : ∃ p, p < i ∧ x[i].parent = (p : Int) ∧ kidsTo x (i + 1) = (kidsTo x i).set p ((kidsTo x i).getD p [] ++ [(i : Int)]) := by
  obtain ⟨p, pd, g1, g2, g3, g4⟩ := hx.par i _ (List.getElem?_eq_getElem hi) h0
  refine ⟨p, g2, g3, ?_⟩
  have hpl := lt_of_some g1
  have hpx : x[p] = pd := by rw [List.getElem?_eq_getElem hpl] at g1; exact Option.some.inj g1
  apply List.ext_getElem
  · simp [kidsTo]
  · intro k h1 h2
    simp only [kidsTo, List.length_map] at h1
    rw [List.getElem_set]
    by_cases hk : p = k
    · subst hk
      rw [if_pos rfl]
      have e1 : (kidsTo x i).getD p [] = x[p].kids.filter fun c => decide (c < (i : Int)) := by unfold kidsTo; rw [List.getD_eq_getElem?_getD, List.getElem?_map, List.getElem?_eq_getElem hpl]; rfl
      rw [e1]
      simp only [kidsTo, List.getElem_map]
      have hm : (i : Int) ∈ x[p].kids := by rw [hpx]; exact g4
      have := filter_asc_succ (hx.asc p _ (List.getElem?_eq_getElem hpl)) hm
      simpa using this
    · rw [if_neg hk]
      simp only [kidsTo, List.getElem_map]
      apply List.filter_congr
      intro c hc
      rw [decide_eq_decide]
      have : c ≠ (i : Int) := fun e => by
        subst e
        obtain ⟨m, md, h3, e2, _, h5⟩ := hx.kid k _ _ (List.getElem?_eq_getElem h1) hc
        have : m = i := by omega
        subst this
        have hmd : x[m] = md := by rw [List.getElem?_eq_getElem hi] at h3; exact Option.some.inj h3
        rw [hmd, h5] at g3
        omega
      omega

structure Fam (w : World) (h : Hp) (B : Nat) (vals : List Value) (rows : List (List Int)) : Prop where
  len : vals.length = rows.length
  own : ∀ k (hv : k < vals.length) (hk : k < rows.length), InOw w h B vals[k] rows[k]

theorem Fam.keep {w w' : World} {h : Hp} {B : Nat} {vals : List Value} {rows : List (List Int)} (F : Fam w h B vals rows) (hk : ∀ u ∈ vals, ∀ g, u.ownBlock = some g → w'.heap[g]? = w.heap[g]?) : Fam w' h B vals rows :=
  ⟨F.len, fun k hv hr => (F.own k hv hr).keep (fun g hg => hk _ (List.getElem_mem hv) g hg) (fun _ _ => rfl)⟩
theorem Fam.set {w w' : World} {h : Hp} {B : Nat} {vals : List Value} {rows : List (List Int)} (F : Fam w h B vals rows) {k : Nat} (_hk : k < vals.length) {v : Value} {r : List Int} (hv : InOw w' h B v r)
    (hkeep : ∀ j (hj : j < vals.length), j ≠ k → ∀ g, vals[j].ownBlock = some g → w'.heap[g]? = w.heap[g]?) : Fam w' h B (vals.set k v) (rows.set k r) := by
  refine ⟨by simp [F.len], fun j h1 h2 => ?_⟩
  simp only [List.length_set] at h1 h2
  rw [List.getElem_set, List.getElem_set]
  by_cases e : k = j
  · subst e; rw [if_pos rfl, if_pos rfl]; exact hv
  · rw [if_neg e, if_neg e]
    exact (F.own j h1 h2).keep (fun g hg => hkeep j h1 (fun e2 => e e2.symm) g hg) (fun _ _ => rfl)

theorem Fam.enc {w : World} {h : Hp} {B : Nat} : ∀ {vals : List Value} {rows : List (List Int)}, Fam w h B vals rows → (∀ r ∈ rows, r.length ≤ 140737488355328 ∧ ∀ x ∈ r, I64 x) → EncL (RowC (h.fr B w)) rows vals
  | [], [], _, _ => rfl
  | [], r :: rows, F, _ => by have := F.len; simp at this
  | v :: vals, [], F, _ => by have := F.len; simp at this
  | v :: vals, r :: rows, F, hr => by
    have o := F.own 0 (by simp) (by simp)
    simp only [List.getElem_cons_zero] at o
    obtain ⟨a, c, rfl⟩ := Ow.shape o
    refine ⟨[_], vals, rfl, ⟨a, c, rfl, Ow.sl o (hr r (by simp)).1, (hr r (by simp)).2⟩, Fam.enc ⟨by have := F.len; simpa using this, fun k h1 h2 => ?_⟩ (fun q hq => hr q (by simp [hq]))⟩
    have := F.own (k + 1) (by simpa using h1) (by simpa using h2)
    simpa using this
end Go.Proofs.Ytfifbadepebpeaa
