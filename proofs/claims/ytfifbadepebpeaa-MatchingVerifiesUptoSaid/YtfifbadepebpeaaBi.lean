/- num, call, awake, light. -/
import Derived.Test.YtfifbadepebpeaaWv
import Derived.Test.YtfifbadepebpeaaBh
namespace Go.Proofs.Ytfifbadepebpeaa
open Go.RowKit

def numT (s : ByteArray) : Tree := .node 10 s [] []
def argT (t : Tree) : Tree := .node 17 ⟨#[]⟩ [] [t]
def callT (ts : List Tree) : Tree := .node 16 ⟨#[102]⟩ [] (ts.map argT)

theorem num_any (h : Hp) (w : World) (_hi : Imm h w) (s : ByteArray) :
    Calls Try.prog 23 #[.string s] w fun e w' => e = .returned (.agg #[.int .i64 10, .string s, .slice none 0 0, .slice none 0 0]) ∧ Below w.heap.size w w' := by
  go_enter Try.func23, Try.ntmps23
  go_wp2_with fail
  refine bodyPost_ret (v := .agg #[.int .i64 10, .string s, .slice none 0 0, .slice none 0 0]) (by simp [results, Try.results23, go_sem, World.cell?_alloc_new]) rfl ⟨rfl, ?_⟩
  first
    | exact (Below.refl _ _).alloc (Nat.le_refl _) _
    | exact (((((Below.refl _ _).alloc (Nat.le_refl _) _).setCell (Nat.le_refl _) _).setCell (Nat.le_refl _) _).setCell (Nat.le_refl _) _).setCell (Nat.le_refl _) _

theorem encNum (h : Hp) (s : ByteArray) : EncTree h (numT s) [.int .i64 10, .string s, .slice none 0 0, .slice none 0 0] := by
  unfold numT
  rw [EncTree]
  exact ⟨none, 0, none, 0, [], rfl, by unfold I64; omega, Sl.nil _ _ _ _, Sl.nil _ _ _ _, by rw [EncTrees]⟩

structure ClI (h : Hp) (w : World) (ts : List Tree) (j : Nat) (hj : Hp) (v : Value) (vs : List Value) (wr : World) : Prop where
  st : St w.heap.size h w hj wr
  own : Ow wr hj w.heap.size 25 4 v j vs
  enc : EncL (EncTree hj) ((ts.take j).map argT) vs
  c0 : wr.cell? ⟨w.heap.size + 1, 0, none⟩ = some (.int .i64 16)
  c1 : wr.cell? ⟨w.heap.size + 1, 1, none⟩ = some (.string ⟨#[102]⟩)
  c2 : wr.cell? ⟨w.heap.size + 1, 2, none⟩ = some (.slice none 0 0)
  c3 : wr.cell? ⟨w.heap.size + 1, 3, none⟩ = some v
  fz : ∀ i, wr.frozen? ⟨w.heap.size + 1, i, none⟩ = false
  sz : w.heap.size + 1 < wr.heap.size
  no : hj (w.heap.size + 1) = none
  ne : v.ownBlock ≠ some (w.heap.size + 1)
  bx : ∀ i, wr.cell? ⟨w.heap.size, i, none⟩ = (#[.int .i64 0, .string ⟨#[]⟩, .slice none 0 0, .slice none 0 0] : Array Value)[i]? ∧ wr.frozen? ⟨w.heap.size, i, none⟩ = false
  no2 : hj w.heap.size = none
  ne2 : v.ownBlock ≠ some w.heap.size

theorem two_cell {w : World} {X Y : Obj} {n b i : Nat} (hb : b < w.heap.size) : (((w.alloc X).alloc Y).drewN n).cell? ⟨b, i, none⟩ = w.cell? ⟨b, i, none⟩ ∧ (((w.alloc X).alloc Y).drewN n).frozen? ⟨b, i, none⟩ = w.frozen? ⟨b, i, none⟩ := by
  have h1 : (((w.alloc X).alloc Y).drewN n).heap[b]? = w.heap[b]? := by
    show ((w.alloc X).alloc Y).heap[b]? = _
    rw [Below.heap_alloc _ _ _ (by simp; omega), Below.heap_alloc _ _ _ hb]
  exact ⟨World.cell?_of_block (a := ⟨b, i, none⟩) h1, World.frozen?_of_block (a := ⟨b, i, none⟩) h1⟩

theorem ClI.next {h : Hp} {w : World} {ts : List Tree} {j : Nat} {hj : Hp} {v : Value} {vs : List Value} {wr : World} (L : ClI h w ts j hj v vs wr) (hlt : j < ts.length) {k : Value} {s : Value} {l q : Value} (TV : TreeV hj (.agg #[k, s, l, q]) ts[j]) {n : Nat} {Y : Obj} {w3 : World} {v' : Value}
    (st2 : St w.heap.size h w hj w3) (own2 : Ow w3 hj w.heap.size 25 4 v' (j + 1) (vs ++ [.int .i64 17, .string ⟨#[]⟩, .slice none 0 0, .slice (some ⟨wr.heap.size, 0, none⟩) 1 1]))
    (gr2 : (((wr.alloc (Obj.cells #[k, s, l, q] 25)).alloc Y).drewN n).grownBy w3 v.ownBlock) (bk2 : v'.ownBlock = v.ownBlock ∨ v'.ownBlock = some (((wr.alloc (Obj.cells #[k, s, l, q] 25)).alloc Y).drewN n).heap.size) :
    ClI h w ts (j + 1) (hj.add wr.heap.size #[k, s, l, q]) v' (vs ++ [.int .i64 17, .string ⟨#[]⟩, .slice none 0 0, .slice (some ⟨wr.heap.size, 0, none⟩) 1 1]) (w3.setCell ⟨w.heap.size + 1, 3, none⟩ v') := by
  have sz := L.sz
  have hz : (((wr.alloc (Obj.cells #[k, s, l, q] 25)).alloc Y).drewN n).heap.size = wr.heap.size + 2 := by show ((wr.alloc (Obj.cells #[k, s, l, q] 25)).alloc Y).heap.size = _; simp
  have hz3 := gr2.size
  rw [hz] at hz3
  have hvl : ∀ g, v.ownBlock = some g → g < wr.heap.size := fun g hg => (L.own.lt g hg).2
  have hnew : hj wr.heap.size = none := new_own L.st.imm _ (Nat.le_refl _)
  have hbl : blk w3 wr.heap.size = some #[k, s, l, q] := by
    have : w3.heap[wr.heap.size]? = (((wr.alloc (Obj.cells #[k, s, l, q] 25)).alloc Y).drewN n).heap[wr.heap.size]? := gr2.block _ (by rw [hz]; omega) (fun e => by have := hvl _ e.symm; omega)
    rw [blk_of this]
    have h2 : (((wr.alloc (Obj.cells #[k, s, l, q] 25)).alloc Y).drewN n).heap[wr.heap.size]? = some (.cells #[k, s, l, q] 25) := by
      show ((wr.alloc (Obj.cells #[k, s, l, q] 25)).alloc Y).heap[wr.heap.size]? = _
      rw [Below.heap_alloc _ _ _ (by simp)]
      exact heap_alloc_new _ _
    unfold blk
    rw [h2]
  have hle : hj.le (hj.add wr.heap.size #[k, s, l, q]) := Hp.le_add _ hnew
  have hadd : ∀ b, b ≠ wr.heap.size → (hj.add wr.heap.size #[k, s, l, q]) b = hj b := fun b hb => by unfold Hp.add; rw [if_neg hb]
  have cel : ∀ b i, b < wr.heap.size → v.ownBlock ≠ some b → w3.cell? ⟨b, i, none⟩ = wr.cell? ⟨b, i, none⟩ ∧ w3.frozen? ⟨b, i, none⟩ = wr.frozen? ⟨b, i, none⟩ := fun b i hb hne => by
    have h1 := gr2.cellOf (b := b) (i := i) (by rw [hz]; omega) hne
    have h2 := two_cell (w := wr) (X := Obj.cells #[k, s, l, q] 25) (Y := Y) (n := n) (i := i) hb
    exact ⟨h1.1.trans h2.1, h1.2.trans h2.2⟩
  have hv'lt : ∀ g, v'.ownBlock = some g → g ≠ wr.heap.size ∧ (g < wr.heap.size → v.ownBlock = some g) := fun g hg => by
    rcases bk2 with e | e
    · rw [e] at hg; have := hvl g hg; exact ⟨by omega, fun _ => hg⟩
    · rw [e, hz] at hg; simp only [Option.some.injEq] at hg; exact ⟨by omega, fun _ => by omega⟩
  have Sadd : St w.heap.size h w (hj.add wr.heap.size #[k, s, l, q]) w3 := ⟨st2.below, st2.imm.add hbl, Hp.le_trans st2.le hle, fun b hb => by rw [hadd b (by omega)]; exact st2.old b hb, st2.base⟩
  have S3 : St w.heap.size h w (hj.add wr.heap.size #[k, s, l, q]) (w3.setCell ⟨w.heap.size + 1, 3, none⟩ v') := Sadd.setCell (p := ⟨w.heap.size + 1, 3, none⟩) (by show w.heap.size ≤ w.heap.size + 1; omega) (by show Hp.add _ _ _ (w.heap.size + 1) = none; rw [hadd _ (by omega)]; exact L.no) v'
  have nev : v'.ownBlock ≠ some (w.heap.size + 1) := fun e => L.ne ((hv'lt _ e).2 sz)
  have nev2 : v'.ownBlock ≠ some w.heap.size := fun e => L.ne2 ((hv'lt _ e).2 (by omega))
  have own3 : Ow w3 (hj.add wr.heap.size #[k, s, l, q]) w.heap.size 25 4 v' (j + 1) (vs ++ [.int .i64 17, .string ⟨#[]⟩, .slice none 0 0, .slice (some ⟨wr.heap.size, 0, none⟩) 1 1]) := own2.keep (fun _ _ => rfl) (fun g hg => hadd g (hv'lt g hg).1)
  have ot : ∀ i, i ≠ 3 → (w3.setCell ⟨w.heap.size + 1, 3, none⟩ v').cell? ⟨w.heap.size + 1, i, none⟩ = wr.cell? ⟨w.heap.size + 1, i, none⟩ := fun i hi => by
    rw [World.cell?_setCell_other _ _ _ _ (by simp; first | done | omega)]
    exact (cel _ i sz L.ne).1
  refine ⟨S3, own3.setCell nev v', ?_, by rw [ot 0 (by omega)]; exact L.c0, by rw [ot 1 (by omega)]; exact L.c1, by rw [ot 2 (by omega)]; exact L.c2, World.cell?_setCell_same _ _ _ ((cel _ 3 sz L.ne).1.trans L.c3), fun i => ?_, by simp [World.setCell]; first | done | omega, by rw [hadd _ (by omega)]; exact L.no, nev, fun i => ?_, by rw [hadd _ (by omega)]; exact L.no2, nev2⟩
  · rw [List.take_add_one, List.getElem?_eq_getElem hlt, List.map_append]
    refine EncL.append (L.enc.mono fun _ _ r => r.mono hle) (EncL.one ?_)
    unfold argT
    rw [EncTree]
    obtain ⟨cs, hcs, hen⟩ := TV
    refine ⟨none, 0, some ⟨wr.heap.size, 0, none⟩, 1, [k, s, l, q], rfl, by unfold I64; omega, Sl.nil _ _ _ _, ⟨_, _, rfl, by simp, rfl, .inr ⟨wr.heap.size, 0, #[k, s, l, q], rfl, by unfold Hp.add; rw [if_pos rfl], fun i hi => ?_⟩⟩, ?_⟩
    · simp
    · have : cs = [k, s, l, q] := by
        simp only [Value.agg.injEq] at hcs
        have := congrArg Array.toList hcs
        simpa using this.symm
      subst this
      rw [EncTrees]
      exact ⟨_, [], by simp, hen.mono hle, by rw [EncTrees]⟩
  · have := (cel _ i sz L.ne).2.trans (L.fz i)
    simp [this]
  · have h1 := cel _ i (by omega) L.ne2
    have h2 := L.bx i
    refine ⟨?_, ?_⟩
    · rw [World.cell?_setCell_other _ _ _ _ (by simp)]; exact h1.1.trans h2.1
    · have := h1.2.trans h2.2
      simp [this]

set_option maxRecDepth 100000 in
set_option maxHeartbeats 4000000 in
theorem call_any (h : Hp) (w : World) (hi : Imm h w) (vl : Value) (ts : List Tree) (hl : Trs h vl ts) (h0 : 0 < ts.length) (hs : ts.length ≤ 1000) :
    Calls Try.prog 26 #[vl] w fun e w' => ∃ v, e = .returned v ∧ ∃ h', St w.heap.size h w h' w' ∧ TreeV h' v (callT ts) := by
  obtain ⟨cs, sl, en⟩ := hl
  obtain ⟨a, cap, rfl, hn⟩ := sl.shape
  have HI := Lib.hid hi
  have SL := Lib.hid sl
  have EN := Lib.hid en
  obtain ⟨b, off, -, -, -, -, rfl, -⟩ := trees_at sl en hi 0 h0
  clear hi sl en
  go_enter Try.func26, Try.ntmps26
  go_wp2_with fail
  go_loopw [4, 6, 7, 8, 9, 10, 11, 12, 13, 14, 15, 16, 17, 18, 19, 20, 21, 22] (fun i _ _ _ _ _ _ _ _ _ _ _ _ _ _ _ _ _ wr => ∃ (j : Nat) (hj : Hp) (v : Value) (vs : List Value), j ≤ ts.length ∧ i = .int .i64 j ∧ ClI h w ts j hj v vs wr) (fun i _ _ _ _ _ _ _ _ _ _ _ _ _ _ _ _ _ _ => ts.length - (intOf i).toNat)
  case atStart =>
    refine ⟨0, h, .slice none 0 0, [], Nat.zero_le _, rfl, ⟨((St.refl HI.out).alloc _).alloc _, Ow.nil _ _ _ _ _, rfl, ?_, ?_, ?_, ?_, fun i => World.frozen?_alloc_at _ _ _ _ (by simp), by simp, new_own HI.out _ (by omega), by simp [Value.ownBlock], fun i => ⟨?_, ?_⟩, new_own HI.out _ (Nat.le_refl _), by simp [Value.ownBlock]⟩⟩
    · rw [World.cell?_alloc_at _ _ _ _ (by simp)]; rfl
    · rw [World.cell?_alloc_at _ _ _ _ (by simp)]; rfl
    · rw [World.cell?_alloc_at _ _ _ _ (by simp)]; rfl
    · rw [World.cell?_alloc_at _ _ _ _ (by simp)]; rfl
    · rw [World.cell?_alloc_past _ _ _ (by simp), World.cell?_alloc_at _ _ _ _ rfl]
    · rw [World.frozen?_alloc_past _ _ _ (by simp), World.frozen?_alloc_at _ _ _ _ rfl]
  case round =>
    obtain ⟨j, hj, v, vs, hjl, rfl, L⟩ := hrel
    by_cases hlt : j < ts.length
    · obtain ⟨am, cm, rfl⟩ := L.own.shape
      obtain ⟨b', off', al, cl, ak, ck, he, hb, e0, e1, e2, e3, TV⟩ := trees_at (SL.out.mono L.st.le) (EN.out.mono fun _ _ q => q.mono L.st.le) L.st.imm j hlt
      simp only [Option.some.injEq, Addr.mk.injEq, and_true] at he
      obtain ⟨rfl, rfl⟩ := he
      have c3 := L.c3
      have f3 := L.fz 3
      have sz := L.sz
      have L' := Lib.hid L
      have TV' := Lib.hid TV
      have y1 : w.heap.size < wr.heap.size := by omega
      have y2 : w.heap.size < wr.heap.size + 1 := by omega
      have y3 : b < wr.heap.size + 1 := by omega
      have y4 : b < wr.heap.size + 1 + 1 := by omega
      have y5 : w.heap.size + 1 < wr.heap.size + 1 := by omega
      have y6 : w.heap.size + 1 < wr.heap.size + 1 + 1 := by omega
      have u0 : (0 : Int) ≤ (j : Int) := by omega
      have u1 : (j : Int) < (ts.length : Int) := by omega
      clear L TV
      go_wp2_with fail
      go_region_law (first | (refine step_app el_trees (by rfl) _ _ (by rfl) (((L'.out.st.alloc _).alloc _).drewN _) _ j vs (by rfl) (((L'.out.own.alloc _).alloc _).drewN _) ⟨wr.heap.size + 1, 0, none⟩ 1 1 [.int .i64 17, .string ⟨#[]⟩, .slice none 0 0, .slice (some ⟨wr.heap.size, 0, none⟩) 1 1] (by rfl) (by rfl) (new_cells _ _ _ _ (by simp)) (one_cells _ rfl) (by omega) (by omega) ?_; intro gg cg w3 st2 own2 gr2 bk2; have k3 : w3.cell? ⟨w.heap.size + 1, 3, none⟩ = some (.slice am j cm) := ((gr2.cellOf (b := w.heap.size + 1) (i := 3) (by simp; omega) L'.out.ne).1.trans (two_cell sz).1).trans c3; have kf : w3.frozen? ⟨w.heap.size + 1, 3, none⟩ = false := ((gr2.cellOf (b := w.heap.size + 1) (i := 3) (by simp; omega) L'.out.ne).2.trans (two_cell sz).2).trans f3; have LN := Lib.hid (L'.out.next hlt TV'.out st2 own2 gr2 bk2); clear st2 own2 gr2 bk2))
      all_goals
        go_wp2_with fail
        go_roundw
        case rel => exact ⟨j + 1, _, _, _, by omega, by go_num, LN.out⟩
        case measure => simp [intOf]; omega
    · obtain rfl : j = ts.length := by omega
      obtain ⟨am, cm, rfl⟩ := L.own.shape
      have c0 := L.c0
      have c1 := L.c1
      have c2 := L.c2
      have c3 := L.c3
      have k0 : wr.cell? ⟨w.heap.size, 0, none⟩ = some (.int .i64 0) := (L.bx 0).1
      have k1 : wr.cell? ⟨w.heap.size, 1, none⟩ = some (.string ⟨#[]⟩) := (L.bx 1).1
      have k2 : wr.cell? ⟨w.heap.size, 2, none⟩ = some (.slice none 0 0) := (L.bx 2).1
      have k3 : wr.cell? ⟨w.heap.size, 3, none⟩ = some (.slice none 0 0) := (L.bx 3).1
      have z0 := (L.bx 0).2
      have z1 := (L.bx 1).2
      have z2 := (L.bx 2).2
      have z3 := (L.bx 3).2
      have sz := L.sz
      have sz0 : w.heap.size < wr.heap.size := by omega
      have L' := Lib.hid L
      clear L
      go_wp2_with fail
      have hno := L'.out.no2
      refine bodyPost_ret (v := .agg #[.int .i64 16, .string ⟨#[102]⟩, .slice none 0 0, .slice am ts.length cm]) (by simp [results, Try.results26, go_sem, k0, k1, k2, k3]) rfl ?_
      have own6 := ((((L'.out.own.setCell (p := ⟨w.heap.size, 0, none⟩) L'.out.ne2 (.int .i64 16)).setCell (p := ⟨w.heap.size, 1, none⟩) L'.out.ne2 (.string ⟨#[102]⟩)).setCell (p := ⟨w.heap.size, 2, none⟩) L'.out.ne2 (.slice none 0 0)).setCell (p := ⟨w.heap.size, 3, none⟩) L'.out.ne2 (.slice am ts.length cm)).sl (by omega)
      have Sc := (((L'.out.st.setCell (p := ⟨w.heap.size, 0, none⟩) (Nat.le_refl _) hno (.int .i64 16)).setCell (p := ⟨w.heap.size, 1, none⟩) (Nat.le_refl _) hno (.string ⟨#[102]⟩)).setCell (p := ⟨w.heap.size, 2, none⟩) (Nat.le_refl _) hno (.slice none 0 0)).setCell (p := ⟨w.heap.size, 3, none⟩) (Nat.le_refl _) hno (.slice am ts.length cm)
      refine ⟨_, rfl, _, Sc.fr, [.int .i64 16, .string ⟨#[102]⟩, .slice none 0 0, .slice am ts.length cm], rfl, ?_⟩
      unfold callT
      rw [EncTree]
      refine ⟨none, 0, am, cm, vs, by simp, by unfold I64; omega, Sl.nil _ _ _ _, by simpa using own6, EncTrees.iff.2 ?_⟩
      have := L'.out.enc.mono fun _ _ r => r.mono (Hp.le_fr (B := w.heap.size) Sc.imm)
      rwa [List.take_length] at this
end Go.Proofs.Ytfifbadepebpeaa

/- The example of the chapter, reckoned. -/
namespace Go.Proofs.Ytfifbadepebpeaa
open Go.RowKit

def exA : Tree := callT [numT ⟨#[49]⟩, numT ⟨#[50]⟩]
def exB : Tree := callT [numT ⟨#[50]⟩]
def ex1 : MatchP := matchM (flatP exA) (flatP exB) 100
def ex0 : MatchP := matchM (flatP exA) (flatP exB) 0
def exL : List (Int × Int) := [(0, 0), (1, 1), (2, 2), (3, 1), (4, 2)]

theorem ex_small : exA.size ≤ 262144 ∧ exB.size ≤ 262144 := by decide +kernel
theorem ex_cmp : cmpB (flatP exA) (flatP exB) 100 = some [(0, 0), (1, 1), (3, 1), (2, 2), (4, 2)] := by decide +kernel
theorem ex_cmp5 : cmpB (flatP exA) (flatP exB) 5 = some [(0, 0), (1, 1), (3, 1), (2, 2), (4, 2)] := by decide +kernel
theorem ex_sort : sortP [(0, 0), (1, 1), (3, 1), (2, 2), (4, 2)] = exL := sortP_eq (by decide) (by decide)
theorem ex_least : leastP (flatP exA) (flatP exB) exL = [(0, 0), (3, 1), (4, 2)] := by decide +kernel
theorem ex_sort2 : sortP [(0, 0), (3, 1), (4, 2)] = [(0, 0), (3, 1), (4, 2)] := sortP_eq (by decide) (by decide)
theorem ex_kind : (nd (flatP exA) 0).kind = (nd (flatP exB) 0).kind := by decide +kernel
theorem ex_narrow : narrowB (flatP exA) = true ∧ narrowB (flatP exB) = true := by decide +kernel
theorem ex_cost : ((buildP (flatP exA) (flatP exB) exL).getD 0 default).cost = 2 := by decide +kernel
theorem ex1_eq : ex1 = { pairs := [(0, 0), (3, 1), (4, 2)], cost := 2, proven := true, bound := 2, proof := buildP (flatP exA) (flatP exB) exL } := by
  unfold ex1 matchM
  rw [if_pos ex_kind, if_pos ex_narrow, ex_cmp]
  simp only
  rw [ex_sort]
  unfold leastM
  rw [ex_least, ex_sort2, ex_cost]
theorem ex_pos : posP (flatP exA) (flatP exB) = [(0, 0), (1, 1), (2, 2)] := by decide +kernel
theorem ex_sort3 : sortP [(0, 0), (1, 1), (2, 2)] = [(0, 0), (1, 1), (2, 2)] := sortP_eq (by decide) (by decide)
theorem ex_price : priceP (flatP exA) (flatP exB) [(0, 0), (1, 1), (2, 2)] = some 3 := by decide +kernel
theorem ex_price1 : priceP (flatP exA) (flatP exB) [(0, 0), (3, 1), (4, 2)] = some 2 := by decide +kernel
theorem ex0_facts : ex0.proven = false ∧ ex0.cost = 3 := by
  have : cmpB (flatP exA) (flatP exB) 0 = none := by decide +kernel
  unfold ex0 matchM
  rw [if_pos ex_kind, if_pos ex_narrow, this]
  simp only
  unfold posM
  rw [ex_pos, ex_sort3, ex_price]
  exact ⟨rfl, rfl⟩
theorem ex_ent : ∀ e ∈ buildP (flatP exA) (flatP exB) exL, EntV (flatP exA) (flatP exB) (dget (buildP (flatP exA) (flatP exB) exL)) e := by decide +kernel
theorem ex1_verify : verifyP (flatP exA) (flatP exB) ex1 := by
  rw [ex1_eq]
  refine ⟨ex_price1, by decide, fun _ => ⟨rfl, ?_⟩⟩
  rw [if_pos ex_kind]
  refine ⟨?_, ex_ent, ex_cost⟩
  have : ((buildP (flatP exA) (flatP exB) exL).length : Int) = 5 := by rw [build_length]; rfl
  simp only [this]
  rw [ex_cmp5, Option.map_some, ex_sort]
  exact congrArg some (build_keys _ _ _).symm
end Go.Proofs.Ytfifbadepebpeaa
