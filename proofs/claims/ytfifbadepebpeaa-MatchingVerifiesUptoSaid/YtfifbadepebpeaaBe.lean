/- Dice: Mod, Light, Next, pick. -/
import Derived.Test.YtfifbadepebpeaaBa
import Derived.Test.YtfifbadepebpeaaWa
namespace Go.Proofs.Ytfifbadepebpeaa
open Go.RowKit

def modP (n m : Int) : Int := if n.tmod m < 0 then n.tmod m + m else n.tmod m
theorem modP_bd (n m : Int) (h : 0 < m) : 0 ≤ modP n m ∧ modP n m < m := by
  have h1 := Int.tmod_lt_of_pos n h
  have h2 : -m < n.tmod m := by
    have := Int.tmod_lt_of_pos (-n) h
    rw [Int.neg_tmod] at this
    omega
  unfold modP
  split <;> omega

set_option maxHeartbeats 400000 in
theorem mod_any (w : World) (n m : Int) (_hn : I64 n) (h : 0 < m) (hm : m ≤ 4611686018427387904) :
    Calls Try.prog 17 #[.int .i64 n, .int .i64 m] w fun e w' => e = .returned (.int .i64 (modP n m)) ∧ w = w' := by
  have h1 := Int.tmod_lt_of_pos n h
  have h2 : -m < n.tmod m := by
    have := Int.tmod_lt_of_pos (-n) h
    rw [Int.neg_tmod] at this
    omega
  have hm0 : (m == 0) = false := by simp; omega
  have hmm : m ≠ 0 := by omega
  have hm1 : (m == -1) = false := by simp; omega
  unfold I64 at _hn
  unfold modP
  by_cases hc : n.tmod m < 0
  · rw [if_pos hc]
    go_enter Try.func17, Try.ntmps17
    go_wp2_with fail
    go_ret
    exact ⟨rfl, rfl⟩
  · rw [if_neg hc]
    go_enter Try.func17, Try.ntmps17
    go_wp2_with fail
    go_ret
    exact ⟨rfl, rfl⟩

theorem Light_any (w : World) (a : Option Addr) (n c : Nat) (_hn : n ≤ 9223372036854775807) :
    Calls Try.prog 15 #[.slice a n c] w fun e w' => e = .returned (.bool (decide ((n : Int) ≤ 120))) ∧ w = w' := by
  go_enter Try.func15, Try.ntmps15
  go_wp2_with fail
  go_ret
  exact ⟨rfl, rfl⟩

theorem quiet_left' {P : Program} {f : FuncId} {args : Array Value} {w : World} {n : Nat} {v : Value}
    (h : Calls P f args (w.drewN n) fun e w' => e = .returned v ∧ w.drewN n = w') : Calls P f args (w.drewN n) fun e w'' => e = .returned v ∧ ∃ m, w'' = w.drewN m :=
  h.mono fun _ _ ⟨he, hm⟩ => ⟨he, n, hm.symm⟩

structure Dic (h : Hp) (w : World) (g : Nat) (L : List Int) (n : Nat) : Prop where
  free : h g = none
  lt : g < w.heap.size
  le : n ≤ L.length
  cells : ∃ a cap, w.cell? ⟨g, 0, none⟩ = some (.slice a L.length cap) ∧ Ints h (.slice a L.length cap) L
  at1 : w.cell? ⟨g, 1, none⟩ = some (.int .i64 n)
  fz : w.frozen? ⟨g, 1, none⟩ = false

theorem Dic.keep {h h' : Hp} {w w' : World} {g : Nat} {L : List Int} {n : Nat} (d : Dic h w g L n) (hb : w'.heap[g]? = w.heap[g]?) (hs : w.heap.size ≤ w'.heap.size) (hle : h.le h') (hg : h' g = none) : Dic h' w' g L n := by
  obtain ⟨a, cap, h1, h2⟩ := d.cells
  have hc : ∀ i, w'.cell? ⟨g, i, none⟩ = w.cell? ⟨g, i, none⟩ := fun i => World.cell?_of_block (a := ⟨g, i, none⟩) hb
  exact ⟨hg, Nat.lt_of_lt_of_le d.lt hs, d.le, ⟨a, cap, by rw [hc]; exact h1, h2.mono hle⟩, by rw [hc]; exact d.at1, by rw [World.frozen?_of_block (a := ⟨g, 1, none⟩) hb]; exact d.fz⟩
theorem Dic.alloc {h : Hp} {w : World} {g : Nat} {L : List Int} {n : Nat} (d : Dic h w g L n) (o : Obj) : Dic h (w.alloc o) g L n :=
  d.keep (Below.heap_alloc _ _ _ d.lt) (by simp) (Hp.le_refl _) d.free
theorem Dic.drew {h : Hp} {w : World} {g : Nat} {L : List Int} {n : Nat} (d : Dic h w g L n) : Dic h w.drew g L n := d.keep rfl (Nat.le_refl _) (Hp.le_refl _) d.free
theorem Dic.setCell {h : Hp} {w : World} {g : Nat} {L : List Int} {n : Nat} (d : Dic h w g L n) {p : Addr} (hp : p.block ≠ g) (v : Value) : Dic h (w.setCell p v) g L n :=
  d.keep (Below.heap_setCell _ _ _ _ (fun e => hp e.symm)) (by simp [World.setCell]) (Hp.le_refl _) d.free

structure DSt (g : Nat) (L : List Int) (h : Hp) (w : World) (h' : Hp) (w' : World) : Prop where
  gr : w.grownBy w' (some g)
  imm : Imm h' w'
  le : h.le h'
  old : ∀ b, b < w.heap.size → h' b = h b
  lt : g < w.heap.size
  dic : ∃ n, Dic h' w' g L n

section
variable {g : Nat} {L : List Int} {h h1 h2 : Hp} {w w1 w2 : World} {n : Nat}
theorem DSt.refl (hi : Imm h w) (d : Dic h w g L n) : DSt g L h w h w := ⟨World.grownBy.refl _ _, hi, Hp.le_refl _, fun _ _ => rfl, d.lt, n, d⟩
theorem DSt.call (s : DSt g L h w h1 w1) (t : DSt g L h1 w1 h2 w2) : DSt g L h w h2 w2 :=
  ⟨grown_step s.gr t.gr (fun _k hk => .inl hk), t.imm, Hp.le_trans s.le t.le, fun b hb => (t.old b (Nat.lt_of_lt_of_le hb s.gr.size)).trans (s.old b hb), s.lt, t.dic⟩
theorem DSt.alloc (s : DSt g L h w h1 w1) (o : Obj) : DSt g L h w h1 (w1.alloc o) := by
  obtain ⟨n, d⟩ := s.dic
  exact ⟨grown_alloc s.gr o, s.imm.alloc o, s.le, s.old, s.lt, n, d.alloc o⟩
theorem DSt.drew (s : DSt g L h w h1 w1) : DSt g L h w h1 w1.drew := by
  obtain ⟨n, d⟩ := s.dic
  exact ⟨⟨s.gr.os, s.gr.tape, s.gr.output, s.gr.size, s.gr.block⟩, s.imm, s.le, s.old, s.lt, n, d.drew⟩
theorem DSt.setCell (s : DSt g L h w h1 w1) {p : Addr} (hp : w.heap.size ≤ p.block) (hn : h1 p.block = none) (v : Value) : DSt g L h w h1 (w1.setCell p v) := by
  obtain ⟨n, d⟩ := s.dic
  have hg : p.block ≠ g := by have := s.lt; omega
  exact ⟨grown_set s.gr (.inr hp) v, s.imm.keep fun b c hc => Below.heap_setCell _ _ _ _ (fun e => by subst e; rw [hn] at hc; cases hc), s.le, s.old, s.lt, n, d.setCell hg v⟩
theorem DSt.add (s : DSt g L h w h1 w1) {b : Nat} {c : Array Value} (hb : w.heap.size ≤ b) (hn : h1 b = none) (hc : blk w1 b = some c) : DSt g L h w (h1.add b c) w1 := by
  obtain ⟨n, d⟩ := s.dic
  have hlt := s.lt
  have hadd : ∀ k, k ≠ b → (h1.add b c) k = h1 k := fun k hk => by unfold Hp.add; rw [if_neg hk]
  exact ⟨s.gr, s.imm.add hc, Hp.le_trans s.le (Hp.le_add _ hn), fun k hk => by rw [hadd k (by omega)]; exact s.old k hk, s.lt, n, d.keep rfl (Nat.le_refl _) (Hp.le_add _ hn) (by rw [hadd g (by omega)]; exact d.free)⟩
theorem Has.dst {b : Nat} {c : Array Value} (x : Has w b c) (s : DSt g L h w h1 w1) (hb : b ≠ g) : Has w1 b c := by
  have e := s.gr.block b x.lt (fun e => hb (Option.some.inj e))
  exact ⟨Nat.lt_of_lt_of_le x.lt s.gr.size, fun q => (World.cell?_of_block (a := ⟨b, q, none⟩) e).trans (x.cl q), fun q => (World.frozen?_of_block (a := ⟨b, q, none⟩) e).trans (x.fz q)⟩
end

theorem DSt.drewN {g : Nat} {L : List Int} {h h1 : Hp} {w w1 : World} (s : DSt g L h w h1 w1) (m : Nat) : DSt g L h w h1 (w1.drewN m) := by
  obtain ⟨n, d⟩ := s.dic
  exact ⟨⟨s.gr.os, s.gr.tape, s.gr.output, s.gr.size, s.gr.block⟩, s.imm, s.le, s.old, s.lt, n, d.keep rfl (Nat.le_refl _) (Hp.le_refl _) d.free⟩

theorem DSt.step {g : Nat} {L : List Int} {h : Hp} {w : World} {n : Nat} (hi : Imm h w) (d : Dic h w g L n) (hn : n < L.length) (z : Int) (hz : z = (n : Int) + 1) : DSt g L h w h (w.setCell ⟨g, 1, none⟩ (.int .i64 z)) := by
  subst hz
  obtain ⟨a, cap, h1, h2⟩ := d.cells
  refine ⟨grown_set (World.grownBy.refl _ _) (.inl rfl) _, hi.keep fun b c hc => Below.heap_setCell _ _ _ _ (fun e => by have e' : b = g := e; rw [e', d.free] at hc; cases hc), Hp.le_refl _, fun _ _ => rfl, d.lt, n + 1, d.free, by simpa [World.setCell] using d.lt, hn, ⟨a, cap, ?_, h2⟩, ?_, ?_⟩
  · rw [World.cell?_setCell_other _ _ _ _ (by simp)]; exact h1
  · exact World.cell?_setCell_same _ _ _ d.at1
  · have := d.fz; simp [this]

def nextP (L : List Int) (n : Nat) (m : Int) : Int := if n < L.length then modP (L.getD n 0) m else 0
theorem nextP_bd (L : List Int) (n : Nat) (m : Int) (h : 0 < m) : 0 ≤ nextP L n m ∧ nextP L n m < m := by
  unfold nextP
  split
  · exact modP_bd _ _ h
  · omega

set_option maxHeartbeats 1000000 in
theorem next_any (h : Hp) (w : World) (hi : Imm h w) (g : Nat) (L : List Int) (n : Nat) (d : Dic h w g L n) (m : Int) (h0 : 0 < m) (hm : m ≤ 1000) :
    Calls Try.prog 45 #[.pointer (some ⟨g, 0, none⟩), .int .i64 m] w fun e w' => e = .returned (.int .i64 (nextP L n m)) ∧ DSt g L h w h w' := by
  have hlt := d.lt
  have hle := d.le
  have D := Lib.hid d
  obtain ⟨a, cap, c0, hin⟩ := d.cells
  have c1 := d.at1
  have f1 := d.fz
  have IN := Lib.hid hin
  have HI := Lib.hid hi
  have hL := hin.1.len.1
  clear d hin hi
  by_cases hc : n < L.length
  · obtain ⟨a1, cap1, e1, -, e3⟩ := Ints.open IN.out
    simp only [Value.slice.injEq, true_and] at e1
    obtain ⟨rfl, rfl⟩ := e1
    obtain ⟨b, off, rfl, hb, hcl⟩ := e3 w HI.out (by omega)
    have hcell := hcl n hc
    have hr := IN.out.2 L[n] (by simp)
    have hbg : b ≠ g := fun e => by
      obtain ⟨s, _⟩ := IN.out
      obtain ⟨a', cap'', he, _, _, h3⟩ := s
      simp only [Value.slice.injEq, true_and] at he
      obtain ⟨rfl, rfl⟩ := he
      rcases h3 with h3 | ⟨b', off', c, hb', hbc, _⟩
      · omega
      · simp only [Option.some.injEq, Addr.mk.injEq, and_true] at hb'
        rw [← hb'.1, e, D.out.free] at hbc
        cases hbc
    have hP : Hid (nextP L n m = modP L[n] m) := by unfold Hid nextP; rw [if_pos hc]; simp [List.getD, hc]
    rw [hP.out]
    have HR := Lib.hid hr
    generalize L[n] = z at *
    clear hcl e3 hr
    have z1 : ¬ (L.length : Int) ≤ (n : Int) := by omega
    have z2 : decide ((L.length : Int) ≤ (n : Int)) = false := by simpa using hc
    have z3 : decide (L.length ≤ n) = false := by simpa using hc
    have z4 : (0 : Int) ≤ (n : Int) := by omega
    have z5 : (n : Int) < (L.length : Int) := by omega
    go_enter Try.func45, Try.ntmps45
    go_wp2_with fail
    go_quiet (fail)
    go_wp2_with fail
    have wn : IntKind.i64.wrap (n : Int) = n := w64 (by omega)
    have hm' := Lib.hid (show m ≤ 4611686018427387904 by omega)
    go_quiet ((go_at_call 17; exact quiet_left' (mod_any _ z m HR.out h0 hm'.out)))
    go_wp2_with fail
    go_ret
    exact ⟨rfl, (((DSt.refl HI.out D.out).drewN _).call (DSt.step (HI.out.drewN _) (D.out.keep rfl (Nat.le_refl _) (Hp.le_refl _) D.out.free) hc _ rfl)).drewN _⟩
  · have hP : Hid (nextP L n m = 0) := by unfold Hid nextP; rw [if_neg hc]
    rw [hP.out]
    obtain rfl : n = L.length := by omega
    go_enter Try.func45, Try.ntmps45
    go_wp2_with fail
    go_quiet (fail)
    go_wp2_with fail
    go_ret
    exact ⟨rfl, (DSt.refl HI.out D.out).drewN _⟩

set_option maxHeartbeats 1000000 in
theorem pick_any (h : Hp) (w : World) (hi : Imm h w) (g : Nat) (L : List Int) (n : Nat) (d : Dic h w g L n) (b : Nat) (k c : Nat) (cs : Array Value) (hb : Has w b cs) (hbg : b ≠ g) (hk : 0 < k) (hk2 : k ≤ 1000) (hs : ∀ i, i < k → ∃ s, cs[i]? = some (.string s)) :
    Calls Try.prog 46 #[.pointer (some ⟨g, 0, none⟩), .slice (some ⟨b, 0, none⟩) k c] w fun e w' => ∃ s, e = .returned (.string s) ∧ DSt g L h w h w' := by
  have D := Lib.hid d
  have HI := Lib.hid hi
  have HB := Lib.hid hb
  have HS := Lib.hid hs
  clear d hi hb hs
  go_enter Try.func46, Try.ntmps46
  go_wp2_with fail
  refine (next_any h _ HI.out g L n D.out (k : Int) (by omega) (by omega)).mono ?_
  rintro e w1 ⟨rfl, S1⟩
  have bd := nextP_bd L n (k : Int) (by omega)
  generalize nextP L n (k : Int) = r at *
  obtain ⟨j, rfl⟩ : ∃ j : Nat, r = (j : Int) := ⟨r.toNat, by omega⟩
  obtain ⟨s, hs⟩ := HS.out j (by omega)
  have HB1 := HB.out.dst S1 hbg
  have hc : w1.cell? ⟨b, j, none⟩ = some (.string s) := (HB1.cl j).trans hs
  have S := Lib.hid S1
  clear S1 HB1 hs
  have u1 : (0 : Int) ≤ (j : Int) := by omega
  have u2 : (j : Int) < (k : Int) := by omega
  go_wp2_with fail
  go_ret
  exact ⟨s, rfl, S.out⟩
end Go.Proofs.Ytfifbadepebpeaa

/- Trees that are made of dice: typ, IsExpr, IsUnit. -/
namespace Go.Proofs.Ytfifbadepebpeaa
open Go.RowKit

section
variable {g : Nat} {L : List Int} {h h1 h2 : Hp} {w w1 w2 : World} {n : Nat}
theorem DSt.set4 (s : DSt g L h w h1 w1) {b : Nat} (hb : w.heap.size ≤ b) (hn : h1 b = none) (v0 v1 v2 v3 : Value) :
    DSt g L h w h1 ((((w1.setCell ⟨b, 0, none⟩ v0).setCell ⟨b, 1, none⟩ v1).setCell ⟨b, 2, none⟩ v2).setCell ⟨b, 3, none⟩ v3) :=
  (((s.setCell (p := ⟨b, 0, none⟩) hb hn v0).setCell (p := ⟨b, 1, none⟩) hb hn v1).setCell (p := ⟨b, 2, none⟩) hb hn v2).setCell (p := ⟨b, 3, none⟩) hb hn v3
theorem DSt.lay (s : DSt g L h w h1 w1) (cs : List Value) (T : TypeId) (b : Nat) (hb : b = w1.heap.size) : DSt g L h w (h1.add b cs.toArray) (w1.alloc (.cells cs.toArray T)) := by
  subst hb
  refine (s.alloc _).add s.gr.size (new_own s.imm _ (Nat.le_refl _)) ?_
  unfold blk; rw [heap_alloc_new]
theorem Imm.size_none (hi : Imm h w) : h w.heap.size = none := new_own hi _ (Nat.le_refl _)
end

def TRes (g : Nat) (L : List Int) (h : Hp) (w : World) (P : Tree → Prop) (e : Ending) (w' : World) : Prop := ∃ v, e = .returned v ∧ ∃ h' t, DSt g L h w h' w' ∧ TreeV h' v t ∧ P t

theorem leaf_tree (h : Hp) (k : Int) (hk : I64 k) (s : ByteArray) : TreeV h (.agg #[.int .i64 k, .string s, .slice none 0 0, .slice none 0 0]) (.node k s [] []) := by
  refine ⟨[.int .i64 k, .string s, .slice none 0 0, .slice none 0 0], rfl, ?_⟩
  rw [EncTree]
  exact ⟨none, 0, none, 0, [], rfl, hk, Sl.nil _ _ _ _, Sl.nil _ _ _ _, by rw [EncTrees]⟩
theorem kids_tree {h : Hp} {b : Nat} {cs : List Value} {ts : List Tree} (hb : h b = some cs.toArray) (he : EncL (EncTree h) ts cs) (m : Nat) (hm : m = ts.length) (hl : ts.length ≤ 1000) (k : Int) (hk : I64 k) (s : ByteArray) :
    TreeV h (.agg #[.int .i64 k, .string s, .slice none 0 0, .slice (some ⟨b, 0, none⟩) m m]) (.node k s [] ts) := by
  subst hm
  refine ⟨[.int .i64 k, .string s, .slice none 0 0, .slice (some ⟨b, 0, none⟩) ts.length ts.length], rfl, ?_⟩
  rw [EncTree]
  refine ⟨none, 0, some ⟨b, 0, none⟩, ts.length, cs, rfl, hk, Sl.nil _ _ _ _, ⟨_, _, rfl, by omega, he.length 4 EncTree.len, .inr ⟨b, 0, cs.toArray, rfl, hb, fun i hi => by simp⟩⟩, EncTrees.iff.2 he⟩
theorem enc_of {h : Hp} {a b c d : Value} {t : Tree} (s : TreeV h (.agg #[a, b, c, d]) t) : EncTree h t [a, b, c, d] := by
  obtain ⟨cs, e, i⟩ := s
  have : cs = [a, b, c, d] := by
    simp only [Value.agg.injEq] at e
    have := congrArg Array.toList e
    simpa using this.symm
  rw [this] at i
  exact i
theorem add_self (h : Hp) (b : Nat) (c : Array Value) : (h.add b c) b = some c := by unfold Hp.add; rw [if_pos rfl]
theorem add_ne {h : Hp} {b k : Nat} {c : Array Value} (hk : k ≠ b) : (h.add b c) k = h k := by unfold Hp.add; rw [if_neg hk]
theorem size_leaf (k : Int) (s : ByteArray) : (Tree.node k s [] []).size = 1 := by simp [Tree.size, sizes]

structure Bx (h : Hp) (w : World) (b : Nat) (c : Array Value) : Prop where
  has : Has w b c
  no : h b = none
section
variable {g : Nat} {L : List Int} {h h1 : Hp} {w w1 : World} {b : Nat} {c : Array Value}
theorem Bx.call (x : Bx h w b c) (s : DSt g L h w h1 w1) (hb : b ≠ g) : Bx h1 w1 b c := ⟨x.has.dst s hb, (s.old b x.has.lt).trans x.no⟩
theorem Bx.alloc (x : Bx h w b c) (o : Obj) : Bx h (w.alloc o) b c := ⟨x.has.alloc o, x.no⟩
theorem Bx.add (x : Bx h w b c) {b' : Nat} (c' : Array Value) (hb : b ≠ b') : Bx (h.add b' c') w b c := ⟨x.has, by rw [add_ne hb]; exact x.no⟩
theorem Bx.new (hi : Imm h w) (c : Array Value) (T : TypeId) : Bx h (w.alloc (.cells c T)) w.heap.size c := ⟨Has.new w c T, hi.size_none⟩
end
theorem Bx.four {h : Hp} {w : World} {b : Nat} {v0 v1 v2 v3 : Value} (x : Bx h w b #[v0, v1, v2, v3]) : (w.cell? ⟨b, 0, none⟩ = some v0 ∧ w.cell? ⟨b, 1, none⟩ = some v1 ∧ w.cell? ⟨b, 2, none⟩ = some v2 ∧ w.cell? ⟨b, 3, none⟩ = some v3) ∧
    w.frozen? ⟨b, 0, none⟩ = false ∧ w.frozen? ⟨b, 1, none⟩ = false ∧ w.frozen? ⟨b, 2, none⟩ = false ∧ w.frozen? ⟨b, 3, none⟩ = false :=
  ⟨⟨x.has.cl 0, x.has.cl 1, x.has.cl 2, x.has.cl 3⟩, x.has.fz 0, x.has.fz 1, x.has.fz 2, x.has.fz 3⟩

theorem leaf_le {k : Int} {s : ByteArray} {b : Nat} (h : 1 ≤ b) : (Tree.node k s [] []).size ≤ b := by rw [size_leaf]; exact h
def allStr : List Value → Bool
  | [] => true
  | .string _ :: l => allStr l
  | _ => false
theorem strs_ok : ∀ (l : List Value), allStr l = true → ∀ i, i < l.length → ∃ s, l.toArray[i]? = some (.string s)
  | [], _, i, hi => by simp at hi
  | .string s :: l, h, 0, _ => ⟨s, by simp⟩
  | .string s :: l, h, i + 1, hi => by
    obtain ⟨u, hu⟩ := strs_ok l h i (by simpa using hi)
    exact ⟨u, by simpa using hu⟩

-- GEN
set_option maxRecDepth 100000 in
set_option maxHeartbeats 4000000 in
theorem typ_any (m : Nat) : ∀ (h : Hp) (w : World) (_ : Imm h w) (g : Nat) (L : List Int) (n : Nat) (_ : Dic h w g L n) (_ : m ≤ 100),
    Calls Try.prog 47 #[.pointer (some ⟨g, 0, none⟩), .int .i64 m] w (TRes g L h w fun t => t.size ≤ m + 1) := by
  induction m with
  | zero =>
    intro h w hi g L n d hm
    have HI := Lib.hid hi
    have D := Lib.hid d
    have hgl := d.lt
    clear hi d
    go_enter Try.func47, Try.ntmps47
    go_wp2_with fail
    have B0 := Lib.hid (Bx.new HI.out #[.int .i64 0, .string ⟨#[]⟩, .slice none 0 0, .slice none 0 0] 25)
    have S0 := Lib.hid ((DSt.refl HI.out D.out).alloc (Obj.cells #[.int .i64 0, .string ⟨#[]⟩, .slice none 0 0, .slice none 0 0] 25))
    refine (next_any h _ S0.out.imm g L n (D.out.alloc _) 7 (by omega) (by omega)).mono ?_
    rintro e w1 ⟨rfl, S1⟩
    have B1 := Lib.hid (B0.out.call S1 (by omega))
    have SN := Lib.hid (S0.out.call S1)
    have hz : w.heap.size < w1.heap.size := B1.out.has.lt
    have ⟨⟨k0, k1, k2, k3⟩, z0, z1, z2, z3⟩ := B1.out.four
    have bd := nextP_bd L n 7 (by omega)
    generalize nextP L n 7 = r at *
    have hr : r = 0 ∨ r = 1 ∨ r = 2 ∨ r = 3 ∨ r = 4 ∨ r = 5 ∨ r = 6 := by omega
    rcases hr with rfl | rfl | rfl | rfl | rfl | rfl | rfl
    ·
      clear S1
      go_wp2_with fail
      refine bodyPost_ret (v := .agg #[.int .i64 5, .string ⟨#[]⟩, .slice none 0 0, .slice none 0 0]) (by simp [results, Try.results47, go_sem, k0, k1, k2, k3]) rfl ?_
      exact ⟨_, rfl, h, .node 5 ⟨#[]⟩ [] [], SN.out.set4 (Nat.le_refl _) B1.out.no _ _ _ _, leaf_tree _ _ (by unfold I64; omega) _, leaf_le (by omega)⟩
    ·
      clear S1
      go_wp2_with fail
      refine bodyPost_ret (v := .agg #[.int .i64 5, .string ⟨#[]⟩, .slice none 0 0, .slice none 0 0]) (by simp [results, Try.results47, go_sem, k0, k1, k2, k3]) rfl ?_
      exact ⟨_, rfl, h, .node 5 ⟨#[]⟩ [] [], SN.out.set4 (Nat.le_refl _) B1.out.no _ _ _ _, leaf_tree _ _ (by unfold I64; omega) _, leaf_le (by omega)⟩
    ·
      clear S1
      go_wp2_with fail
      refine bodyPost_ret (v := .agg #[.int .i64 7, .string ⟨#[]⟩, .slice none 0 0, .slice none 0 0]) (by simp [results, Try.results47, go_sem, k0, k1, k2, k3]) rfl ?_
      exact ⟨_, rfl, h, .node 7 ⟨#[]⟩ [] [], SN.out.set4 (Nat.le_refl _) B1.out.no _ _ _ _, leaf_tree _ _ (by unfold I64; omega) _, leaf_le (by omega)⟩
    ·
      clear S1
      go_wp2_with fail
      refine bodyPost_ret (v := .agg #[.int .i64 6, .string ⟨#[]⟩, .slice none 0 0, .slice none 0 0]) (by simp [results, Try.results47, go_sem, k0, k1, k2, k3]) rfl ?_
      exact ⟨_, rfl, h, .node 6 ⟨#[]⟩ [] [], SN.out.set4 (Nat.le_refl _) B1.out.no _ _ _ _, leaf_tree _ _ (by unfold I64; omega) _, leaf_le (by omega)⟩
    ·
      obtain ⟨n1, D1⟩ := SN.out.dic
      have D1 := Lib.hid D1
      clear S1
      go_wp2_with fail
      refine (pick_any h _ (SN.out.imm.alloc _) g L n1 (D1.out.alloc _) w1.heap.size 4 4 #[.string ⟨#[84]⟩, .string ⟨#[85]⟩, .string ⟨#[65, 46, 84]⟩, .string ⟨#[66, 46, 85]⟩] (Has.new w1 _ _) (by omega) (by omega) (by omega) (fun i hi => strs_ok [.string ⟨#[84]⟩, .string ⟨#[85]⟩, .string ⟨#[65, 46, 84]⟩, .string ⟨#[66, 46, 85]⟩] rfl i hi)).mono ?_
      rintro e w2 ⟨s, rfl, S2⟩
      have B2 := Lib.hid ((B1.out.alloc _).call S2 (by omega))
      have SM := Lib.hid ((SN.out.alloc _).call S2)
      have hz2 : w.heap.size < w2.heap.size := B2.out.has.lt
      have ⟨⟨m0, m1, m2, m3⟩, y0, y1, y2, y3⟩ := B2.out.four
      clear S2
      go_wp2_with fail
      refine bodyPost_ret (v := .agg #[.int .i64 9, .string s, .slice none 0 0, .slice none 0 0]) (by simp [results, Try.results47, go_sem, m0, m1, m2, m3]) rfl ?_
      exact ⟨_, rfl, h, .node 9 s [] [], SM.out.set4 (Nat.le_refl _) B2.out.no _ _ _ _, leaf_tree _ _ (by unfold I64; omega) _, leaf_le (by omega)⟩
    ·
      clear S1
      go_wp2_with fail
      refine bodyPost_ret (v := .agg #[.int .i64 5, .string ⟨#[]⟩, .slice none 0 0, .slice none 0 0]) (by simp [results, Try.results47, go_sem, k0, k1, k2, k3]) rfl ?_
      exact ⟨_, rfl, h, .node 5 ⟨#[]⟩ [] [], SN.out.set4 (Nat.le_refl _) B1.out.no _ _ _ _, leaf_tree _ _ (by unfold I64; omega) _, leaf_le (by omega)⟩
    ·
      clear S1
      go_wp2_with fail
      refine bodyPost_ret (v := .agg #[.int .i64 5, .string ⟨#[]⟩, .slice none 0 0, .slice none 0 0]) (by simp [results, Try.results47, go_sem, k0, k1, k2, k3]) rfl ?_
      exact ⟨_, rfl, h, .node 5 ⟨#[]⟩ [] [], SN.out.set4 (Nat.le_refl _) B1.out.no _ _ _ _, leaf_tree _ _ (by unfold I64; omega) _, leaf_le (by omega)⟩
  | succ m ih =>
    intro h w hi g L n d hm
    have IH := Lib.hid ih
    clear ih
    have HI := Lib.hid hi
    have D := Lib.hid d
    have hgl := d.lt
    clear hi d
    go_enter Try.func47, Try.ntmps47
    go_wp2_with fail
    have B0 := Lib.hid (Bx.new HI.out #[.int .i64 0, .string ⟨#[]⟩, .slice none 0 0, .slice none 0 0] 25)
    have S0 := Lib.hid ((DSt.refl HI.out D.out).alloc (Obj.cells #[.int .i64 0, .string ⟨#[]⟩, .slice none 0 0, .slice none 0 0] 25))
    refine (next_any h _ S0.out.imm g L n (D.out.alloc _) 7 (by omega) (by omega)).mono ?_
    rintro e w1 ⟨rfl, S1⟩
    have B1 := Lib.hid (B0.out.call S1 (by omega))
    have SN := Lib.hid (S0.out.call S1)
    have hz : w.heap.size < w1.heap.size := B1.out.has.lt
    have ⟨⟨k0, k1, k2, k3⟩, z0, z1, z2, z3⟩ := B1.out.four
    have bd := nextP_bd L n 7 (by omega)
    generalize nextP L n 7 = r at *
    have hr : r = 0 ∨ r = 1 ∨ r = 2 ∨ r = 3 ∨ r = 4 ∨ r = 5 ∨ r = 6 := by omega
    rcases hr with rfl | rfl | rfl | rfl | rfl | rfl | rfl
    ·
      clear S1
      go_wp2_with fail
      refine bodyPost_ret (v := .agg #[.int .i64 5, .string ⟨#[]⟩, .slice none 0 0, .slice none 0 0]) (by simp [results, Try.results47, go_sem, k0, k1, k2, k3]) rfl ?_
      exact ⟨_, rfl, h, .node 5 ⟨#[]⟩ [] [], SN.out.set4 (Nat.le_refl _) B1.out.no _ _ _ _, leaf_tree _ _ (by unfold I64; omega) _, leaf_le (by omega)⟩
    ·
      clear S1
      go_wp2_with fail
      refine bodyPost_ret (v := .agg #[.int .i64 5, .string ⟨#[]⟩, .slice none 0 0, .slice none 0 0]) (by simp [results, Try.results47, go_sem, k0, k1, k2, k3]) rfl ?_
      exact ⟨_, rfl, h, .node 5 ⟨#[]⟩ [] [], SN.out.set4 (Nat.le_refl _) B1.out.no _ _ _ _, leaf_tree _ _ (by unfold I64; omega) _, leaf_le (by omega)⟩
    ·
      clear S1
      go_wp2_with fail
      refine bodyPost_ret (v := .agg #[.int .i64 7, .string ⟨#[]⟩, .slice none 0 0, .slice none 0 0]) (by simp [results, Try.results47, go_sem, k0, k1, k2, k3]) rfl ?_
      exact ⟨_, rfl, h, .node 7 ⟨#[]⟩ [] [], SN.out.set4 (Nat.le_refl _) B1.out.no _ _ _ _, leaf_tree _ _ (by unfold I64; omega) _, leaf_le (by omega)⟩
    ·
      clear S1
      go_wp2_with fail
      refine bodyPost_ret (v := .agg #[.int .i64 6, .string ⟨#[]⟩, .slice none 0 0, .slice none 0 0]) (by simp [results, Try.results47, go_sem, k0, k1, k2, k3]) rfl ?_
      exact ⟨_, rfl, h, .node 6 ⟨#[]⟩ [] [], SN.out.set4 (Nat.le_refl _) B1.out.no _ _ _ _, leaf_tree _ _ (by unfold I64; omega) _, leaf_le (by omega)⟩
    ·
      obtain ⟨n1, D1⟩ := SN.out.dic
      have D1 := Lib.hid D1
      clear S1
      go_wp2_with fail
      refine (pick_any h _ (SN.out.imm.alloc _) g L n1 (D1.out.alloc _) w1.heap.size 4 4 #[.string ⟨#[84]⟩, .string ⟨#[85]⟩, .string ⟨#[65, 46, 84]⟩, .string ⟨#[66, 46, 85]⟩] (Has.new w1 _ _) (by omega) (by omega) (by omega) (fun i hi => strs_ok [.string ⟨#[84]⟩, .string ⟨#[85]⟩, .string ⟨#[65, 46, 84]⟩, .string ⟨#[66, 46, 85]⟩] rfl i hi)).mono ?_
      rintro e w2 ⟨s, rfl, S2⟩
      have B2 := Lib.hid ((B1.out.alloc _).call S2 (by omega))
      have SM := Lib.hid ((SN.out.alloc _).call S2)
      have hz2 : w.heap.size < w2.heap.size := B2.out.has.lt
      have ⟨⟨m0, m1, m2, m3⟩, y0, y1, y2, y3⟩ := B2.out.four
      clear S2
      go_wp2_with fail
      refine bodyPost_ret (v := .agg #[.int .i64 9, .string s, .slice none 0 0, .slice none 0 0]) (by simp [results, Try.results47, go_sem, m0, m1, m2, m3]) rfl ?_
      exact ⟨_, rfl, h, .node 9 s [] [], SM.out.set4 (Nat.le_refl _) B2.out.no _ _ _ _, leaf_tree _ _ (by unfold I64; omega) _, leaf_le (by omega)⟩
    ·
      obtain ⟨n1, D1⟩ := SN.out.dic
      have D1 := Lib.hid D1
      clear S1
      have e1 : ((m + 1 : Nat) : Int) - 1 = (m : Int) := by omega
      have e2 : ¬ ((m + 1 : Nat) : Int) < 1 := by omega
      have e3 : (m : Int) + 1 - 1 = (m : Int) := by omega
      go_wp2_with fail
      refine (IH.out h _ SN.out.imm g L n1 D1.out (by omega)).mono ?_
      rintro e w2 ⟨v2, rfl, h2, t2, S2, T2, Z2⟩
      obtain ⟨al, cl, ak, ck, ys, rfl, i1, -, -, -, -, -⟩ := T2.open
      have B2 := Lib.hid (B1.out.call S2 (by omega))
      have SM := Lib.hid (SN.out.call S2)
      have T2' := Lib.hid T2
      have hz2 : w.heap.size < w2.heap.size := B2.out.has.lt
      have ⟨⟨m0, m1, m2, m3⟩, y0, y1, y2, y3⟩ := B2.out.four
      have y4 : w.heap.size < w2.heap.size + 1 := by omega
      clear S2 T2
      go_wp2_with fail
      refine bodyPost_ret (v := .agg #[.int .i64 8, .string ⟨#[]⟩, .slice none 0 0, .slice (some ⟨w2.heap.size, 0, none⟩) 1 1]) (by simp [results, Try.results47, go_sem, m0, m1, m2, m3, hz2]) rfl ?_
      have SL := (SM.out.set4 (Nat.le_refl _) B2.out.no (.int .i64 8) (.string ⟨#[]⟩) (.slice none 0 0) (.slice (some ⟨w2.heap.size, 0, none⟩) 1 1)).lay [.int .i64 t2.kind, .string t2.text, .slice al t2.leads.length cl, .slice ak t2.kids.length ck] 25 w2.heap.size (by simp [World.setCell])
      have hle : h2.le (h2.add w2.heap.size ([.int .i64 t2.kind, .string t2.text, .slice al t2.leads.length cl, .slice ak t2.kids.length ck] : List Value).toArray) := Hp.le_add _ SM.out.imm.size_none
      exact ⟨_, rfl, _, .node 8 ⟨#[]⟩ [] [t2], SL, kids_tree (add_self _ _ _) (EncL.one ((enc_of T2'.out).mono hle)) 1 rfl (by simp) _ (by unfold I64; omega) _, by show Tree.size _ ≤ _; simp only [Tree.size, sizes]; omega⟩
    ·
      obtain ⟨n1, D1⟩ := SN.out.dic
      have D1 := Lib.hid D1
      clear S1
      have e1 : ((m + 1 : Nat) : Int) - 1 = (m : Int) := by omega
      have e2 : ¬ ((m + 1 : Nat) : Int) < 1 := by omega
      have e3 : (m : Int) + 1 - 1 = (m : Int) := by omega
      go_wp2_with fail
      refine (IH.out h _ SN.out.imm g L n1 D1.out (by omega)).mono ?_
      rintro e w2 ⟨v2, rfl, h2, t2, S2, T2, Z2⟩
      obtain ⟨al, cl, ak, ck, ys, rfl, i1, -, -, -, -, -⟩ := T2.open
      have B2 := Lib.hid (B1.out.call S2 (by omega))
      have SM := Lib.hid (SN.out.call S2)
      have T2' := Lib.hid T2
      have hz2 : w.heap.size < w2.heap.size := B2.out.has.lt
      have ⟨⟨m0, m1, m2, m3⟩, y0, y1, y2, y3⟩ := B2.out.four
      have y4 : w.heap.size < w2.heap.size + 1 := by omega
      clear S2 T2
      go_wp2_with fail
      refine bodyPost_ret (v := .agg #[.int .i64 8, .string ⟨#[]⟩, .slice none 0 0, .slice (some ⟨w2.heap.size, 0, none⟩) 1 1]) (by simp [results, Try.results47, go_sem, m0, m1, m2, m3, hz2]) rfl ?_
      have SL := (SM.out.set4 (Nat.le_refl _) B2.out.no (.int .i64 8) (.string ⟨#[]⟩) (.slice none 0 0) (.slice (some ⟨w2.heap.size, 0, none⟩) 1 1)).lay [.int .i64 t2.kind, .string t2.text, .slice al t2.leads.length cl, .slice ak t2.kids.length ck] 25 w2.heap.size (by simp [World.setCell])
      have hle : h2.le (h2.add w2.heap.size ([.int .i64 t2.kind, .string t2.text, .slice al t2.leads.length cl, .slice ak t2.kids.length ck] : List Value).toArray) := Hp.le_add _ SM.out.imm.size_none
      exact ⟨_, rfl, _, .node 8 ⟨#[]⟩ [] [t2], SL, kids_tree (add_self _ _ _) (EncL.one ((enc_of T2'.out).mono hle)) 1 rfl (by simp) _ (by unfold I64; omega) _, by show Tree.size _ ≤ _; simp only [Tree.size, sizes]; omega⟩

end Go.Proofs.Ytfifbadepebpeaa

/- IsExpr, IsUnit, unit. -/
namespace Go.Proofs.Ytfifbadepebpeaa
open Go.RowKit

def SomeB (w : World) (e : Ending) (w' : World) : Prop := ∃ b, e = .returned (.bool b) ∧ w = w'

set_option maxHeartbeats 1000000 in
theorem isexpr_any (w : World) (k : Int) : Calls Try.prog 87 #[.int .i64 k] w (SomeB w) := by
  by_cases h1 : 10 ≤ k
  · have g1 : decide (10 ≤ k) = true := by simpa using h1
    by_cases h2 : k ≤ 22
    · have g2 : decide (k ≤ 22) = true := by simpa using h2
      by_cases h3 : k = 17
      · have g3 : (k != 17) = false := by simp [h3]
        clear h3
        go_enter Try.func87, Try.ntmps87
        go_wp2_with fail
        go_ret
        exact ⟨_, rfl, rfl⟩
      · have g3 : (k != 17) = true := by simp [h3]
        go_enter Try.func87, Try.ntmps87
        go_wp2_with fail
        go_ret
        exact ⟨_, rfl, rfl⟩
    · have g2 : decide (k ≤ 22) = false := by simpa using h2
      go_enter Try.func87, Try.ntmps87
      go_wp2_with fail
      go_ret
      exact ⟨_, rfl, rfl⟩
  · have g1 : decide (10 ≤ k) = false := by simpa using h1
    go_enter Try.func87, Try.ntmps87
    go_wp2_with fail
    go_ret
    exact ⟨_, rfl, rfl⟩

set_option maxHeartbeats 1000000 in
theorem isunit_any (w : World) (k : Int) : Calls Try.prog 75 #[.int .i64 k] w (SomeB w) := by
  by_cases h1 : k = 19
  · have g1 : (k != 19) = false := by simp [h1]
    clear h1
    go_enter Try.func75, Try.ntmps75
    go_wp2_with fail
    refine (isexpr_any _ k).mono ?_
    rintro e w' ⟨b, rfl, rfl⟩
    cases b <;> (go_wp2_with fail; go_ret; exact ⟨_, rfl, rfl⟩)
  · have g1 : (k != 19) = true := by simp [h1]
    by_cases h2 : k = 20
    · have g2 : (k != 20) = false := by simp [h2]
      clear h2 h1
      go_enter Try.func75, Try.ntmps75
      go_wp2_with fail
      refine (isexpr_any _ k).mono ?_
      rintro e w' ⟨b, rfl, rfl⟩
      cases b <;> (go_wp2_with fail; go_ret; exact ⟨_, rfl, rfl⟩)
    · have g2 : (k != 20) = true := by simp [h2]
      by_cases h3 : k = 21
      · have g3 : (k != 21) = false := by simp [h3]
        clear h3 h2 h1
        go_enter Try.func75, Try.ntmps75
        go_wp2_with fail
        refine (isexpr_any _ k).mono ?_
        rintro e w' ⟨b, rfl, rfl⟩
        cases b <;> (go_wp2_with fail; go_ret; exact ⟨_, rfl, rfl⟩)
      · have g3 : (k != 21) = true := by simp [h3]
        go_enter Try.func75, Try.ntmps75
        go_wp2_with fail
        refine (isexpr_any _ k).mono ?_
        rintro e w' ⟨b, rfl, rfl⟩
        cases b <;> (go_wp2_with fail; go_ret; exact ⟨_, rfl, rfl⟩)

def ExprC (m B : Nat) : Prop := ∀ (h : Hp) (w : World) (_ : Imm h w) (g : Nat) (L : List Int) (n : Nat) (_ : Dic h w g L n),
  Calls Try.prog 48 #[.pointer (some ⟨g, 0, none⟩), .int .i64 m] w (TRes g L h w fun t => t.size ≤ B)

set_option maxRecDepth 100000 in
set_option maxHeartbeats 2000000 in
theorem unit_of {m B : Nat} (E : ExprC m B) (h : Hp) (w : World) (hi : Imm h w) (g : Nat) (L : List Int) (n : Nat) (d : Dic h w g L n) :
    Calls Try.prog 63 #[.pointer (some ⟨g, 0, none⟩), .int .i64 m] w (TRes g L h w fun t => t.size ≤ B + 1) := by
  have HI := Lib.hid hi
  have D := Lib.hid d
  have HE := Lib.hid E
  have hgl := d.lt
  clear hi d E
  go_enter Try.func63, Try.ntmps63
  go_wp2_with fail
  have B0 := Lib.hid (Bx.new HI.out #[.int .i64 0, .string ⟨#[]⟩, .slice none 0 0, .slice none 0 0] 25)
  have S0 := Lib.hid ((DSt.refl HI.out D.out).alloc (Obj.cells #[.int .i64 0, .string ⟨#[]⟩, .slice none 0 0, .slice none 0 0] 25))
  refine (HE.out h _ S0.out.imm g L n (D.out.alloc _)).mono ?_
  rintro e w1 ⟨v1, rfl, h1, t1, S1, T1, Z1⟩
  obtain ⟨al, cl, ak, ck, ys, rfl, i1, -, -, -, -, -⟩ := T1.open
  have B1 := Lib.hid (B0.out.call S1 (by omega))
  have SN := Lib.hid (S0.out.call S1)
  have T1' := Lib.hid T1
  have hz : w.heap.size < w1.heap.size := B1.out.has.lt
  have hz2 : w.heap.size < w1.heap.size + 1 := by omega
  have ⟨⟨k0, k1, k2, k3⟩, z0, z1, z2, z3⟩ := B1.out.four
  clear S1 T1
  go_wp2_with fail
  refine (isunit_any _ _).mono ?_
  rintro e w2 ⟨b, rfl, rfl⟩
  cases b
  · go_wp2_with fail
    refine bodyPost_ret (v := .agg #[.int .i64 22, .string ⟨#[]⟩, .slice none 0 0, .slice (some ⟨w1.heap.size + 1, 0, none⟩) 1 1]) (by simp [results, Try.results63, go_sem, k0, k1, k2, k3, hz, hz2]) rfl ?_
    have SL := ((SN.out.set4 (Nat.le_refl _) B1.out.no (.int .i64 22) (.string ⟨#[]⟩) (.slice none 0 0) (.slice (some ⟨w1.heap.size + 1, 0, none⟩) 1 1)).alloc (Obj.cells #[.int .i64 t1.kind, .string t1.text, .slice al t1.leads.length cl, .slice ak t1.kids.length ck] 25)).lay [.int .i64 t1.kind, .string t1.text, .slice al t1.leads.length cl, .slice ak t1.kids.length ck] 25 (w1.heap.size + 1) (by simp [World.setCell])
    have hle : h1.le (h1.add (w1.heap.size + 1) ([.int .i64 t1.kind, .string t1.text, .slice al t1.leads.length cl, .slice ak t1.kids.length ck] : List Value).toArray) := Hp.le_add _ (new_own SN.out.imm _ (by omega))
    exact ⟨_, rfl, _, .node 22 ⟨#[]⟩ [] [t1], SL, kids_tree (add_self _ _ _) (EncL.one ((enc_of T1'.out).mono hle)) 1 rfl (by simp) _ (by unfold I64; omega) _, by show Tree.size _ ≤ _; simp only [Tree.size, sizes]; omega⟩
  · go_wp2_with fail
    refine bodyPost_ret (v := .agg #[.int .i64 t1.kind, .string t1.text, .slice al t1.leads.length cl, .slice ak t1.kids.length ck]) (by simp [results, Try.results63, go_sem, k0, k1, k2, k3, hz]) rfl ?_
    have SL := (SN.out.set4 (Nat.le_refl _) B1.out.no (.int .i64 t1.kind) (.string t1.text) (.slice al t1.leads.length cl) (.slice ak t1.kids.length ck)).alloc (Obj.cells #[.int .i64 t1.kind, .string t1.text, .slice al t1.leads.length cl, .slice ak t1.kids.length ck] 25)
    exact ⟨_, rfl, h1, t1, SL, T1'.out, by show Tree.size _ ≤ _; omega⟩
end Go.Proofs.Ytfifbadepebpeaa
