/- The table of the reference; label. -/
import Derived.Test.YtfifbadepebpeaaBq
import Derived.Test.YtfifbadepebpeaaBg
import Derived.Test.YtfifbadepebpeaaBh
namespace Go.Proofs.Ytfifbadepebpeaa
open Go.RowKit

def Tab (h : Hp) (bt : Nat) (x y : List NodeP) (vl : Value) : Prop := ∃ a0 a1 a2 a3 a4 b0 b1 b2 b3 b4, h bt = some #[a0, a1, a2, a3, a4, b0, b1, b2, b3, b4, vl] ∧ NumE h x [a0, a1, a2, a3, a4] ∧ NumE h y [b0, b1, b2, b3, b4]
theorem Tab.mono {h h' : Hp} (hle : h.le h') {bt : Nat} {x y : List NodeP} {vl : Value} (t : Tab h bt x y vl) : Tab h' bt x y vl := by
  obtain ⟨a0, a1, a2, a3, a4, b0, b1, b2, b3, b4, e, e1, e2⟩ := t
  exact ⟨a0, a1, a2, a3, a4, b0, b1, b2, b3, b4, hle _ _ e, e1.mono hle, e2.mono hle⟩

theorem Tab.open {h : Hp} {bt : Nat} {x y : List NodeP} {vl : Value} (t : Tab h bt x y vl) (lx : 0 < x.length) (ly : 0 < y.length) : ∃ bn on cn bp op cp bs os ct bk ok ck dn pn en dp pp ep ds qs es dk pk ek : Nat,
    (x.length ≤ 140737488355328 ∧ y.length ≤ 140737488355328) ∧ NumO h x bn on bp op bs os bk ok ∧ NumO h y dn pn dp pp ds qs dk pk ∧
    ∀ w, Imm h w → bt < w.heap.size ∧ (w.cell? ⟨bt, 0, none⟩ = some (.slice (some ⟨bn, on, none⟩) x.length cn) ∧ w.cell? ⟨bt, 1, none⟩ = some (.slice (some ⟨bp, op, none⟩) x.length cp) ∧ w.cell? ⟨bt, 2, none⟩ = some (.slice (some ⟨bs, os, none⟩) x.length ct) ∧ w.cell? ⟨bt, 3, none⟩ = some (.slice (some ⟨bk, ok, none⟩) x.length ck)) ∧
      (w.cell? ⟨bt, 5, none⟩ = some (.slice (some ⟨dn, pn, none⟩) y.length en) ∧ w.cell? ⟨bt, 6, none⟩ = some (.slice (some ⟨dp, pp, none⟩) y.length ep) ∧ w.cell? ⟨bt, 7, none⟩ = some (.slice (some ⟨ds, qs, none⟩) y.length es) ∧ w.cell? ⟨bt, 8, none⟩ = some (.slice (some ⟨dk, pk, none⟩) y.length ek)) ∧ w.cell? ⟨bt, 10, none⟩ = some vl := by
  obtain ⟨a0, a1, a2, a3, a4, b0, b1, b2, b3, b4, e, ha, hb⟩ := t
  obtain ⟨bn, on, cn, bp, op, cp, bs, os, ct, bk, ok, ck, e1, l1, OX⟩ := ha.open lx
  obtain ⟨dn, pn, en, dp, pp, ep, ds, qs, es, dk, pk, ek, e2, l2, OY⟩ := hb.open ly
  simp only [List.cons.injEq, and_true] at e1 e2
  obtain ⟨rfl, rfl, rfl, rfl, rfl⟩ := e1
  obtain ⟨rfl, rfl, rfl, rfl, rfl⟩ := e2
  refine ⟨bn, on, cn, bp, op, cp, bs, os, ct, bk, ok, ck, dn, pn, en, dp, pp, ep, ds, qs, es, dk, pk, ek, ⟨l1, l2⟩, OX, OY, fun w hi => ?_⟩
  have hw := hi bt _ e
  have hc : ∀ i, w.cell? ⟨bt, i, none⟩ = (#[.slice (some ⟨bn, on, none⟩) x.length cn, .slice (some ⟨bp, op, none⟩) x.length cp, .slice (some ⟨bs, os, none⟩) x.length ct, .slice (some ⟨bk, ok, none⟩) x.length ck, .bool (!narrowB x), .slice (some ⟨dn, pn, none⟩) y.length en, .slice (some ⟨dp, pp, none⟩) y.length ep, .slice (some ⟨ds, qs, none⟩) y.length es, .slice (some ⟨dk, pk, none⟩) y.length ek, .bool (!narrowB y), vl] : Array Value)[i]? := fun i => blk_cell hw i
  exact ⟨blk_lt hw, ⟨hc 0, hc 1, hc 2, hc 3⟩, ⟨hc 5, hc 6, hc 7, hc 8⟩, hc 10⟩

set_option maxHeartbeats 2000000 in
theorem label_any (h : Hp) (w : World) (hi : Imm h w) (bt : Nat) (x y : List NodeP) (vl : Value) (t : Tab h bt x y vl) (pa qa : Nat) (hpa : pa < x.length) (hqa : qa < y.length) :
    Calls Try.prog 40 #[.pointer (some ⟨bt, 0, none⟩), .int .i64 pa, .int .i64 qa] w fun e w' => e = .returned (.int .i64 (differP x[pa].text y[qa].text)) ∧ ∃ n, w' = w.drewN n := by
  obtain ⟨bn, on, cn, bp, op, cp, bs, os, ct, bk, ok, ck, dn, pn, en, dp, pp, ep, ds, qs, es, dk, pk, ek, ⟨l1, l2⟩, OX, OY, hc⟩ := t.open (by omega) (by omega)
  obtain ⟨hbt, ⟨c0, -, -, -⟩, ⟨c5, -, -, -⟩, -⟩ := hc w hi
  obtain ⟨-, xt, -⟩ := (OX.at_ w hi).2 pa hpa
  obtain ⟨-, yt, -⟩ := (OY.at_ w hi).2 qa hqa
  have v1 : (0 : Int) ≤ (pa : Int) := by omega
  have v2 : (pa : Int) < (x.length : Int) := by omega
  have v3 : (0 : Int) ≤ (qa : Int) := by omega
  have v4 : (qa : Int) < (y.length : Int) := by omega
  generalize x[pa].text = s1 at *
  generalize y[qa].text = s2 at *
  clear hc OX OY t hi
  by_cases ht : s1 = s2
  · have g10 : (s1.toList == s2.toList) = true := strT ht
    have g11 : (s1.toList != s2.toList) = false := by simp [ht]
    have DD : Hid (differP s1 s2 = 0) := by unfold Hid differP; rw [if_pos ht]
    rw [DD.out]
    clear ht
    go_enter Try.func40, Try.ntmps40
    go_wp2_with fail
    go_quiet (fail)
    go_wp2_with fail
    go_ret
    exact ⟨rfl, _, rfl⟩
  · have g10 : (s1.toList == s2.toList) = false := strF ht
    have g11 : (s1.toList != s2.toList) = true := by rw [bne, g10]; rfl
    have DD : Hid (differP s1 s2 = 1) := by unfold Hid differP; rw [if_neg ht]
    rw [DD.out]
    clear ht
    go_enter Try.func40, Try.ntmps40
    go_wp2_with fail
    go_quiet (fail)
    go_wp2_with fail
    go_ret
    exact ⟨rfl, _, rfl⟩
end Go.Proofs.Ytfifbadepebpeaa

/- The reference's find: a pair among pairs in ascending order. -/
namespace Go.Proofs.Ytfifbadepebpeaa
open Go.RowKit

def idxP (l : List (Int × Int)) (q : Int × Int) : Int := match l.findIdx? (fun p => decide (p = q)) with | some k => k | none => -1

theorem idxP_at {l : List (Int × Int)} (hn : l.Nodup) (k : Nat) (hk : k < l.length) : idxP l l[k] = k := by
  unfold idxP
  have : l.findIdx? (fun p => decide (p = l[k])) = some k := by
    rw [List.findIdx?_eq_some_iff_getElem]
    refine ⟨hk, by simp, fun j hj => ?_⟩
    simp only [decide_eq_true_eq]
    intro e
    have := (List.getElem_inj hn).1 e
    omega
  rw [this]
theorem idxP_none {l : List (Int × Int)} {q : Int × Int} (h : q ∉ l) : idxP l q = -1 := by
  unfold idxP
  have : l.findIdx? (fun p => decide (p = q)) = none := by
    rw [List.findIdx?_eq_none_iff]
    intro p hp
    simp only [decide_eq_false_iff_not]
    intro e; subst e; exact h hp
  rw [this]

set_option maxRecDepth 100000 in
set_option maxHeartbeats 2000000 in
theorem find_any (w : World) (l : List (Int × Int)) (b off cap : Nat) (q : Int × Int) (hl : l.length ≤ 1000000000) (hs : l.Pairwise ltP) (hc : ∀ k (hk : k < l.length), w.cell? ⟨b, off + k * 6, none⟩ = some (.int .i64 l[k].1) ∧ w.cell? ⟨b, off + k * 6 + 1, none⟩ = some (.int .i64 l[k].2)) :
    Calls Try.prog 59 #[.slice (some ⟨b, off, none⟩) l.length cap, .int .i64 q.1, .int .i64 q.2] w fun e w' => e = .returned (.int .i64 (idxP l q)) ∧ w = w' := by
  have HC := Lib.hid hc
  have HS := Lib.hid hs
  have HN : Hid l.Nodup := hs.imp fun {a b} hab e => by subst e; exact ltP_irrefl _ hab
  clear hc hs
  go_enter Try.func59, Try.ntmps59
  go_wp2_with fail
  go_loop [7, 8, 9, 12, 13, 14, 15, 16, 17, 18, 19, 20, 21, 22, 23, 24, 25, 26, 27, 28, 29, 30, 31, 32, 33, 34, 35, 36, 37, 38, 39, 40, 41, 42, 43, 44, 45, 46] (fun a b _ _ _ _ _ _ _ _ _ _ _ _ _ _ _ _ _ _ _ _ _ _ _ _ _ _ _ _ _ _ _ _ _ _ _ _ => ∃ lo hi : Nat, lo ≤ hi ∧ hi ≤ l.length ∧ a = .int .i64 lo ∧ b = .int .i64 hi ∧ Hid (∀ k (hk : k < l.length), k < lo → ltP l[k] q) ∧ Hid (∀ k (hk : k < l.length), hi ≤ k → ¬ ltP l[k] q)) (fun a b _ _ _ _ _ _ _ _ _ _ _ _ _ _ _ _ _ _ _ _ _ _ _ _ _ _ _ _ _ _ _ _ _ _ _ _ => (intOf b).toNat - (intOf a).toNat)
  case atStart => exact ⟨0, l.length, Nat.zero_le _, Nat.le_refl _, rfl, rfl, fun k _ h => by omega, fun k h1 h2 => by omega⟩
  case round =>
    obtain ⟨lo, hi, h1, h2, rfl, rfl, A, B⟩ := hrel
    by_cases hlt : lo < hi
    · obtain ⟨k, hk⟩ : ∃ k : Nat, k = (lo + hi) / 2 := ⟨_, rfl⟩
      have hkl : k < l.length := by omega
      have hk1 : lo ≤ k ∧ k < hi := by omega
      have e1 : ((lo : Int) + (hi : Int)) / 2 = (k : Int) := by omega
      have e2 : ((lo : Int) + (hi : Int)).tdiv 2 = (k : Int) := by rw [Int.tdiv_eq_ediv_of_nonneg (by omega)]; exact e1
      obtain ⟨c0, c1⟩ := HC.out k hkl
      have AN : Hid (ltP l[k] q → ∀ j (hj : j < l.length), j < k + 1 → ltP l[j] q) := fun hh j hj hjk => by
        by_cases e : j = k
        · subst e; exact hh
        · exact ltP_trans (List.pairwise_iff_getElem.1 HS.out j k hj hkl (by omega)) hh
      have BN : Hid (¬ ltP l[k] q → ∀ j (hj : j < l.length), k ≤ j → ¬ ltP l[j] q) := fun hh j hj hjk hc => by
        by_cases e : j = k
        · subst e; exact hh hc
        · exact hh (ltP_trans (List.pairwise_iff_getElem.1 HS.out k j hkl hj (by omega)) hc)
      generalize l[k] = p at *
      have v1 : (0 : Int) ≤ (k : Int) := by omega
      have v2 : (k : Int) < (l.length : Int) := by omega
      have HK := Lib.hid hk
      clear hk
      by_cases t1 : p.1 < q.1
      · have AN' := Lib.hid (AN.out (.inl t1))
        go_wp2_with fail
        go_round
        case rel => exact ⟨k + 1, hi, by omega, h2, by go_num, rfl, AN'.out, B.out⟩
        case measure => simp [intOf]; omega
      · have g1 : decide (p.1 < q.1) = false := by simpa using t1
        by_cases t2 : p.1 = q.1
        · have g2 := ibeqT t2
          by_cases t3 : p.2 < q.2
          · have AN' := Lib.hid (AN.out (.inr ⟨t2, t3⟩))
            clear t2
            go_wp2_with fail
            go_round
            case rel => exact ⟨k + 1, hi, by omega, h2, by go_num, rfl, AN'.out, B.out⟩
            case measure => simp [intOf]; omega
          · have g3 : decide (p.2 < q.2) = false := by simpa using t3
            have BN' := Lib.hid (BN.out (fun hh => by rcases hh with hh | hh <;> omega))
            clear t2
            go_wp2_with fail
            go_round
            case rel => exact ⟨lo, k, by omega, by omega, rfl, rfl, A.out, BN'.out⟩
            case measure => simp [intOf]; omega
        · have g2 := ibeqF t2
          have BN' := Lib.hid (BN.out (fun hh => by rcases hh with hh | hh <;> omega))
          clear t2
          go_wp2_with fail
          go_round
          case rel => exact ⟨lo, k, by omega, by omega, rfl, rfl, A.out, BN'.out⟩
          case measure => simp [intOf]; omega
    · obtain rfl : lo = hi := by omega
      have NOT : Hid ((∀ h : lo < l.length, l[lo] ≠ q) → idxP l q = -1) := fun hh => idxP_none (fun hm => by
        obtain ⟨k, hk, e⟩ := List.mem_iff_getElem.1 hm
        rcases Nat.lt_trichotomy k lo with h3 | h3 | h3
        · have := A.out k hk h3; rw [e] at this; exact ltP_irrefl _ this
        · subst h3; exact hh hk e
        · have h4 := B.out lo (by omega) (Nat.le_refl _)
          have h5 := List.pairwise_iff_getElem.1 HS.out lo k (by omega) hk h3
          rw [e] at h5
          exact h4 h5)
      by_cases hlo : lo < l.length
      · obtain ⟨c0, c1⟩ := HC.out lo hlo
        have YES : Hid (l[lo] = q → idxP l q = lo) := fun e => by rw [← e]; exact idxP_at HN.out lo hlo
        have NOT' : Hid (l[lo] ≠ q → idxP l q = -1) := fun hn => NOT.out (fun _ => hn)
        have v1 : (0 : Int) ≤ (lo : Int) := by omega
        have v2 : (lo : Int) < (l.length : Int) := by omega
        generalize l[lo] = p at *
        by_cases t2 : p.1 = q.1
        · have g2 := ibeqT t2
          by_cases t3 : p.2 = q.2
          · have g3 := ibeqT t3
            have EQ : Hid (p = q) := Prod.ext t2 t3
            clear t2 t3
            go_wp2_with fail
            go_ret
            exact ⟨by rw [YES.out EQ.out]; rfl, rfl⟩
          · have g3 := ibeqF t3
            have EQ : Hid (p ≠ q) := fun e => t3 (by rw [e])
            clear t2 t3
            go_wp2_with fail
            go_ret
            exact ⟨by rw [NOT'.out EQ.out]; rfl, rfl⟩
        · have g2 := ibeqF t2
          have EQ : Hid (p ≠ q) := fun e => t2 (by rw [e])
          clear t2
          go_wp2_with fail
          go_ret
          exact ⟨by rw [NOT'.out EQ.out]; rfl, rfl⟩
      · have g0 : decide (lo < l.length) = false := by simpa using hlo
        go_wp2_with fail
        go_ret
        exact ⟨by rw [NOT.out (fun h => absurd h hlo)]; rfl, rfl⟩
end Go.Proofs.Ytfifbadepebpeaa
