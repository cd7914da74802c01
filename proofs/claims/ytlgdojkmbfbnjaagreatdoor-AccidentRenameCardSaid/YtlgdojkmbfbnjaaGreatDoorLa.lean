/- The lexer, plainly: what a text is divided into. -/
import Derived.Test.YtlgdojkmbfbnjaaGreatDoorTyp
namespace Go.Proofs.YtlgdojkmbfbnjaaGreatDoor
open Go.RowKit

/-- A byte of a text. -/
def bt (s : ByteArray) (i : Nat) : Int := ((s.data.toList.getD i 0).toNat : Int)
def whiteI (c : Int) : Bool := c == 9 || c == 10 || c == 13 || c == 32
def allowedI (c : Int) : Bool := whiteI c || (decide (32 < c) && decide (c < 127))
def lowerI (c : Int) : Bool := decide (97 ≤ c) && decide (c ≤ 122)
def upperI (c : Int) : Bool := decide (65 ≤ c) && decide (c ≤ 90)
def digitI (c : Int) : Bool := decide (48 ≤ c) && decide (c ≤ 57)
def letterI (c : Int) : Bool := lowerI c || upperI c
def inWordI (c : Int) : Bool := letterI c || digitI c || decide (c = 95)
/-- How many bytes from a place on are such. -/
def runP (f : Int → Bool) (s : ByteArray) (i : Nat) : Nat := ((s.data.toList.drop i).takeWhile fun c => f (c.toNat : Int)).length
theorem runP_of {f : Int → Bool} {s : ByteArray} {i n : Nat} (hn : i + n ≤ s.size) (h1 : ∀ k, k < n → f (bt s (i + k)) = true) (h2 : i + n < s.size → f (bt s (i + n)) = false) : runP f s i = n := by
  unfold runP
  obtain ⟨⟨l⟩⟩ := s
  have hs : (ByteArray.mk ⟨l⟩).size = l.length := rfl
  rw [hs] at hn h2
  unfold bt at h1 h2
  dsimp only at h1 h2 ⊢
  induction n generalizing i with
  | zero =>
    cases hd : l.drop i with
    | nil => rfl
    | cons c r =>
      have hi : i < l.length := by
        rcases Nat.lt_or_ge i l.length with h | h
        · exact h
        · rw [List.drop_eq_nil_of_le h] at hd; cases hd
      have hc : l.getD i 0 = c := by
        have := List.drop_eq_getElem_cons hi
        rw [hd] at this
        simp only [List.cons.injEq] at this
        rw [List.getD_eq_getElem?_getD, List.getElem?_eq_getElem hi, this.1]; rfl
      have := h2 (by omega)
      rw [Nat.add_zero, hc] at this
      rw [List.takeWhile_cons, this]
      rfl
  | succ n ih =>
    have hi : i < l.length := by omega
    rw [List.drop_eq_getElem_cons hi, List.takeWhile_cons]
    have hc : l.getD i 0 = l[i] := by rw [List.getD_eq_getElem?_getD, List.getElem?_eq_getElem hi]; rfl
    have h0 := h1 0 (by omega)
    rw [Nat.add_zero, hc] at h0
    rw [h0]
    have := ih (i := i + 1) (by omega) (fun k hk => by
      have e : i + 1 + k = i + (k + 1) := by omega
      rw [e]; exact h1 (k + 1) (by omega)) (fun hk => by
      have e : i + 1 + n = i + (n + 1) := by omega
      rw [e]; exact h2 (by omega))
    simp only [if_true, List.length_cons, this]
theorem bt_get {s : ByteArray} {i : Nat} (h : i < s.size) : ((s[i]'h).toNat : Int) = bt s i := by
  obtain ⟨⟨l⟩⟩ := s
  have hl : i < l.length := h
  unfold bt
  dsimp only
  rw [List.getD_eq_getElem?_getD, List.getElem?_eq_getElem hl]
  rfl
theorem bt_bd (s : ByteArray) (i : Nat) : 0 ≤ bt s i ∧ bt s i < 256 := by
  unfold bt
  have := (s.data.toList.getD i 0).toNat_lt
  omega
end Go.Proofs.YtlgdojkmbfbnjaaGreatDoor
