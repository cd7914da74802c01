/- The element types of the slices that are made. -/
import Derived.Test.YtlgdojkmbfbnjaaGreatDoorTyp
namespace Go.Proofs.YtlgdojkmbfbnjaaGreatDoor
open Go.RowKit

theorem el_ints : ElemT Tryz.prog 40 3 1 8 [.int .i64 0] :=
  .mk' (zv := .int .i64 0) Tryz.underlying40 (by kernel_rfl) rfl rfl (by decide) (by decide)
theorem el_rows : ElemT Tryz.prog 63 40 1 24 [.slice none 0 0] :=
  .mk' (zv := .slice none 0 0) Tryz.underlying63 (by kernel_rfl) rfl rfl (by decide) (by decide)
theorem el_trees : ElemT Tryz.prog 28 30 4 72 [.int .i64 0, .string ⟨#[]⟩, .slice none 0 0, .slice none 0 0] :=
  .mk' (zv := .agg #[.int .i64 0, .string ⟨#[]⟩, .slice none 0 0, .slice none 0 0]) Tryz.underlying28 (by kernel_rfl) rfl rfl (by decide) (by decide)
/-- One more block does not change. -/
def Hp.add (h : Hp) (g : Nat) (c : Array Value) : Hp := fun b => if b = g then some c else h b
theorem Hp.le_add {h : Hp} {g : Nat} (c : Array Value) (hg : h g = none) : h.le (h.add g c) := fun b x hb => by
  unfold Hp.add; split
  · rename_i e; subst e; rw [hg] at hb; cases hb
  · exact hb
theorem Imm.add {h : Hp} {w : World} {g : Nat} {c : Array Value} (hi : Imm h w) (hc : blk w g = some c) : Imm (h.add g c) w := fun b x hb => by
  unfold Hp.add at hb; split at hb
  · rename_i e; subst e; simp only [Option.some.injEq] at hb; subst hb; exact hc
  · exact hi b x hb

/-- A row of integers that is given up alone. -/
theorem Ow.giveUp {w : World} {h : Hp} {B : Nat} {e : TypeId} {k : Nat} {v : Value} {n : Nat} {xs : List Value} (o : Ow w h B e k v n xs) (hi : Imm h w) (hn : n ≤ 140737488355328) :
    ∃ h', Imm h' w ∧ h.le h' ∧ (∀ b, (∀ g, v.ownBlock = some g → b ≠ g) → h' b = h b) ∧ Sl h' v n k xs := by
  have hf := o.free
  rcases o.row with ⟨h1, ⟨rfl, rfl⟩ | ⟨g', cap, cur, rfl, hb, hh, hnc, hcm, hcs, htake⟩⟩
  · exact ⟨h, hi, Hp.le_refl _, fun _ _ => rfl, ⟨_, _, rfl, hn, h1, .inl rfl⟩⟩
  · refine ⟨h.add g' cur, hi.add (by simp [blk, hh]), Hp.le_add _ (hf g' rfl), fun b hb => ?_, ⟨_, _, rfl, hn, h1, .inr ⟨g', 0, cur, rfl, ?_, ?_⟩⟩⟩
    · unfold Hp.add; rw [if_neg (hb g' rfl)]
    · unfold Hp.add; rw [if_pos rfl]
    · intro i hi
      rw [← htake, List.getElem?_take, if_pos hi, Nat.zero_add]
      simp
end Go.Proofs.YtlgdojkmbfbnjaaGreatDoor
