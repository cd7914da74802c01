/- The example of the chapter, reckoned. -/
import Derived.Test.YtfifbadepebpeaaAw
import Derived.Test.YtfifbadepebpeaaSp
namespace Go.Proofs.Ytfifbadepebpeaa
open Go.RowKit

def exA : Tree := callT [numT ⟨#[49]⟩, numT ⟨#[50]⟩]
def exB : Tree := callT [numT ⟨#[50]⟩]
def ex1 : MatchP := matchM (flatP exA) (flatP exB) 100
def ex0 : MatchP := matchM (flatP exA) (flatP exB) 0
def exL : List (Int × Int) := [(0, 0), (1, 1), (2, 2), (3, 1), (4, 2)]

theorem ex_small : exA.size ≤ 262144 ∧ exB.size ≤ 262144 := by decide +kernel
theorem ex_cmp : cmpB (flatP exA) (flatP exB) 100 = some [(0, 0), (1, 1), (3, 1), (2, 2), (4, 2)] := by decide +kernel
theorem ex_cmp5 : cmpB (flatP exA) (flatP exB) 5 = some [(0, 0), (1, 1), (3, 1), (2, 2), (4, 2)] := by decide +kernel
theorem ex_sort : sortP [(0, 0), (1, 1), (3, 1), (2, 2), (4, 2)] = exL := sortP_eq (by decide) (by decide)
theorem ex_least : leastP (flatP exA) (flatP exB) exL = [(0, 0), (3, 1), (4, 2)] := by decide +kernel
theorem ex_sort2 : sortP [(0, 0), (3, 1), (4, 2)] = [(0, 0), (3, 1), (4, 2)] := sortP_eq (by decide) (by decide)
theorem ex_kind : (nd (flatP exA) 0).kind = (nd (flatP exB) 0).kind := by decide +kernel
theorem ex_narrow : narrowB (flatP exA) = true ∧ narrowB (flatP exB) = true := by decide +kernel
theorem ex_cost : ((buildP (flatP exA) (flatP exB) exL).getD 0 default).cost = 2 := by decide +kernel
theorem ex1_eq : ex1 = { pairs := [(0, 0), (3, 1), (4, 2)], cost := 2, proven := true, bound := 2, proof := buildP (flatP exA) (flatP exB) exL } := by
  unfold ex1 matchM
  rw [if_pos ex_kind, if_pos ex_narrow, ex_cmp]
  simp only
  rw [ex_sort]
  unfold leastM
  rw [ex_least, ex_sort2, ex_cost]
theorem ex_pos : posP (flatP exA) (flatP exB) = [(0, 0), (1, 1), (2, 2)] := by decide +kernel
theorem ex_sort3 : sortP [(0, 0), (1, 1), (2, 2)] = [(0, 0), (1, 1), (2, 2)] := sortP_eq (by decide) (by decide)
theorem ex_price : priceP (flatP exA) (flatP exB) [(0, 0), (1, 1), (2, 2)] = some 3 := by decide +kernel
theorem ex_price1 : priceP (flatP exA) (flatP exB) [(0, 0), (3, 1), (4, 2)] = some 2 := by decide +kernel
theorem ex0_facts : ex0.proven = false ∧ ex0.cost = 3 := by
  have : cmpB (flatP exA) (flatP exB) 0 = none := by decide +kernel
  unfold ex0 matchM
  rw [if_pos ex_kind, if_pos ex_narrow, this]
  simp only
  unfold posM
  rw [ex_pos, ex_sort3, ex_price]
  exact ⟨rfl, rfl⟩
theorem ex_ent : ∀ e ∈ buildP (flatP exA) (flatP exB) exL, EntV (flatP exA) (flatP exB) (dget (buildP (flatP exA) (flatP exB) exL)) e := by decide +kernel
theorem ex1_verify : verifyP (flatP exA) (flatP exB) ex1 := by
  rw [ex1_eq]
  refine ⟨ex_price1, by decide, fun _ => ⟨rfl, ?_⟩⟩
  rw [if_pos ex_kind]
  refine ⟨?_, ex_ent, ex_cost⟩
  have : ((buildP (flatP exA) (flatP exB) exL).length : Int) = 5 := by rw [build_length]; rfl
  simp only [this]
  rw [ex_cmp5, Option.map_some, ex_sort]
  exact congrArg some (build_keys _ _ _).symm
end Go.Proofs.Ytfifbadepebpeaa
