/- '==' and '!=' of two arrays of two integers. -/
import Derived.Test.YtfifbadepebpeaaMem
namespace Go.Proofs.Ytfifbadepebpeaa
open Go.RowKit

theorem run_equalIn_pair (w : World) (a b c d : Int) :
    (Op.equalIn 10000 52 (.agg #[.int .i64 a, .int .i64 b]) (.agg #[.int .i64 c, .int .i64 d])).run Try.prog w = .ok ((a == c) && (b == d)) w := by
  have hs : ∀ w, (sizeOf 3).run Try.prog w = .ok 1 w := fun _ => by kernel_rfl
  have p0 : ∀ (x y : Value) w, (part 3 #[x, y] 0).run Try.prog w = .ok x w := fun _ _ _ => by kernel_rfl
  have p1 : ∀ (x y : Value) w, (part 3 #[x, y] 1).run Try.prog w = .ok y w := fun _ _ _ => by kernel_rfl
  have he : ∀ (x y : Int) w, (Op.equalIn 9999 3 (.int .i64 x) (.int .i64 y)).run Try.prog w = .ok (x == y) w := fun x y w => run_equalIn_int w 9998 3 .i64 .i64 x y Try.underlying3
  rw [show (10000 : Nat) = 9999 + 1 from rfl, Op.equalIn]
  simp only [Sem.run_bind, run_underlying Try.underlying52, Result.andThen_ok, hs]
  rw [Std.Legacy.Range.forIn_eq_forIn_range']
  simp only [Std.Legacy.Range.size, Nat.sub_zero, Nat.add_sub_cancel, Nat.div_one, List.range', List.forIn_cons, List.forIn_nil, Sem.run_bind, p0, Nat.zero_add, Nat.mul_one, Result.andThen_ok, he]
  cases h1 : a == c <;> cases h2 : b == d <;> simp [Sem.run_bind, p1, he, h2, Sem.run_pure, Result.andThen]
attribute [go_sem] run_equalIn_pair
end Go.Proofs.Ytfifbadepebpeaa
