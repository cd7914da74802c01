/- The function of the statement returns true, for whatever arguments. -/
import Derived.Test.YtlgdojkmbfbnjaaGreatDoorOk
import Derived.Test.YtlgdojkmbfbnjaaGreatDoorTk
import Derived.Test.YtlgdojkmbfbnjaaGreatDoorGB
namespace Go.Proofs.YtlgdojkmbfbnjaaGreatDoor
open Go.RowKit
set_option maxRecDepth 10000
theorem TTo : Kt TT := ((((((((((((((((((((((((((((((((((((((((((((((((((((((((((((((((((((((((((((((((((((((((K0.c (b30o.at 0 rfl)).c (b31o.at 0 rfl)).c (b41o.at 0 rfl)).c (b30o.at 1 rfl)).c (b31o.at 1 rfl)).c (b33o.at 0 rfl)).c (b33o.at 1 rfl)).c (b90o.at 0 rfl)).c (b104o.at 0 rfl)).c (b105o.at 0 rfl)).c (b30o.at 2 rfl)).c (b32o.at 0 rfl)).c (b41o.at 1 rfl)).c (b33o.at 2 rfl)).c (b33o.at 3 rfl)).c (b105o.at 1 rfl)).c (b105o.at 2 rfl)).c (b108o.at 0 rfl)).c (b33o.at 4 rfl)).c (b33o.at 5 rfl)).c (b91o.at 0 rfl)).c (b104o.at 1 rfl)).c (b105o.at 3 rfl)).c (b33o.at 6 rfl)).c (b33o.at 7 rfl)).c (b92o.at 0 rfl)).c (b104o.at 2 rfl)).c (b105o.at 4 rfl)).c (b33o.at 8 rfl)).c (b33o.at 9 rfl)).c (b93o.at 0 rfl)).c (b104o.at 3 rfl)).c (b105o.at 5 rfl)).c (b33o.at 10 rfl)).c (b33o.at 11 rfl)).c (b94o.at 0 rfl)).c (b104o.at 4 rfl)).c (b106o.at 0 rfl)).c (b33o.at 12 rfl)).c (b33o.at 13 rfl)).c (b95o.at 0 rfl)).c (b104o.at 5 rfl)).c (b106o.at 1 rfl)).c (b33o.at 14 rfl)).c (b33o.at 15 rfl)).c (b96o.at 0 rfl)).c (b104o.at 6 rfl)).c (b106o.at 2 rfl)).c (b33o.at 16 rfl)).c (b33o.at 17 rfl)).c (b97o.at 0 rfl)).c (b104o.at 7 rfl)).c (b106o.at 3 rfl)).c (b33o.at 18 rfl)).c (b33o.at 19 rfl)).c (b98o.at 0 rfl)).c (b104o.at 8 rfl)).c (b106o.at 4 rfl)).c (b33o.at 20 rfl)).c (b33o.at 21 rfl)).c (b99o.at 0 rfl)).c (b104o.at 9 rfl)).c (b106o.at 5 rfl)).c (b33o.at 22 rfl)).c (b33o.at 23 rfl)).c (b89o.at 0 rfl)).c (b104o.at 10 rfl)).c (b106o.at 6 rfl)).c (b33o.at 24 rfl)).c (b33o.at 25 rfl)).c (b100o.at 0 rfl)).c (b104o.at 11 rfl)).c (b106o.at 7 rfl)).c (b33o.at 26 rfl)).c (b33o.at 27 rfl)).c (b101o.at 0 rfl)).c (b104o.at 12 rfl)).c (b106o.at 8 rfl)).c (b33o.at 28 rfl)).c (b33o.at 29 rfl)).c (b102o.at 0 rfl)).c (b104o.at 13 rfl)).c (b106o.at 9 rfl)).c (b33o.at 30 rfl)).c (b33o.at 31 rfl)).c (b103o.at 0 rfl)).c (b104o.at 14 rfl)).c (b107o.at 0 rfl))
/-- The statement's function returns true. -/
theorem acc_ok (n m : Int) : ∀ b : Bool, CallP Go.Proofs.Tryz.prog 3 [.vl (.int .i64 n), .vl (.int .i64 m), .vl (.bool b)] (· = .vl (.bool true))
  | true => top_ok TTo (congrFun (congrFun ttk n) m)
  | false => top_ok TTo (congrFun (congrFun tfk n) m)
end Go.Proofs.YtlgdojkmbfbnjaaGreatDoor
