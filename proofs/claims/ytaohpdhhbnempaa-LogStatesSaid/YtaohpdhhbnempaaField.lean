/- Contracts of package field: each function computes what Fd says. -/
import Derived.Test.YtaohpdhhbnempaaRem
import Derived.Test.YtaohpdhhbnempaaFd
import Derived.WalkSmall
namespace Go.Proofs.Ytaohpdhhbnempaa
open Go.RowKit Go.Lib Cfd
set_option linter.unusedVariables false

theorem mul64_hl (x y : Nat) (hx : x < 18446744073709551616) (hy : y < 18446744073709551616) (w : World) :
  Calls Try.prog 110 #[.int .u64 x, .int .u64 y] w fun e w' => e = .returned (.tuple #[.int .u64 (mh x y : Nat), .int .u64 (ml x y : Nat)]) ∧ w = w' := mul64_any x y hx hy w

theorem rem_mul_q (a b : Nat) (ha : a < 18446744073709551616) (hb : b < 18446744073709551616) (w : World) :
  Calls Try.prog 111 #[.int .u64 (mh a b : Nat), .int .u64 (ml a b : Nat), .int .u64 2305843009213688669] w fun e w' => e = .returned (.int .u64 (fmul a b : Nat)) ∧ ∃ n, w' = w.drewN n :=
 rem64_q _ _ _ (mh_lt a b ha hb) (ml_lt a b) (mhl a b) w
