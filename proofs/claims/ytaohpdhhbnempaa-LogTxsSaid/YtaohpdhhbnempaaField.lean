/- Contracts of package field: each function computes what Fd says. -/
import Derived.Test.YtaohpdhhbnempaaRem
import Derived.Test.YtaohpdhhbnempaaFd
import Derived.WalkSmall
namespace Go.Proofs.Ytaohpdhhbnempaa
open Go.RowKit Go.Lib Cfd
set_option linter.unusedVariables false

theorem mul64_hl (x y : Nat) (hx : x < 18446744073709551616) (hy : y < 18446744073709551616) (w : World) :
  Calls Try.prog 110 #[.int .u64 x, .int .u64 y] w fun e w' => e = .returned (.tuple #[.int .u64 (mh x y : Nat), .int .u64 (ml x y : Nat)]) ∧ w = w' := mul64_any x y hx hy w
