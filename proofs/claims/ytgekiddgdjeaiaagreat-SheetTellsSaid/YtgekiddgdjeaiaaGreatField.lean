/- Contracts of package field: each function computes what Fd says. -/
import Derived.Test.YtgekiddgdjeaiaaGreatRem
import Derived.Test.YtgekiddgdjeaiaaGreatFd
import Derived.WalkSmall
namespace Go.Proofs.YtgekiddgdjeaiaaGreat
open Go.RowKit Go.Lib Cfd
set_option linter.unusedVariables false

theorem bbp (x y : Nat) (hx : x < 18446744073709551616) (hy : y < 18446744073709551616) (w : World) :
  Calls Tryz.prog 122 #[.int .u64 x, .int .u64 y] w fun e w' => e = .returned (.tuple #[.int .u64 (mh x y : Nat), .int .u64 (ml x y : Nat)]) ∧ w = w' := a5k x y hx hy w
