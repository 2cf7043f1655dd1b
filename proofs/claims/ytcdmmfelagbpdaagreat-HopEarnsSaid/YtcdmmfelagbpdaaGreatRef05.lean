/- Contracts of the reference of layer 5: it computes what Fd says. -/
import Derived.Test.YtcdmmfelagbpdaaGreatFrom
namespace Go.Proofs.YtcdmmfelagbpdaaGreat
open Go.RowKit Go.Lib Cfd Ckp
set_option linter.unusedVariables false

theorem bit_of (n i : Nat) (hn : n < 18446744073709551616) : bits .and .u64 ((n : Int) / 2 ^ i) 1 = ((n / 2 ^ i % 2 : Nat) : Int) := by
 have e : (n : Int) / 2 ^ i = ((n / 2 ^ i : Nat) : Int) := by rw [Int.natCast_ediv, Int.natCast_pow]; rfl
 have hl : n / 2 ^ i ≤ n := Nat.div_le_self _ _
 rw [e, and_one_u64 _ (Int.natCast_nonneg _) (by omega)]
 omega