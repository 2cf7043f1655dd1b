/- Contracts of package field: each function computes what Fd says. -/
import Derived.Test.YtcdmmfelagbpdaaGreatRem
import Derived.Test.YtcdmmfelagbpdaaGreatFd
import Derived.WalkSmall
namespace Go.Proofs.YtcdmmfelagbpdaaGreat
open Go.RowKit Go.Lib Cfd
set_option linter.unusedVariables false

theorem mul64_hl (x y : Nat) (hx : x < 18446744073709551616) (hy : y < 18446744073709551616) (w : World) :
  Calls Tryz.prog 82 #[.int .u64 x, .int .u64 y] w fun e w' => e = .returned (.tuple #[.int .u64 (mh x y : Nat), .int .u64 (ml x y : Nat)]) ∧ w = w' := mul64_any x y hx hy w

theorem of_any (a : Nat) (w : World) : Calls Tryz.prog 93 #[.int .u64 a] w fun e w' => e = .returned (.int .u64 (fof a : Nat)) ∧ w = w' := by
 have e1 : (a : Int) % 2305843009213688669 = (fof a : Nat) := (Int.natCast_emod _ _).symm
 go_enter Tryz.func93, Tryz.ntmps93
 go_wp2
 go_ret
 exact ⟨rfl, rfl⟩

theorem plus_any (a b : Nat) (ha : a < 9223372036854775808) (hb : b < 9223372036854775808) (w : World) :
  Calls Tryz.prog 94 #[.int .u64 a, .int .u64 b] w fun e w' => e = .returned (.int .u64 (fadd a b : Nat)) ∧ w = w' := by
 have e1 : ((a : Int) + (b : Int)) % 2305843009213688669 = (fadd a b : Nat) := by unfold fadd; omega
 go_enter Tryz.func94, Tryz.ntmps94
 go_wp2
 go_ret
 exact ⟨rfl, rfl⟩

theorem add_any (a b : Nat) (w : World) : Calls Tryz.prog 73 #[.int .u64 a, .int .u64 b] w fun e w' => e = .returned (.int .u64 (fadd a b : Nat)) ∧ w = w' := by
 have hl := fof_lt a
 have hm := fof_lt b
 have e1 := fof_add a b
 have hf := fadd_lt a b
 go_enter Tryz.func73, Tryz.ntmps73
 go_wp2_with (first | (go_at_call 93; refine (of_any _ _).mono ?_; rintro e w' ⟨rfl, rfl⟩) | (go_at_call 94; refine (plus_any _ _ (by omega) (by omega) _).mono ?_; rintro e w' ⟨rfl, rfl⟩))
 go_ret
 exact ⟨rfl, rfl⟩
