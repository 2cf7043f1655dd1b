/- Contracts of package field: each function computes what Fd says. -/
import Derived.Test.YtheihhjlkefhgaaDoorRem
import Derived.Test.YtheihhjlkefhgaaDoorFd
import Derived.WalkSmall
namespace Go.Proofs.YtheihhjlkefhgaaDoor
open Go.RowKit Go.Lib Cfd
set_option linter.unusedVariables false

theorem mul64_hl (x y : Nat) (hx : x < 18446744073709551616) (hy : y < 18446744073709551616) (w : World) :
  Calls Tryd.prog 47 #[.int .u64 x, .int .u64 y] w fun e w' => e = .returned (.tuple #[.int .u64 (mh x y : Nat), .int .u64 (ml x y : Nat)]) ∧ w = w' := mul64_any x y hx hy w

theorem rem_mul_q (a b : Nat) (ha : a < 18446744073709551616) (hb : b < 18446744073709551616) (w : World) :
  Calls Tryd.prog 28 #[.int .u64 (mh a b : Nat), .int .u64 (ml a b : Nat), .int .u64 2305843009213688669] w fun e w' => e = .returned (.int .u64 (fmul a b : Nat)) ∧ ∃ n, w' = w.drewN n :=
 rem64_q _ _ _ (mh_lt a b ha hb) (ml_lt a b) (mhl a b) w

theorem of_any (a : Nat) (w : World) : Calls Tryd.prog 34 #[.int .u64 a] w fun e w' => e = .returned (.int .u64 (fof a : Nat)) ∧ w = w' := by
 have e1 : (a : Int) % 2305843009213688669 = (fof a : Nat) := (Int.natCast_emod _ _).symm
 go_enter Tryd.func34, Tryd.ntmps34
 go_wp2
 go_ret
 exact ⟨rfl, rfl⟩

theorem times_any (a b : Nat) (ha : a < 18446744073709551616) (hb : b < 18446744073709551616) (w : World) :
  Calls Tryd.prog 36 #[.int .u64 a, .int .u64 b] w fun e w' => e = .returned (.int .u64 (fmul a b : Nat)) ∧ ∃ n, w' = w.drewN n := by
 have hl := fmul_lt a b
 go_enter Tryd.func36, Tryd.ntmps36
 go_wp2_with (first | (go_at_call 47; refine (mul64_hl _ _ ha hb _).mono ?_; rintro e w' ⟨rfl, rfl⟩) | (go_at_call 28; refine (rem_mul_q _ _ ha hb _).mono ?_; rintro e w' ⟨rfl, n, rfl⟩))
 go_ret
 exact ⟨rfl, _, rfl⟩

theorem plus_any (a b : Nat) (ha : a < 9223372036854775808) (hb : b < 9223372036854775808) (w : World) :
  Calls Tryd.prog 35 #[.int .u64 a, .int .u64 b] w fun e w' => e = .returned (.int .u64 (fadd a b : Nat)) ∧ w = w' := by
 have e1 : ((a : Int) + (b : Int)) % 2305843009213688669 = (fadd a b : Nat) := by unfold fadd; omega
 go_enter Tryd.func35, Tryd.ntmps35
 go_wp2
 go_ret
 exact ⟨rfl, rfl⟩

theorem add_any (a b : Nat) (w : World) : Calls Tryd.prog 24 #[.int .u64 a, .int .u64 b] w fun e w' => e = .returned (.int .u64 (fadd a b : Nat)) ∧ w = w' := by
 have hl := fof_lt a
 have hm := fof_lt b
 have e1 := fof_add a b
 have hf := fadd_lt a b
 go_enter Tryd.func24, Tryd.ntmps24
 go_wp2_with (first | (go_at_call 34; refine (of_any _ _).mono ?_; rintro e w' ⟨rfl, rfl⟩) | (go_at_call 35; refine (plus_any _ _ (by omega) (by omega) _).mono ?_; rintro e w' ⟨rfl, rfl⟩))
 go_ret
 exact ⟨rfl, rfl⟩

theorem mul_any (a b : Nat) (w : World) : Calls Tryd.prog 25 #[.int .u64 a, .int .u64 b] w fun e w' => e = .returned (.int .u64 (fmul a b : Nat)) ∧ ∃ n, w' = w.drewN n := by
 have hl := fof_lt a
 have hm := fof_lt b
 have e1 := fof_mul a b
 have hf := fmul_lt a b
 go_enter Tryd.func25, Tryd.ntmps25
 go_wp2_with (first | (go_at_call 34; refine (of_any _ _).mono ?_; rintro e w' ⟨rfl, rfl⟩) | (go_at_call 36; refine (times_any _ _ (by omega) (by omega) _).mono ?_; rintro e w' ⟨rfl, n, rfl⟩))
 go_ret
 exact ⟨rfl, _, rfl⟩
