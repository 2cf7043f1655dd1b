/- Contracts of package point, which make memory: Add, Neg, Sub, Scale, Base. -/
import Derived.Test.YtgekiddgdjeaiaaPoint
namespace Go.Proofs.Ytgekiddgdjeaiaa
open Go.RowKit Go.Lib Cfd Cpd Ckp
set_option linter.unusedVariables false

theorem pscale_any (a k : Nat) (ha : a < 18446744073709551616) (w : World) : Calls Try.prog 26 #[.int .u64 a, .int .u64 k] w fun e w' => e = .returned (.int .u64 (pscale a k : Nat)) ∧ ∃ k, w' = w.drewN k := by
 have ht := taken_lt a
 have hf := fof_lt k
 have e1 : (k : Int) % 2305843009213688669 = (fof k : Nat) := (Int.natCast_emod _ _).symm
 go_enter Try.func26, Try.ntmps26
 go_wp2_with (first | (go_at_call 50; refine (ptaken_any _ ha _).mono ?_; rintro e w' ⟨rfl, n, rfl⟩) | (go_at_call 49; refine (power_any _ _ (by omega) (by omega) _).mono ?_; rintro e w' ⟨rfl, n, rfl⟩))
 go_ret
 exact ⟨rfl, _, rfl⟩
theorem pscale_4 (k : Nat) (w : World) : Calls Try.prog 26 #[.int .u64 4, .int .u64 k] w fun e w' => e = .returned (.int .u64 (pbase k : Nat)) ∧ ∃ k, w' = w.drewN k := pscale_any 4 k (by decide) w
theorem pbase_any (k : Nat) (w : World) : Calls Try.prog 11 #[.int .u64 k] w fun e w' => e = .returned (.int .u64 (pbase k : Nat)) ∧ ∃ k, w' = w.drewN k := by
 go_enter Try.func11, Try.ntmps11
 go_wp2_with (go_at_call 26; refine (pscale_4 _ _).mono ?_; rintro e w' ⟨rfl, n, rfl⟩)
 go_ret
 exact ⟨rfl, _, rfl⟩
end Go.Proofs.Ytgekiddgdjeaiaa
