/- Contracts of package point, which make memory: Add, Neg, Sub, Scale, Base. -/
import Derived.Test.YtgekiddgdjeaiaaGreatPoint
namespace Go.Proofs.YtgekiddgdjeaiaaGreat
open Go.RowKit Go.Lib Cfd Cpd Ckp
set_option linter.unusedVariables false

theorem anq (a k : Nat) (ha : a < 18446744073709551616) (w : World) : Calls Tryz.prog 69 #[.int .u64 a, .int .u64 k] w fun e w' => e = .returned (.int .u64 (mi a k : Nat)) ∧ ∃ k, w' = w.drewN k := by
 have ht := ab2 a
 have hf := avz k
 have e1 : (k : Int) % 2305843009213688669 = (fof k : Nat) := (Int.natCast_emod _ _).symm
 go_enter Tryz.func69, Tryz.ntmps69
 go_wp2_with (first | (go_at_call 101; refine (a0h _ ha _).mono ?_; rintro e w' ⟨rfl, n, rfl⟩) | (go_at_call 100; refine (aq4 _ _ (by omega) (by omega) _).mono ?_; rintro e w' ⟨rfl, n, rfl⟩))
 go_ret
 exact ⟨rfl, _, rfl⟩
theorem bb8 (k : Nat) (w : World) : Calls Tryz.prog 69 #[.int .u64 4, .int .u64 k] w fun e w' => e = .returned (.int .u64 (jl k : Nat)) ∧ ∃ k, w' = w.drewN k := anq 4 k (by decide) w
theorem a6j (k : Nat) (w : World) : Calls Tryz.prog 31 #[.int .u64 k] w fun e w' => e = .returned (.int .u64 (jl k : Nat)) ∧ ∃ k, w' = w.drewN k := by
 go_enter Tryz.func31, Tryz.ntmps31
 go_wp2_with (go_at_call 69; refine (bb8 _ _).mono ?_; rintro e w' ⟨rfl, n, rfl⟩)
 go_ret
 exact ⟨rfl, _, rfl⟩
end Go.Proofs.YtgekiddgdjeaiaaGreat
