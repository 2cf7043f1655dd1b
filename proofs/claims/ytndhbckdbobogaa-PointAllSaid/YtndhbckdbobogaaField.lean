/- Contracts of package field: each function computes what Fd says. -/
import Derived.Test.YtndhbckdbobogaaRem
import Derived.Test.YtndhbckdbobogaaFd
import Derived.WalkSmall
namespace Go.Proofs.Ytndhbckdbobogaa
open Go.RowKit Go.Lib Cfd
set_option linter.unusedVariables false

theorem mul64_hl (x y : Nat) (hx : x < 18446744073709551616) (hy : y < 18446744073709551616) (w : World) :
    Calls Try.prog 58 #[.int .u64 x, .int .u64 y] w fun e w' => e = .returned (.tuple #[.int .u64 (mh x y : Nat), .int .u64 (ml x y : Nat)]) ∧ w = w' := mul64_any x y hx hy w

theorem rem_mul_q (a b : Nat) (ha : a < 18446744073709551616) (hb : b < 18446744073709551616) (w : World) :
    Calls Try.prog 51 #[.int .u64 (mh a b : Nat), .int .u64 (ml a b : Nat), .int .u64 2305843009213688669] w fun e w' => e = .returned (.int .u64 (fmul a b : Nat)) ∧ ∃ n, w' = w.drewN n :=
  rem64_q _ _ _ (mh_lt a b ha hb) (ml_lt a b) (mhl a b) w

theorem of_any (a : Nat) (w : World) : Calls Try.prog 47 #[.int .u64 a] w fun e w' => e = .returned (.int .u64 (fof a : Nat)) ∧ w = w' := by
  have e1 : (a : Int) % 2305843009213688669 = (fof a : Nat) := (Int.natCast_emod _ _).symm
  go_enter Try.func47, Try.ntmps47
  go_wp2
  go_ret
  exact ⟨rfl, rfl⟩

theorem times_any (a b : Nat) (ha : a < 18446744073709551616) (hb : b < 18446744073709551616) (w : World) :
    Calls Try.prog 50 #[.int .u64 a, .int .u64 b] w fun e w' => e = .returned (.int .u64 (fmul a b : Nat)) ∧ ∃ n, w' = w.drewN n := by
  have hl := fmul_lt a b
  go_enter Try.func50, Try.ntmps50
  go_wp2_with (first | (go_at_call 58; refine (mul64_hl _ _ ha hb _).mono ?_; rintro e w' ⟨rfl, rfl⟩) | (go_at_call 51; refine (rem_mul_q _ _ ha hb _).mono ?_; rintro e w' ⟨rfl, n, rfl⟩))
  go_ret
  exact ⟨rfl, _, rfl⟩

theorem plus_any (a b : Nat) (ha : a < 9223372036854775808) (hb : b < 9223372036854775808) (w : World) :
    Calls Try.prog 49 #[.int .u64 a, .int .u64 b] w fun e w' => e = .returned (.int .u64 (fadd a b : Nat)) ∧ w = w' := by
  have e1 : ((a : Int) + (b : Int)) % 2305843009213688669 = (fadd a b : Nat) := by unfold fadd; omega
  go_enter Try.func49, Try.ntmps49
  go_wp2
  go_ret
  exact ⟨rfl, rfl⟩

theorem right_any (a : Nat) (w : World) : Calls Try.prog 18 #[.int .u64 a] w fun e w' => e = .returned (.bool (fright a)) ∧ w = w' := by
  have e1 : decide ((a : Int) < 2305843009213688669) = fright a := by unfold fright; simp only [decide_eq_decide]; omega
  go_enter Try.func18, Try.ntmps18
  go_wp2
  go_ret
  exact ⟨rfl, rfl⟩

theorem neg_any (a : Nat) (w : World) : Calls Try.prog 26 #[.int .u64 a] w fun e w' => e = .returned (.int .u64 (fneg a : Nat)) ∧ w = w' := by
  have hl := fof_lt a
  have e1 : (2305843009213688669 - (fof a : Int)) % 2305843009213688669 = (fneg a : Nat) := by unfold fneg fof; omega
  go_enter Try.func26, Try.ntmps26
  go_wp2_with (go_at_call 47; refine (of_any _ _).mono ?_; rintro e w' ⟨rfl, rfl⟩)
  go_ret
  exact ⟨ret_int e1, rfl⟩

theorem add_any (a b : Nat) (w : World) : Calls Try.prog 20 #[.int .u64 a, .int .u64 b] w fun e w' => e = .returned (.int .u64 (fadd a b : Nat)) ∧ w = w' := by
  have hl := fof_lt a
  have hm := fof_lt b
  have e1 := fof_add a b
  have hf := fadd_lt a b
  go_enter Try.func20, Try.ntmps20
  go_wp2_with (first | (go_at_call 47; refine (of_any _ _).mono ?_; rintro e w' ⟨rfl, rfl⟩) | (go_at_call 49; refine (plus_any _ _ (by omega) (by omega) _).mono ?_; rintro e w' ⟨rfl, rfl⟩))
  go_ret
  exact ⟨rfl, rfl⟩

theorem mul_any (a b : Nat) (w : World) : Calls Try.prog 24 #[.int .u64 a, .int .u64 b] w fun e w' => e = .returned (.int .u64 (fmul a b : Nat)) ∧ ∃ n, w' = w.drewN n := by
  have hl := fof_lt a
  have hm := fof_lt b
  have e1 := fof_mul a b
  have hf := fmul_lt a b
  go_enter Try.func24, Try.ntmps24
  go_wp2_with (first | (go_at_call 47; refine (of_any _ _).mono ?_; rintro e w' ⟨rfl, rfl⟩) | (go_at_call 50; refine (times_any _ _ (by omega) (by omega) _).mono ?_; rintro e w' ⟨rfl, n, rfl⟩))
  go_ret
  exact ⟨rfl, _, rfl⟩

theorem sub_any (a b : Nat) (w : World) : Calls Try.prog 22 #[.int .u64 a, .int .u64 b] w fun e w' => e = .returned (.int .u64 (fsub a b : Nat)) ∧ w = w' := by
  go_enter Try.func22, Try.ntmps22
  go_wp2_with (first | (go_at_call 26; refine (neg_any _ _).mono ?_; rintro e w' ⟨rfl, rfl⟩) | (go_at_call 20; refine (add_any _ _ _).mono ?_; rintro e w' ⟨rfl, rfl⟩))
  go_ret
  exact ⟨rfl, rfl⟩

theorem pow_any (a n : Nat) (hn : n < 18446744073709551616) (w : World) : Calls Try.prog 28 #[.int .u64 a, .int .u64 n] w fun e w' => e = .returned (.int .u64 (fpow a n : Nat)) ∧ ∃ k, w' = w.drewN k := by
  have hl := fof_lt a
  have hs := pow_start a n
  have Hs := Lib.hid hs
  clear hs
  go_enter Try.func28, Try.ntmps28
  go_wp2_with (first | (go_at_call 47; refine (of_any _ _).mono ?_; rintro e w' ⟨rfl, rfl⟩))
  go_loopw [1, 5, 6] (fun nv ov bv wr => ∃ nn oo bb k : Nat, nn < 18446744073709551616 ∧ oo < 2305843009213688669 ∧ bb < 2305843009213688669 ∧ fmul oo (fpow bb nn) = fpow a n ∧ nv = .int .u64 (nn : Int) ∧ ov = .int .u64 (oo : Int) ∧ bv = .int .u64 (bb : Int) ∧ wr = w.drewN k) (fun nv _ _ _ => (intOf nv).toNat)
  case atStart => exact ⟨n, 1, fof a, 0, hn, by decide, hl, Hs.out, rfl, rfl, rfl, rfl⟩
  case round =>
    obtain ⟨nn, oo, bb, k, hnn, hoo, hbb, hi, rfl, rfl, rfl, rfl⟩ := hrel
    have HI := Lib.hid hi
    clear hi
    have hand := and_one_u64 (nn : Int) (by omega) (by omega)
    by_cases hz : nn = 0
    · have hz' : ¬ (0 : Int) < (nn : Int) := by omega
      have HZ := Lib.hid hz
      clear hz
      go_wp2_with fail
      go_ret
      exact ⟨ret_int (congrArg Nat.cast (by rw [← HI.out, HZ.out, pow_end bb hoo])), k, rfl⟩
    · have hz' : (0 : Int) < (nn : Int) := by omega
      by_cases ho : nn % 2 = 1
      · have ho' : ((nn : Int) % 2 == 1) = true := by simp; omega
        go_wp2_with (go_at_call 50; refine (times_any _ _ (by omega) (by omega) _).mono ?_; rintro e w' ⟨rfl, n, rfl⟩)
        go_roundw
        case rel => exact ⟨nn / 2, fmul oo bb, fmul bb bb, _, by omega, fmul_lt _ _, fmul_lt _ _, by rw [pow_round oo bb nn ho, HI.out], by go_num, rfl, rfl, rfl⟩
        case measure => simp [intOf]; omega
      · have ho' : ((nn : Int) % 2 == 1) = false := by simp; omega
        go_wp2_with (go_at_call 50; refine (times_any _ _ (by omega) (by omega) _).mono ?_; rintro e w' ⟨rfl, n, rfl⟩)
        go_roundw
        case rel => exact ⟨nn / 2, oo, fmul bb bb, _, by omega, hoo, fmul_lt _ _, by rw [pow_round' oo bb nn ho, HI.out], by go_num, rfl, rfl, rfl⟩
        case measure => simp [intOf]; omega

theorem inv_no (a : Nat) (h : a % 2305843009213688669 = 0) (w : World) : Calls Try.prog 16 #[.int .u64 a] w fun e w' => e = .returned (.tuple #[.int .u64 (0 : Nat), .bool false]) ∧ ∃ k, w' = w.drewN k := by
  have e1 : ((fof a : Int) == 0) = true := by unfold fof; simp; omega
  go_enter Try.func16, Try.ntmps16
  go_wp2_with (first | (go_at_call 47; refine (of_any _ _).mono ?_; rintro e w' ⟨rfl, rfl⟩))
  go_ret2
  exact ⟨rfl, 0, rfl⟩
theorem inv_yes (a : Nat) (h : ¬ a % 2305843009213688669 = 0) (w : World) : Calls Try.prog 16 #[.int .u64 a] w fun e w' => e = .returned (.tuple #[.int .u64 (fpow a 2305843009213688667 : Nat), .bool true]) ∧ ∃ k, w' = w.drewN k := by
  have e1 : ((fof a : Int) == 0) = false := by unfold fof; simp; omega
  have hp := fun w => pow_any a 2305843009213688667 (by decide) w
  have HP := Lib.hid hp
  clear hp
  go_enter Try.func16, Try.ntmps16
  go_wp2_with (first | (go_at_call 47; refine (of_any _ _).mono ?_; rintro e w' ⟨rfl, rfl⟩) | (go_at_call 28; refine (HP.out _).mono ?_; rintro e w' ⟨rfl, n, rfl⟩))
  go_ret2
  exact ⟨rfl, _, rfl⟩

end Go.Proofs.Ytndhbckdbobogaa
