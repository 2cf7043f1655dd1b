/- Contracts of the reference of layer 5: it computes what Fd says. -/
import Derived.Test.YtheihhjlkefhgaaFrom
namespace Go.Proofs.Ytheihhjlkefhgaa
open Go.RowKit Go.Lib Cfd Ckp
set_option linter.unusedVariables false

theorem rof_any (a : Nat) (w : World) : Calls Try.prog 106 #[.int .u64 a] w fun e w' => e = .returned (.int .u64 (fof a : Nat)) ∧ w = w' := by
  have e1 : (a : Int) % 2305843009213688669 = (fof a : Nat) := (Int.natCast_emod _ _).symm
  go_enter Try.func106, Try.ntmps106
  go_wp2
  go_ret
  exact ⟨rfl, rfl⟩
theorem rneg_any (a : Nat) (w : World) : Calls Try.prog 105 #[.int .u64 a] w fun e w' => e = .returned (.int .u64 (fneg a : Nat)) ∧ w = w' := by
  have hl := fof_lt a
  have e1 : (2305843009213688669 - (fof a : Int)) % 2305843009213688669 = (fneg a : Nat) := by unfold fneg fof; omega
  go_enter Try.func105, Try.ntmps105
  go_wp2_with (go_at_call 106; refine (rof_any _ _).mono ?_; rintro e w' ⟨rfl, rfl⟩)
  go_ret
  exact ⟨ret_int e1, rfl⟩
theorem radd_any (a b : Nat) (w : World) : Calls Try.prog 72 #[.int .u64 a, .int .u64 b] w fun e w' => e = .returned (.int .u64 (fadd a b : Nat)) ∧ w = w' := by
  have hl := fof_lt a
  have hm := fof_lt b
  have e1 : ((fof a : Int) + (fof b : Int)) % 2305843009213688669 = (fadd a b : Nat) := by unfold fadd fof; omega
  have hf := fadd_lt a b
  go_enter Try.func72, Try.ntmps72
  go_wp2_with (first | (go_at_call 106; refine (rof_any _ _).mono ?_; rintro e w' ⟨rfl, rfl⟩))
  go_ret
  exact ⟨ret_int e1, rfl⟩
theorem rsub_any (a b : Nat) (w : World) : Calls Try.prog 71 #[.int .u64 a, .int .u64 b] w fun e w' => e = .returned (.int .u64 (fsub a b : Nat)) ∧ w = w' := by
  go_enter Try.func71, Try.ntmps71
  go_wp2_with (first | (go_at_call 105; refine (rneg_any _ _).mono ?_; rintro e w' ⟨rfl, rfl⟩) | (go_at_call 72; refine (radd_any _ _ _).mono ?_; rintro e w' ⟨rfl, rfl⟩))
  go_ret
  exact ⟨rfl, rfl⟩

theorem rmul_any (a b : Nat) (w : World) : Calls Try.prog 86 #[.int .u64 a, .int .u64 b] w fun e w' => e = .returned (.int .u64 (fmul a b : Nat)) ∧ w = w' := by
  have hl := fof_lt a
  have hm := fof_lt b
  have HS := Lib.hid (dbl_start a b)
  go_enter Try.func86, Try.ntmps86
  go_wp2_with (first | (go_at_call 106; refine (rof_any _ _).mono ?_; rintro e w' ⟨rfl, rfl⟩))
  go_loop [5, 6, 7] (fun xv yv ov => ∃ x y o : Nat, x < 2305843009213688669 ∧ y < 2305843009213688669 ∧ o < 2305843009213688669 ∧ fadd o (fmul x y) = fmul a b ∧ xv = .int .u64 (x : Int) ∧ yv = .int .u64 (y : Int) ∧ ov = .int .u64 (o : Int)) (fun _ yv _ => (intOf yv).toNat)
  case atStart => exact ⟨fof a, fof b, 0, hl, hm, by decide, HS.out, rfl, rfl, rfl⟩
  case round =>
    obtain ⟨x, y, o, hx, hy, ho, hi, rfl, rfl, rfl⟩ := hrel
    have HI := Lib.hid hi
    clear hi
    by_cases hz : y = 0
    · have hz' : ¬ (0 : Int) < (y : Int) := by omega
      have hfin : o = fmul a b := by rw [← HI.out, hz]; unfold fmul; rw [Nat.mul_zero]; exact (fadd_zero ho).symm
      have HF := Lib.hid hfin
      clear hz hfin
      go_wp2_with fail
      go_ret
      exact ⟨ret_int (congrArg Nat.cast HF.out), rfl⟩
    · have hz' : (0 : Int) < (y : Int) := by omega
      have e1 : ((o : Int) + (x : Int)) % 2305843009213688669 = (fadd o x : Nat) := by unfold fadd; omega
      have e2 : ((x : Int) + (x : Int)) % 2305843009213688669 = (fadd x x : Nat) := by unfold fadd; omega
      have hf1 := fadd_lt o x
      have hf2 := fadd_lt x x
      by_cases hp : y % 2 = 1
      · have hp' : ((y : Int) % 2 == 1) = true := by simp; omega
        have HO := Lib.hid (dbl_odd o x y hp)
        go_wp2_with fail
        go_round
        case rel => exact ⟨fadd x x, y / 2, fadd o x, hf2, by omega, hf1, HO.out.trans HI.out, rfl, by go_num, rfl⟩
        case measure => simp [intOf]; omega
      · have hp' : ((y : Int) % 2 == 1) = false := by simp; omega
        have HO := Lib.hid (dbl_even o x y hp)
        go_wp2_with fail
        go_round
        case rel => exact ⟨fadd x x, y / 2, o, hf2, by omega, ho, HO.out.trans HI.out, rfl, by go_num, rfl⟩
        case measure => simp [intOf]; omega

theorem bit_of (n i : Nat) (hn : n < 18446744073709551616) : bits .and .u64 ((n : Int) / 2 ^ i) 1 = ((n / 2 ^ i % 2 : Nat) : Int) := by
  have e : (n : Int) / 2 ^ i = ((n / 2 ^ i : Nat) : Int) := by rw [Int.natCast_ediv, Int.natCast_pow]; rfl
  have hl : n / 2 ^ i ≤ n := Nat.div_le_self _ _
  rw [e, and_one_u64 _ (Int.natCast_nonneg _) (by omega)]
  omega
theorem bit_odd (n i : Nat) (hn : n < 18446744073709551616) (h : (bits .and .u64 ((n : Int) / 2 ^ i) 1 == 1) = true) : n / 2 ^ i % 2 = 1 := by
  rw [bit_of n i hn] at h
  have := eq_of_beq h
  omega
theorem bit_even (n i : Nat) (hn : n < 18446744073709551616) (h : (bits .and .u64 ((n : Int) / 2 ^ i) 1 == 1) = false) : ¬ n / 2 ^ i % 2 = 1 := by
  rw [bit_of n i hn] at h
  intro h1
  rw [h1] at h
  exact absurd h (by decide)