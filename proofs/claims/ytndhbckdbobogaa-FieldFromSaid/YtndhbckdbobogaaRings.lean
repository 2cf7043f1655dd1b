/- The walk of FieldRings: every test it makes comes out right. -/
import Derived.Test.YtndhbckdbobogaaLawA
namespace Go.Proofs.Ytndhbckdbobogaa
open Go.RowKit Go.Lib Cfd Ckp
set_option linter.unusedVariables false

theorem r_assoc_add (a b c : Nat) : fadd (fadd a b) c = fadd a (fadd b c) := by unfold fadd; rw [Nat.mod_add_mod, Nat.add_mod_mod, Nat.add_assoc]
theorem r_assoc_mul (a b c : Nat) : fmul (fmul a b) c = fmul a (fmul b c) := by unfold fmul; rw [Nat.mod_mul_mod, Nat.mul_mod_mod, Nat.mul_assoc]
theorem r_comm_add (a b : Nat) : fadd b a = fadd a b := by unfold fadd; rw [Nat.add_comm]
theorem r_comm_mul (a b : Nat) : fmul b a = fmul a b := by unfold fmul; rw [Nat.mul_comm]
theorem r_dist (a b c : Nat) : fmul a (fadd b c) = fadd (fmul a b) (fmul a c) := by unfold fmul fadd; rw [Nat.mul_mod_mod, Nat.mod_add_mod, Nat.add_mod_mod, Nat.mul_add]
theorem r_sub (a b : Nat) : fsub (fadd a b) b = fadd a 0 := by unfold fsub fadd fneg; omega
theorem r_neg (a : Nat) : fadd a (fneg a) = 0 := by unfold fadd fneg; omega
theorem r_negneg (a : Nat) : fneg (fneg a) = fmul a 1 := by unfold fneg fmul; omega
theorem r_right {x : Nat} (h : x < 2305843009213688669) : fright x = true := by unfold fright; simpa using h

set_option maxRecDepth 100000 in
theorem walk_rings (a b c : Nat) (w : World) :
    Calls Try.prog 4 #[.int .u64 (a : Int), .int .u64 (b : Int), .int .u64 (c : Int)] w fun e w' => e = .returned (.bool true) ∧ Kp w w' := by
  have h1 := r_comm_add a b
  have h2 := r_comm_mul a b
  have h3 := r_assoc_add a b c
  have h4 := r_assoc_mul a b c
  have h5 := r_dist a b c
  have h6 := r_sub a b
  have h7 := r_neg a
  have h8 := r_negneg a
  have h9 := r_right (fadd_lt a b)
  have h10 := r_right (fsub_lt a b)
  have h11 := r_right (fmul_lt a b)
  have h12 := r_right (fneg_lt a)
  go_enter Try.func4, Try.ntmps4
  go_wp2_with (first
    | (go_at_call 15; refine (small5 _).mono ?_; rintro e w1 ⟨rfl, hK⟩)
    | (go_at_call 20; refine (add_any _ _ _).mono ?_; rintro e w' ⟨rfl, rfl⟩)
    | (go_at_call 22; refine (sub_any _ _ _).mono ?_; rintro e w' ⟨rfl, rfl⟩)
    | (go_at_call 24; refine (mul_any _ _ _).mono ?_; rintro e w' ⟨rfl, k, rfl⟩)
    | (go_at_call 26; refine (neg_any _ _).mono ?_; rintro e w' ⟨rfl, rfl⟩)
    | (go_at_call 18; refine (right_any _ _).mono ?_; rintro e w' ⟨rfl, rfl⟩))

  go_ret
  exact ⟨rfl, hK.drewN _⟩
theorem walk_rings_n (a : Nat) (ha : a < 18446744073709551616) (b : Nat) (hb : b < 18446744073709551616) (c : Nat) (hc : c < 18446744073709551616) (w : World) :
    Calls Try.prog 4 #[.int .u64 (a : Int), .int .u64 (b : Int), .int .u64 (c : Int)] w fun e w' => e = .returned (.bool true) ∧ Kp w w' := walk_rings a b c w
end Go.Proofs.Ytndhbckdbobogaa
