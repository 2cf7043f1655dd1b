/- The small case of layer 5: it comes out right. -/
import Derived.Test.YtndhbckdbobogaaFrom
namespace Go.Proofs.Ytndhbckdbobogaa
open Go.RowKit Go.Lib Cfd Ckp
set_option linter.unusedVariables false

theorem Z32 : bcs (List.replicate 32 0) = #[.int .u8 0, .int .u8 0, .int .u8 0, .int .u8 0, .int .u8 0, .int .u8 0, .int .u8 0, .int .u8 0, .int .u8 0, .int .u8 0, .int .u8 0, .int .u8 0, .int .u8 0, .int .u8 0, .int .u8 0, .int .u8 0, .int .u8 0, .int .u8 0, .int .u8 0, .int .u8 0, .int .u8 0, .int .u8 0, .int .u8 0, .int .u8 0, .int .u8 0, .int .u8 0, .int .u8 0, .int .u8 0, .int .u8 0, .int .u8 0, .int .u8 0, .int .u8 0] := by
  unfold bcs; rfl
theorem Z31 : bcs (List.replicate 31 0 ++ [6]) = #[.int .u8 0, .int .u8 0, .int .u8 0, .int .u8 0, .int .u8 0, .int .u8 0, .int .u8 0, .int .u8 0, .int .u8 0, .int .u8 0, .int .u8 0, .int .u8 0, .int .u8 0, .int .u8 0, .int .u8 0, .int .u8 0, .int .u8 0, .int .u8 0, .int .u8 0, .int .u8 0, .int .u8 0, .int .u8 0, .int .u8 0, .int .u8 0, .int .u8 0, .int .u8 0, .int .u8 0, .int .u8 0, .int .u8 0, .int .u8 0, .int .u8 0, .int .u8 6] := by
  unfold bcs; rfl
theorem fpow_fp (a n : Nat) (h : n < 2 ^ 64) : fpow a n = Cnt.fp 2305843009213688669 64 a n := (Cnt.fp_eq _ _ _ _ h).symm

theorem inv_2 (w : World) : Calls Try.prog 16 #[.int .u64 2] w fun e w' => e = .returned (.tuple #[.int .u64 1152921504606844335, .bool true]) ∧ ∃ k, w' = w.drewN k := by
  have h := inv_yes 2 (by decide) w
  rw [fpow_fp _ _ (by decide), show Cnt.fp 2305843009213688669 64 2 2305843009213688667 = 1152921504606844335 from by decide +kernel] at h
  exact h
theorem inv_q (w : World) : Calls Try.prog 16 #[.int .u64 2305843009213688669] w fun e w' => e = .returned (.tuple #[.int .u64 0, .bool false]) ∧ ∃ k, w' = w.drewN k :=
  inv_no 2305843009213688669 (by decide) w
theorem neg_1 (w : World) : Calls Try.prog 26 #[.int .u64 1] w fun e w' => e = .returned (.int .u64 2305843009213688668) ∧ w = w' := neg_any 1 w
theorem right_no (w : World) : Calls Try.prog 18 #[.int .u64 2305843009213688669] w fun e w' => e = .returned (.bool false) ∧ w = w' := right_any 2305843009213688669 w
theorem right_yes (w : World) : Calls Try.prog 18 #[.int .u64 2305843009213688668] w fun e w' => e = .returned (.bool true) ∧ w = w' := right_any 2305843009213688668 w
theorem add_c (w : World) : Calls Try.prog 20 #[.int .u64 2305843009213688668, .int .u64 3] w fun e w' => e = .returned (.int .u64 2) ∧ w = w' := add_any 2305843009213688668 3 w
theorem sub_c (w : World) : Calls Try.prog 22 #[.int .u64 2, .int .u64 5] w fun e w' => e = .returned (.int .u64 2305843009213688666) ∧ w = w' := sub_any 2 5 w
theorem mul_c (w : World) : Calls Try.prog 24 #[.int .u64 2305843009213688668, .int .u64 2305843009213688668] w fun e w' => e = .returned (.int .u64 1) ∧ ∃ k, w' = w.drewN k := mul_any 2305843009213688668 2305843009213688668 w
theorem pow_c (w : World) : Calls Try.prog 28 #[.int .u64 2, .int .u64 62] w fun e w' => e = .returned (.int .u64 10566) ∧ ∃ k, w' = w.drewN k := by
  have h := pow_any 2 62 (by decide) w
  rw [fpow_fp _ _ (by decide), show Cnt.fp 2305843009213688669 64 2 62 = 10566 from by decide +kernel] at h
  exact h
theorem pow_z (w : World) : Calls Try.prog 28 #[.int .u64 0, .int .u64 0] w fun e w' => e = .returned (.int .u64 1) ∧ ∃ k, w' = w.drewN k := by
  have h := pow_any 0 0 (by decide) w
  rw [fpow_fp _ _ (by decide), show Cnt.fp 2305843009213688669 64 0 0 = 1 from by decide +kernel] at h
  exact h
theorem from_z (cs : Array Value) (l : List Nat) (hcs : bcs l = cs) (h32 : l.length = 32) (hb : ∀ i, l.getD i 0 < 256) (n : Int) (hn : (ffrom l : Int) = n) (w : World) : Calls Try.prog 30 #[.agg cs] w fun e w' => e = .returned (.int .u64 n) ∧ Kp w w' := by
  rw [← hcs, ← hn]; exact from_any l h32 hb w
theorem from_0 (w : World) : Calls Try.prog 30 #[.agg #[.int .u8 0, .int .u8 0, .int .u8 0, .int .u8 0, .int .u8 0, .int .u8 0, .int .u8 0, .int .u8 0, .int .u8 0, .int .u8 0, .int .u8 0, .int .u8 0, .int .u8 0, .int .u8 0, .int .u8 0, .int .u8 0, .int .u8 0, .int .u8 0, .int .u8 0, .int .u8 0, .int .u8 0, .int .u8 0, .int .u8 0, .int .u8 0, .int .u8 0, .int .u8 0, .int .u8 0, .int .u8 0, .int .u8 0, .int .u8 0, .int .u8 0, .int .u8 0]] w fun e w' => e = .returned (.int .u64 1) ∧ Kp w w' :=
  from_z _ _ Z32 rfl (by intro i; rw [List.getD_eq_getElem?_getD, List.getElem?_replicate]; split <;> decide) 1 (by decide +kernel) w
theorem small_get : ∀ i, (List.replicate 31 0 ++ [6] : List Nat).getD i 0 < 256 := by
  intro i
  by_cases h : i < 32
  · revert i; decide
  · rw [List.getD_eq_getElem?_getD, List.getElem?_eq_none (by simp; omega)]; decide
theorem from_6 (w : World) : Calls Try.prog 30 #[.agg #[.int .u8 0, .int .u8 0, .int .u8 0, .int .u8 0, .int .u8 0, .int .u8 0, .int .u8 0, .int .u8 0, .int .u8 0, .int .u8 0, .int .u8 0, .int .u8 0, .int .u8 0, .int .u8 0, .int .u8 0, .int .u8 0, .int .u8 0, .int .u8 0, .int .u8 0, .int .u8 0, .int .u8 0, .int .u8 0, .int .u8 0, .int .u8 0, .int .u8 0, .int .u8 0, .int .u8 0, .int .u8 0, .int .u8 0, .int .u8 0, .int .u8 0, .int .u8 6]] w fun e w' => e = .returned (.int .u64 7) ∧ Kp w w' :=
  from_z _ _ Z31 rfl small_get 7 (by decide +kernel) w
set_option maxRecDepth 100000 in
theorem small5 (w : World) : Calls Try.prog 15 #[] w fun e w' => e = .returned (.bool true) ∧ Kp w w' := by
  have hc := fun k cs => cell_new_at w k cs 25 31
  have hf := fun k cs => frozen_new_at w k cs 25 31
  go_enter Try.func15, Try.ntmps15
  go_wp2_with (first
    | (go_at_call 16; first | ((with_reducible refine (inv_2 _).mono ?_); rintro e w' ⟨rfl, k, rfl⟩) | ((with_reducible refine (inv_q _).mono ?_); rintro e w' ⟨rfl, k, rfl⟩))
    | (go_at_call 26; (with_reducible refine (neg_1 _).mono ?_); rintro e w' ⟨rfl, rfl⟩))
  refine (from_0 _).mono ?_
  rintro e w1 ⟨rfl, hk1⟩
  have hK := (kp_set w _ _ _ _ _).trans hk1
  have hrow := (hk1.block (size_set w _ _ _ _ _)).trans (row_set w _ _ #[.int .u8 0, .int .u8 0, .int .u8 0, .int .u8 0, .int .u8 0, .int .u8 0, .int .u8 0, .int .u8 0, .int .u8 0, .int .u8 0, .int .u8 0, .int .u8 0, .int .u8 0, .int .u8 0, .int .u8 0, .int .u8 0, .int .u8 0, .int .u8 0, .int .u8 0, .int .u8 0, .int .u8 0, .int .u8 0, .int .u8 0, .int .u8 0, .int .u8 0, .int .u8 0, .int .u8 0, .int .u8 0, .int .u8 0, .int .u8 0, .int .u8 0, .int .u8 6] _ _ _ rfl)
  have HR := Lib.hid hrow
  clear hk1 hrow hc hf
  go_wp2_with (first
    | (refine load_row rfl 25 _ rfl w.heap.size rfl 25 _ _ _ HR.out Try.underlying25 rfl (by kernel_rfl) ?_)
    | (go_at_call 18; first | ((with_reducible refine (right_yes _).mono ?_); rintro e w' ⟨rfl, rfl⟩) | ((with_reducible refine (right_no _).mono ?_); rintro e w' ⟨rfl, rfl⟩))
    | (go_at_call 30; (with_reducible refine (from_6 _).mono ?_); rintro e w2 ⟨rfl, hk2⟩; replace hK := hK.trans hk2; clear hk2 HR)
    | (go_at_call 20; (with_reducible refine (add_c _).mono ?_); rintro e w' ⟨rfl, rfl⟩)
    | (go_at_call 22; (with_reducible refine (sub_c _).mono ?_); rintro e w' ⟨rfl, rfl⟩)
    | (go_at_call 24; (with_reducible refine (mul_c _).mono ?_); rintro e w' ⟨rfl, k, rfl⟩)
    | (go_at_call 28; first | ((with_reducible refine (pow_c _).mono ?_); rintro e w' ⟨rfl, k, rfl⟩) | ((with_reducible refine (pow_z _).mono ?_); rintro e w' ⟨rfl, k, rfl⟩)))
  go_ret
  exact ⟨rfl, hK.drewN _⟩
end Go.Proofs.Ytndhbckdbobogaa
