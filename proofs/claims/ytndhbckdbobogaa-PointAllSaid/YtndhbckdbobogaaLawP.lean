/- The small case of layer 6: it comes out right. -/
import Derived.Test.YtndhbckdbobogaaPoint2
namespace Go.Proofs.Ytndhbckdbobogaa
open Go.RowKit Go.Lib Cfd Cpd Ckp
set_option linter.unusedVariables false

theorem ppow_fp (a n : Nat) (h : n < 2 ^ 64) : ppow a n = Cnt.fp 4611686018427377339 64 a n := (Cnt.fp_eq _ _ _ _ h).symm
theorem v_b1 : pbase 1 = 4 := by rw [base_eq, ppow_fp _ _ (by decide)]; decide +kernel
theorem v_b2 : pbase 2 = 16 := by rw [base_eq, ppow_fp _ _ (by decide)]; decide +kernel
theorem v_b3 : pbase 3 = 64 := by rw [base_eq, ppow_fp _ _ (by decide)]; decide +kernel
theorem v_bq : pbase 2305843009213688669 = 1 := by rw [base_eq, ppow_fp _ _ (by decide)]; decide +kernel
theorem r_16 : pright 16 = true := v_b2 ▸ right_base 2
theorem r_64 : pright 64 = true := v_b3 ▸ right_base 3
theorem n_2 : pright 2 = false := by
  by_cases h : pright 2 = true
  · have := right_pow h
    rw [ppow_fp _ _ (by decide)] at this
    exact absurd this (by decide +kernel)
  · simpa using h
theorem r_m2 : pright 4611686018427377337 = true := by
  have h := halves (m := 2) (by decide) (by decide)
  rw [n_2] at h
  exact h
theorem v_add : padd 4 16 = 64 := by unfold padd; rw [taken_of right_4, taken_of r_16]; rfl
theorem v_neg : pneg 4 = 1152921504606844335 := by unfold pneg; rw [taken_of right_4, ppow_fp _ _ (by decide)]; decide +kernel
theorem v_sub : psub 64 16 = 4 := by
  have h : padd (psub 64 16) 16 = 64 := by
    unfold psub
    rw [add_assoc, add_comm 16, add_neg, add_one, taken_of r_64]
  rw [← v_add, add_sub, taken_of right_4]
theorem v_scale : pscale 4 3 = 64 := v_b3
theorem v_all3 : pall [4, 16, 64] = 4096 := by
  rw [pall_cons, pall_two]
  unfold padd
  rw [taken_of right_4, taken_of r_16, taken_of r_64]; rfl
theorem v_s25 : pscale 2 5 = 1 := by unfold pscale; rw [taken_not n_2, one_ppow]
theorem v_a24 : padd 2 4 = 4 := by unfold padd; rw [taken_not n_2, taken_of right_4]; rfl

section
variable (w : World)
theorem k_base0 : Calls Try.prog 41 #[.int .u64 0] w fun e w' => e = .returned (.int .u64 1) ∧ ∃ k, w' = w.drewN k := by
  have h := pbase_any 0 w; rw [base_0] at h; exact h
theorem k_base1 : Calls Try.prog 41 #[.int .u64 1] w fun e w' => e = .returned (.int .u64 4) ∧ ∃ k, w' = w.drewN k := by
  have h := pbase_any 1 w; rw [v_b1] at h; exact h
theorem k_base2 : Calls Try.prog 41 #[.int .u64 2] w fun e w' => e = .returned (.int .u64 16) ∧ ∃ k, w' = w.drewN k := by
  have h := pbase_any 2 w; rw [v_b2] at h; exact h
theorem k_baseq : Calls Try.prog 41 #[.int .u64 2305843009213688669] w fun e w' => e = .returned (.int .u64 1) ∧ ∃ k, w' = w.drewN k := by
  have h := pbase_any 2305843009213688669 w; rw [v_bq] at h; exact h
theorem k_add : Calls Try.prog 35 #[.int .u64 4, .int .u64 16] w fun e w' => e = .returned (.int .u64 64) ∧ Kp w w' := by
  have h := padd_any 4 16 (by decide) (by decide) w; rw [v_add] at h; exact h
theorem k_add2 : Calls Try.prog 35 #[.int .u64 2, .int .u64 4] w fun e w' => e = .returned (.int .u64 4) ∧ Kp w w' := by
  have h := padd_any 2 4 (by decide) (by decide) w; rw [v_a24] at h; exact h
theorem k_sub : Calls Try.prog 37 #[.int .u64 64, .int .u64 16] w fun e w' => e = .returned (.int .u64 4) ∧ Kp w w' := by
  have h := psub_any 64 16 (by decide) (by decide) w; rw [v_sub] at h; exact h
theorem k_neg : Calls Try.prog 39 #[.int .u64 4] w fun e w' => e = .returned (.int .u64 1152921504606844335) ∧ ∃ k, w' = w.drewN k := by
  have h := pneg_any 4 (by decide) w; rw [v_neg] at h; exact h
theorem k_scale : Calls Try.prog 43 #[.int .u64 4, .int .u64 3] w fun e w' => e = .returned (.int .u64 64) ∧ ∃ k, w' = w.drewN k := by
  have h := pscale_any 4 3 (by decide) w; rw [v_scale] at h; exact h
theorem k_scale2 : Calls Try.prog 43 #[.int .u64 2, .int .u64 5] w fun e w' => e = .returned (.int .u64 1) ∧ ∃ k, w' = w.drewN k := by
  have h := pscale_any 2 5 (by decide) w; rw [v_s25] at h; exact h
theorem k_r1 : Calls Try.prog 33 #[.int .u64 1] w fun e w' => e = .returned (.bool true) ∧ ∃ k, w' = w.drewN k := by
  have h := pright_any 1 (by decide) w; rw [right_one] at h; exact h
theorem k_r4 : Calls Try.prog 33 #[.int .u64 4] w fun e w' => e = .returned (.bool true) ∧ ∃ k, w' = w.drewN k := by
  have h := pright_any 4 (by decide) w; rw [right_4] at h; exact h
theorem k_r0 : Calls Try.prog 33 #[.int .u64 0] w fun e w' => e = .returned (.bool false) ∧ ∃ k, w' = w.drewN k := by
  have h := pright_any 0 (by decide) w; rw [show pright 0 = false from rfl] at h; exact h
theorem k_r2 : Calls Try.prog 33 #[.int .u64 2] w fun e w' => e = .returned (.bool false) ∧ ∃ k, w' = w.drewN k := by
  have h := pright_any 2 (by decide) w; rw [n_2] at h; exact h
theorem k_rm2 : Calls Try.prog 33 #[.int .u64 4611686018427377337] w fun e w' => e = .returned (.bool true) ∧ ∃ k, w' = w.drewN k := by
  have h := pright_any 4611686018427377337 (by decide) w; rw [r_m2] at h; exact h
theorem k_rm : Calls Try.prog 33 #[.int .u64 4611686018427377339] w fun e w' => e = .returned (.bool false) ∧ ∃ k, w' = w.drewN k := by
  have h := pright_any 4611686018427377339 (by decide) w; rw [show pright 4611686018427377339 = false from by unfold pright; simp] at h; exact h
theorem k_all0 (c : Nat) : Calls Try.prog 45 #[.slice none 0 c] w fun e w' => e = .returned (.int .u64 1) ∧ ∃ k, w' = w.drewN k :=
  pall_any none 0 c [] rfl (by decide) (by intro i; simp) w (fun h => absurd h (by decide))
theorem pts_three (a b c : Nat) (t : TypeId) : Pts (w.alloc (.cells #[.int .u64 (a : Int), .int .u64 (b : Int), .int .u64 (c : Int)] t)) (some ⟨w.heap.size, 0, none⟩) [a, b, c] := by
  intro _
  refine ⟨_, rfl, by simp, fun j hj => ?_⟩
  have hj' : j = 0 ∨ j = 1 ∨ j = 2 := by simp at hj; omega
  rcases hj' with rfl | rfl | rfl
  · show World.cell? _ ⟨w.heap.size, 0, none⟩ = _
    rw [cell_of_row _ _ _ _ _ _ (heap_alloc_new w _)]; rfl
  · show World.cell? _ ⟨w.heap.size, 1, none⟩ = _
    rw [cell_of_row _ _ _ _ _ _ (heap_alloc_new w _)]; rfl
  · show World.cell? _ ⟨w.heap.size, 2, none⟩ = _
    rw [cell_of_row _ _ _ _ _ _ (heap_alloc_new w _)]; rfl
theorem k_all3 (t : TypeId) (c n : Nat) : Calls Try.prog 45 #[.slice (some ⟨w.heap.size, 0, none⟩) 3 c] ((w.drewN n).alloc (.cells #[.int .u64 4, .int .u64 16, .int .u64 64] t)) fun e w' => e = .returned (.int .u64 4096) ∧ Kp w w' := by
  have h := pall_any (some ⟨w.heap.size, 0, none⟩) 3 c [4, 16, 64] rfl (by decide) (by intro i; match i with | 0 => decide | 1 => decide | 2 => decide | i + 3 => simp) _ (pts_three (w.drewN n) 4 16 64 t)
  rw [v_all3] at h
  exact h.mono fun e w' ⟨h1, k, h2⟩ => ⟨h1, by rw [h2]; exact (((Kp.refl w).drewN n).alloc _).drewN k⟩
end

set_option maxRecDepth 100000 in
theorem small6 (w : World) : Calls Try.prog 32 #[] w fun e w' => e = .returned (.bool true) ∧ Kp w w' := by
  have hK := Kp.refl w
  go_enter Try.func32, Try.ntmps32
  go_wp2_with (first
    | (go_at_call 41; first | ((with_reducible refine (k_base0 _).mono ?_); rintro e w' ⟨rfl, k, rfl⟩) | ((with_reducible refine (k_base1 _).mono ?_); rintro e w' ⟨rfl, k, rfl⟩) | ((with_reducible refine (k_base2 _).mono ?_); rintro e w' ⟨rfl, k, rfl⟩) | ((with_reducible refine (k_baseq _).mono ?_); rintro e w' ⟨rfl, k, rfl⟩))
    | (go_at_call 35; first | ((with_reducible refine (k_add _).mono ?_); rintro e w1 ⟨rfl, hK1⟩; replace hK : Kp w w1 := (by first | exact Kp.trans' hK hK1 | exact Kp.trans hK hK1); clear hK1) | ((with_reducible refine (k_add2 _).mono ?_); rintro e w1 ⟨rfl, hK1⟩; replace hK : Kp w w1 := (by first | exact Kp.trans' hK hK1 | exact Kp.trans hK hK1); clear hK1))
    | (go_at_call 37; first | ((with_reducible refine (k_sub _).mono ?_); rintro e w1 ⟨rfl, hK1⟩; replace hK : Kp w w1 := (by first | exact Kp.trans' hK hK1 | exact Kp.trans hK hK1); clear hK1))
    | (go_at_call 39; first | ((with_reducible refine (k_neg _).mono ?_); rintro e w' ⟨rfl, k, rfl⟩))
    | (go_at_call 43; first | ((with_reducible refine (k_scale _).mono ?_); rintro e w' ⟨rfl, k, rfl⟩) | ((with_reducible refine (k_scale2 _).mono ?_); rintro e w' ⟨rfl, k, rfl⟩))
    | (go_at_call 33; first | ((with_reducible refine (k_r1 _).mono ?_); rintro e w' ⟨rfl, k, rfl⟩) | ((with_reducible refine (k_r4 _).mono ?_); rintro e w' ⟨rfl, k, rfl⟩) | ((with_reducible refine (k_r0 _).mono ?_); rintro e w' ⟨rfl, k, rfl⟩) | ((with_reducible refine (k_r2 _).mono ?_); rintro e w' ⟨rfl, k, rfl⟩) | ((with_reducible refine (k_rm2 _).mono ?_); rintro e w' ⟨rfl, k, rfl⟩) | ((with_reducible refine (k_rm _).mono ?_); rintro e w' ⟨rfl, k, rfl⟩))
    | (go_at_call 45; first | ((with_reducible refine (k_all0 _ _).mono ?_); rintro e w' ⟨rfl, k, rfl⟩) | ((with_reducible refine (k_all3 _ _ _ _).mono ?_); rintro e w1 ⟨rfl, hK1⟩; replace hK : Kp w w1 := (by first | exact Kp.trans' hK hK1 | exact Kp.trans hK hK1); clear hK1)))
  go_ret
  exact ⟨rfl, by first | exact hK | exact hK.drewN _⟩
end Go.Proofs.Ytndhbckdbobogaa
