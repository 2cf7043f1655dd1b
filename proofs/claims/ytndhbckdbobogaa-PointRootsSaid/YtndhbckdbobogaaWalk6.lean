/- The walks of PointGroup, PointHalves, PointScale, PointBase and PointRoots. -/
import Derived.Test.YtndhbckdbobogaaLawP
namespace Go.Proofs.Ytndhbckdbobogaa
open Go.RowKit Go.Lib Cfd Cpd Ckp
set_option linter.unusedVariables false

theorem lt64 {a : Nat} (h : a < 4611686018427377339) : a < 18446744073709551616 := Nat.lt_trans h (by decide)
theorem padd_1 (a : Nat) (ha : a < 18446744073709551616) (w : World) : Calls Try.prog 35 #[.int .u64 (a : Int), .int .u64 1] w fun e w' => e = .returned (.int .u64 (padd a 1 : Nat)) ∧ Kp w w' := padd_any a 1 ha (by decide) w
theorem inv_two (w : World) : Calls Try.prog 16 #[.int .u64 2] w fun e w' => e = .returned (.tuple #[.int .u64 1152921504606844335, .bool true]) ∧ ∃ k, w' = w.drewN k := by
  have h := inv_yes 2 (by decide) w
  rw [show fpow 2 2305843009213688667 = 1152921504606844335 from by unfold fpow; rw [← Cnt.fp_eq _ 64 _ _ (by decide)]; decide +kernel] at h
  exact h
theorem pscale_c0 (a : Nat) (ha : a < 18446744073709551616) (w : World) : Calls Try.prog 43 #[.int .u64 (a : Int), .int .u64 0] w fun e w' => e = .returned (.int .u64 1) ∧ ∃ k, w' = w.drewN k := by
  have h := pscale_any a 0 ha w; rw [scale_0] at h; exact h
theorem pscale_c1 (a : Nat) (ha : a < 18446744073709551616) (w : World) : Calls Try.prog 43 #[.int .u64 (a : Int), .int .u64 1] w fun e w' => e = .returned (.int .u64 (padd a 1 : Nat)) ∧ ∃ k, w' = w.drewN k := by
  have h := pscale_any a 1 ha w; rw [scale_1] at h; exact h
theorem pscale_cq (a : Nat) (ha : a < 18446744073709551616) (w : World) : Calls Try.prog 43 #[.int .u64 (a : Int), .int .u64 2305843009213688668] w fun e w' => e = .returned (.int .u64 (pneg a : Nat)) ∧ ∃ k, w' = w.drewN k := by
  have h := pscale_any a 2305843009213688668 ha w; rw [scale_neg] at h; exact h
@[irreducible] def phalf (a : Nat) : Nat := pscale a 1152921504606844335
theorem pscale_ch (a : Nat) (ha : a < 18446744073709551616) (w : World) : Calls Try.prog 43 #[.int .u64 (a : Int), .int .u64 1152921504606844335] w fun e w' => e = .returned (.int .u64 (phalf a : Nat)) ∧ ∃ k, w' = w.drewN k := by
  unfold phalf; exact pscale_any a 1152921504606844335 ha w
theorem phalf_lt (a : Nat) : phalf a < 4611686018427377339 := by unfold phalf; exact pscale_lt _ _
theorem phalf_right (a : Nat) : pright (phalf a) = true := by unfold phalf; exact right_scale _ _
theorem phalf_two {a : Nat} (h : pright a = true) : padd (phalf a) (phalf a) = a := by unfold phalf; exact roots h

theorem walk_group_r (p : Nat) (hp : p < 18446744073709551616) (q : Nat) (hq : q < 18446744073709551616) (s : Nat) (hs : s < 18446744073709551616) (w : World) (hr : pright p = true) :
    Calls Try.prog 9 #[.int .u64 (p : Int), .int .u64 (q : Int), .int .u64 (s : Int)] w fun e w' => e = .returned (.bool true) ∧ Kp w w' := by
  have h1 := add_comm p q
  have h2 := add_assoc p q s
  have h3 := add_one p
  have h4 := add_neg p
  have h5 := add_sub p q
  have h6 := neg_neg p
  have h7 := right_add p q
  have h8 := right_neg p
  have h9 := right_taken p
  have h10 := taken_of hr
  go_enter Try.func9, Try.ntmps9
  go_wp2_with (first
    | (go_at_call 32; first | (refine (small6 _).mono ?_; rintro e w1 ⟨rfl, hK⟩))
    | (go_at_call 33; first | ((with_reducible refine (k_r1 _).mono ?_); rintro e w' ⟨rfl, k, rfl⟩) | ((with_reducible refine (pright_any _ (by first | assumption | omega | exact lt64 (padd_lt _ _) | exact lt64 (pt_lt _ _) | exact lt64 (ppow_lt _ _) | exact lt64 (taken_lt _) | exact lt64 (pall_lt _) | exact lt64 (pneg_lt _) | exact lt64 (right_lt (right_sub _ _)) | exact lt64 (pscale_lt _ _) | exact lt64 (pbase_lt _)) _).mono ?_); rintro e w' ⟨rfl, k, rfl⟩))
    | (go_at_call 35; first | ((with_reducible refine (padd_any _ _ (by first | assumption | omega | exact lt64 (padd_lt _ _) | exact lt64 (pt_lt _ _) | exact lt64 (ppow_lt _ _) | exact lt64 (taken_lt _) | exact lt64 (pall_lt _) | exact lt64 (pneg_lt _) | exact lt64 (right_lt (right_sub _ _)) | exact lt64 (pscale_lt _ _) | exact lt64 (pbase_lt _)) (by first | assumption | omega | exact lt64 (padd_lt _ _) | exact lt64 (pt_lt _ _) | exact lt64 (ppow_lt _ _) | exact lt64 (taken_lt _) | exact lt64 (pall_lt _) | exact lt64 (pneg_lt _) | exact lt64 (right_lt (right_sub _ _)) | exact lt64 (pscale_lt _ _) | exact lt64 (pbase_lt _)) _).mono ?_); rintro e w1 ⟨rfl, hK1⟩; replace hK : Kp w w1 := (by first | exact Kp.trans' hK hK1 | exact Kp.trans hK hK1); clear hK1) | ((with_reducible refine (padd_1 _ (by first | assumption | omega | exact lt64 (padd_lt _ _) | exact lt64 (pt_lt _ _) | exact lt64 (ppow_lt _ _) | exact lt64 (taken_lt _) | exact lt64 (pall_lt _) | exact lt64 (pneg_lt _) | exact lt64 (right_lt (right_sub _ _)) | exact lt64 (pscale_lt _ _) | exact lt64 (pbase_lt _)) _).mono ?_); rintro e w1 ⟨rfl, hK1⟩; replace hK : Kp w w1 := (by first | exact Kp.trans' hK hK1 | exact Kp.trans hK hK1); clear hK1))
    | (go_at_call 37; first | ((with_reducible refine (psub_any _ _ (by first | assumption | omega | exact lt64 (padd_lt _ _) | exact lt64 (pt_lt _ _) | exact lt64 (ppow_lt _ _) | exact lt64 (taken_lt _) | exact lt64 (pall_lt _) | exact lt64 (pneg_lt _) | exact lt64 (right_lt (right_sub _ _)) | exact lt64 (pscale_lt _ _) | exact lt64 (pbase_lt _)) (by first | assumption | omega | exact lt64 (padd_lt _ _) | exact lt64 (pt_lt _ _) | exact lt64 (ppow_lt _ _) | exact lt64 (taken_lt _) | exact lt64 (pall_lt _) | exact lt64 (pneg_lt _) | exact lt64 (right_lt (right_sub _ _)) | exact lt64 (pscale_lt _ _) | exact lt64 (pbase_lt _)) _).mono ?_); rintro e w1 ⟨rfl, hK1⟩; replace hK : Kp w w1 := (by first | exact Kp.trans' hK hK1 | exact Kp.trans hK hK1); clear hK1))
    | (go_at_call 39; first | ((with_reducible refine (pneg_any _ (by first | assumption | omega | exact lt64 (padd_lt _ _) | exact lt64 (pt_lt _ _) | exact lt64 (ppow_lt _ _) | exact lt64 (taken_lt _) | exact lt64 (pall_lt _) | exact lt64 (pneg_lt _) | exact lt64 (right_lt (right_sub _ _)) | exact lt64 (pscale_lt _ _) | exact lt64 (pbase_lt _)) _).mono ?_); rintro e w' ⟨rfl, k, rfl⟩)))
  go_ret
  exact ⟨rfl, by first | exact hK | exact hK.drewN _⟩

theorem walk_group_n (p : Nat) (hp : p < 18446744073709551616) (q : Nat) (hq : q < 18446744073709551616) (s : Nat) (hs : s < 18446744073709551616) (w : World) (hr : pright p = false) :
    Calls Try.prog 9 #[.int .u64 (p : Int), .int .u64 (q : Int), .int .u64 (s : Int)] w fun e w' => e = .returned (.bool true) ∧ Kp w w' := by
  have h1 := add_comm p q
  have h2 := add_assoc p q s
  have h3 := add_one p
  have h4 := add_neg p
  have h5 := add_sub p q
  have h6 := neg_neg p
  have h7 := right_add p q
  have h8 := right_neg p
  have h9 := right_one
  have h10 := taken_not hr
  go_enter Try.func9, Try.ntmps9
  go_wp2_with (first
    | (go_at_call 32; first | (refine (small6 _).mono ?_; rintro e w1 ⟨rfl, hK⟩))
    | (go_at_call 33; first | ((with_reducible refine (k_r1 _).mono ?_); rintro e w' ⟨rfl, k, rfl⟩) | ((with_reducible refine (pright_any _ (by first | assumption | omega | exact lt64 (padd_lt _ _) | exact lt64 (pt_lt _ _) | exact lt64 (ppow_lt _ _) | exact lt64 (taken_lt _) | exact lt64 (pall_lt _) | exact lt64 (pneg_lt _) | exact lt64 (right_lt (right_sub _ _)) | exact lt64 (pscale_lt _ _) | exact lt64 (pbase_lt _)) _).mono ?_); rintro e w' ⟨rfl, k, rfl⟩))
    | (go_at_call 35; first | ((with_reducible refine (padd_any _ _ (by first | assumption | omega | exact lt64 (padd_lt _ _) | exact lt64 (pt_lt _ _) | exact lt64 (ppow_lt _ _) | exact lt64 (taken_lt _) | exact lt64 (pall_lt _) | exact lt64 (pneg_lt _) | exact lt64 (right_lt (right_sub _ _)) | exact lt64 (pscale_lt _ _) | exact lt64 (pbase_lt _)) (by first | assumption | omega | exact lt64 (padd_lt _ _) | exact lt64 (pt_lt _ _) | exact lt64 (ppow_lt _ _) | exact lt64 (taken_lt _) | exact lt64 (pall_lt _) | exact lt64 (pneg_lt _) | exact lt64 (right_lt (right_sub _ _)) | exact lt64 (pscale_lt _ _) | exact lt64 (pbase_lt _)) _).mono ?_); rintro e w1 ⟨rfl, hK1⟩; replace hK : Kp w w1 := (by first | exact Kp.trans' hK hK1 | exact Kp.trans hK hK1); clear hK1) | ((with_reducible refine (padd_1 _ (by first | assumption | omega | exact lt64 (padd_lt _ _) | exact lt64 (pt_lt _ _) | exact lt64 (ppow_lt _ _) | exact lt64 (taken_lt _) | exact lt64 (pall_lt _) | exact lt64 (pneg_lt _) | exact lt64 (right_lt (right_sub _ _)) | exact lt64 (pscale_lt _ _) | exact lt64 (pbase_lt _)) _).mono ?_); rintro e w1 ⟨rfl, hK1⟩; replace hK : Kp w w1 := (by first | exact Kp.trans' hK hK1 | exact Kp.trans hK hK1); clear hK1))
    | (go_at_call 37; first | ((with_reducible refine (psub_any _ _ (by first | assumption | omega | exact lt64 (padd_lt _ _) | exact lt64 (pt_lt _ _) | exact lt64 (ppow_lt _ _) | exact lt64 (taken_lt _) | exact lt64 (pall_lt _) | exact lt64 (pneg_lt _) | exact lt64 (right_lt (right_sub _ _)) | exact lt64 (pscale_lt _ _) | exact lt64 (pbase_lt _)) (by first | assumption | omega | exact lt64 (padd_lt _ _) | exact lt64 (pt_lt _ _) | exact lt64 (ppow_lt _ _) | exact lt64 (taken_lt _) | exact lt64 (pall_lt _) | exact lt64 (pneg_lt _) | exact lt64 (right_lt (right_sub _ _)) | exact lt64 (pscale_lt _ _) | exact lt64 (pbase_lt _)) _).mono ?_); rintro e w1 ⟨rfl, hK1⟩; replace hK : Kp w w1 := (by first | exact Kp.trans' hK hK1 | exact Kp.trans hK hK1); clear hK1))
    | (go_at_call 39; first | ((with_reducible refine (pneg_any _ (by first | assumption | omega | exact lt64 (padd_lt _ _) | exact lt64 (pt_lt _ _) | exact lt64 (ppow_lt _ _) | exact lt64 (taken_lt _) | exact lt64 (pall_lt _) | exact lt64 (pneg_lt _) | exact lt64 (right_lt (right_sub _ _)) | exact lt64 (pscale_lt _ _) | exact lt64 (pbase_lt _)) _).mono ?_); rintro e w' ⟨rfl, k, rfl⟩)))
  go_ret
  exact ⟨rfl, by first | exact hK | exact hK.drewN _⟩

theorem walk_group (p : Nat) (hp : p < 18446744073709551616) (q : Nat) (hq : q < 18446744073709551616) (s : Nat) (hs : s < 18446744073709551616) (w : World) :
    Calls Try.prog 9 #[.int .u64 (p : Int), .int .u64 (q : Int), .int .u64 (s : Int)] w fun e w' => e = .returned (.bool true) ∧ Kp w w' := by
  by_cases hc : pright p = true
  · exact walk_group_r p hp q hq s hs w hc
  · exact walk_group_n p hp q hq s hs w (by simpa using hc)

theorem walk_halves_0 (n : Nat) (hn : n < 18446744073709551616) (w : World) (hz : n % 4611686018427377339 = 0) :
    Calls Try.prog 11 #[.int .u64 (n : Int)] w fun e w' => e = .returned (.bool true) ∧ Kp w w' := by
  have hm : pright 0 = false := rfl
  have e1 : (n : Int) % 4611686018427377339 = 0 := by omega
  clear hz
  go_enter Try.func11, Try.ntmps11
  go_wp2_with (first
    | (go_at_call 33; (with_reducible refine (k_r0 _).mono ?_); rintro e w' ⟨rfl, k, rfl⟩)
    | (go_at_call 32; first | (refine (small6 _).mono ?_; rintro e w1 ⟨rfl, hK⟩))
    | (go_at_call 33; first | ((with_reducible refine (k_r1 _).mono ?_); rintro e w' ⟨rfl, k, rfl⟩) | ((with_reducible refine (pright_any _ (by first | assumption | omega | exact lt64 (padd_lt _ _) | exact lt64 (pt_lt _ _) | exact lt64 (ppow_lt _ _) | exact lt64 (taken_lt _) | exact lt64 (pall_lt _) | exact lt64 (pneg_lt _) | exact lt64 (right_lt (right_sub _ _)) | exact lt64 (pscale_lt _ _) | exact lt64 (pbase_lt _)) _).mono ?_); rintro e w' ⟨rfl, k, rfl⟩))
    | (go_at_call 35; first | ((with_reducible refine (padd_any _ _ (by first | assumption | omega | exact lt64 (padd_lt _ _) | exact lt64 (pt_lt _ _) | exact lt64 (ppow_lt _ _) | exact lt64 (taken_lt _) | exact lt64 (pall_lt _) | exact lt64 (pneg_lt _) | exact lt64 (right_lt (right_sub _ _)) | exact lt64 (pscale_lt _ _) | exact lt64 (pbase_lt _)) (by first | assumption | omega | exact lt64 (padd_lt _ _) | exact lt64 (pt_lt _ _) | exact lt64 (ppow_lt _ _) | exact lt64 (taken_lt _) | exact lt64 (pall_lt _) | exact lt64 (pneg_lt _) | exact lt64 (right_lt (right_sub _ _)) | exact lt64 (pscale_lt _ _) | exact lt64 (pbase_lt _)) _).mono ?_); rintro e w1 ⟨rfl, hK1⟩; replace hK : Kp w w1 := (by first | exact Kp.trans' hK hK1 | exact Kp.trans hK hK1); clear hK1) | ((with_reducible refine (padd_1 _ (by first | assumption | omega | exact lt64 (padd_lt _ _) | exact lt64 (pt_lt _ _) | exact lt64 (ppow_lt _ _) | exact lt64 (taken_lt _) | exact lt64 (pall_lt _) | exact lt64 (pneg_lt _) | exact lt64 (right_lt (right_sub _ _)) | exact lt64 (pscale_lt _ _) | exact lt64 (pbase_lt _)) _).mono ?_); rintro e w1 ⟨rfl, hK1⟩; replace hK : Kp w w1 := (by first | exact Kp.trans' hK hK1 | exact Kp.trans hK hK1); clear hK1))
    | (go_at_call 37; first | ((with_reducible refine (psub_any _ _ (by first | assumption | omega | exact lt64 (padd_lt _ _) | exact lt64 (pt_lt _ _) | exact lt64 (ppow_lt _ _) | exact lt64 (taken_lt _) | exact lt64 (pall_lt _) | exact lt64 (pneg_lt _) | exact lt64 (right_lt (right_sub _ _)) | exact lt64 (pscale_lt _ _) | exact lt64 (pbase_lt _)) (by first | assumption | omega | exact lt64 (padd_lt _ _) | exact lt64 (pt_lt _ _) | exact lt64 (ppow_lt _ _) | exact lt64 (taken_lt _) | exact lt64 (pall_lt _) | exact lt64 (pneg_lt _) | exact lt64 (right_lt (right_sub _ _)) | exact lt64 (pscale_lt _ _) | exact lt64 (pbase_lt _)) _).mono ?_); rintro e w1 ⟨rfl, hK1⟩; replace hK : Kp w w1 := (by first | exact Kp.trans' hK hK1 | exact Kp.trans hK hK1); clear hK1))
    | (go_at_call 39; first | ((with_reducible refine (pneg_any _ (by first | assumption | omega | exact lt64 (padd_lt _ _) | exact lt64 (pt_lt _ _) | exact lt64 (ppow_lt _ _) | exact lt64 (taken_lt _) | exact lt64 (pall_lt _) | exact lt64 (pneg_lt _) | exact lt64 (right_lt (right_sub _ _)) | exact lt64 (pscale_lt _ _) | exact lt64 (pbase_lt _)) _).mono ?_); rintro e w' ⟨rfl, k, rfl⟩)))
  go_ret
  exact ⟨rfl, by first | exact hK | exact hK.drewN _⟩

theorem walk_halves_r (n : Nat) (hn : n < 18446744073709551616) (w : World) (hz : ¬ n % 4611686018427377339 = 0) (hr : pright (n % 4611686018427377339) = true) :
    Calls Try.prog 11 #[.int .u64 (n : Int)] w fun e w' => e = .returned (.bool true) ∧ Kp w w' := by
  obtain ⟨m, hm⟩ : ∃ m, m = n % 4611686018427377339 := ⟨_, rfl⟩
  have hl : m < 4611686018427377339 := by omega
  have h0 : 0 < m := by omega
  have hz' : ((m : Int) == 0) = false := by simp; omega
  have e1 : (n : Int) % 4611686018427377339 = (m : Int) := by omega
  obtain ⟨r, hr0⟩ : ∃ r, r = 4611686018427377339 - m := ⟨_, rfl⟩
  have e2 : 4611686018427377339 - (m : Int) = (r : Int) := by omega
  have hr2 : r < 18446744073709551616 := by omega
  have hh := halves h0 hl
  have ha := fun h => halves_add h0 hl h
  rw [← hr0] at hh ha
  rw [← hm] at hr
  rw [hr] at hh
  have ha := ha hr
  have hh2 : pright r = false := hh
  clear hh
  clear hm hr0 hz
  go_enter Try.func11, Try.ntmps11
  go_wp2_with (first
    | (go_at_call 32; first | (refine (small6 _).mono ?_; rintro e w1 ⟨rfl, hK⟩))
    | (go_at_call 33; first | ((with_reducible refine (k_r1 _).mono ?_); rintro e w' ⟨rfl, k, rfl⟩) | ((with_reducible refine (pright_any _ (by first | assumption | omega | exact lt64 (padd_lt _ _) | exact lt64 (pt_lt _ _) | exact lt64 (ppow_lt _ _) | exact lt64 (taken_lt _) | exact lt64 (pall_lt _) | exact lt64 (pneg_lt _) | exact lt64 (right_lt (right_sub _ _)) | exact lt64 (pscale_lt _ _) | exact lt64 (pbase_lt _)) _).mono ?_); rintro e w' ⟨rfl, k, rfl⟩))
    | (go_at_call 35; first | ((with_reducible refine (padd_any _ _ (by first | assumption | omega | exact lt64 (padd_lt _ _) | exact lt64 (pt_lt _ _) | exact lt64 (ppow_lt _ _) | exact lt64 (taken_lt _) | exact lt64 (pall_lt _) | exact lt64 (pneg_lt _) | exact lt64 (right_lt (right_sub _ _)) | exact lt64 (pscale_lt _ _) | exact lt64 (pbase_lt _)) (by first | assumption | omega | exact lt64 (padd_lt _ _) | exact lt64 (pt_lt _ _) | exact lt64 (ppow_lt _ _) | exact lt64 (taken_lt _) | exact lt64 (pall_lt _) | exact lt64 (pneg_lt _) | exact lt64 (right_lt (right_sub _ _)) | exact lt64 (pscale_lt _ _) | exact lt64 (pbase_lt _)) _).mono ?_); rintro e w1 ⟨rfl, hK1⟩; replace hK : Kp w w1 := (by first | exact Kp.trans' hK hK1 | exact Kp.trans hK hK1); clear hK1) | ((with_reducible refine (padd_1 _ (by first | assumption | omega | exact lt64 (padd_lt _ _) | exact lt64 (pt_lt _ _) | exact lt64 (ppow_lt _ _) | exact lt64 (taken_lt _) | exact lt64 (pall_lt _) | exact lt64 (pneg_lt _) | exact lt64 (right_lt (right_sub _ _)) | exact lt64 (pscale_lt _ _) | exact lt64 (pbase_lt _)) _).mono ?_); rintro e w1 ⟨rfl, hK1⟩; replace hK : Kp w w1 := (by first | exact Kp.trans' hK hK1 | exact Kp.trans hK hK1); clear hK1))
    | (go_at_call 37; first | ((with_reducible refine (psub_any _ _ (by first | assumption | omega | exact lt64 (padd_lt _ _) | exact lt64 (pt_lt _ _) | exact lt64 (ppow_lt _ _) | exact lt64 (taken_lt _) | exact lt64 (pall_lt _) | exact lt64 (pneg_lt _) | exact lt64 (right_lt (right_sub _ _)) | exact lt64 (pscale_lt _ _) | exact lt64 (pbase_lt _)) (by first | assumption | omega | exact lt64 (padd_lt _ _) | exact lt64 (pt_lt _ _) | exact lt64 (ppow_lt _ _) | exact lt64 (taken_lt _) | exact lt64 (pall_lt _) | exact lt64 (pneg_lt _) | exact lt64 (right_lt (right_sub _ _)) | exact lt64 (pscale_lt _ _) | exact lt64 (pbase_lt _)) _).mono ?_); rintro e w1 ⟨rfl, hK1⟩; replace hK : Kp w w1 := (by first | exact Kp.trans' hK hK1 | exact Kp.trans hK hK1); clear hK1))
    | (go_at_call 39; first | ((with_reducible refine (pneg_any _ (by first | assumption | omega | exact lt64 (padd_lt _ _) | exact lt64 (pt_lt _ _) | exact lt64 (ppow_lt _ _) | exact lt64 (taken_lt _) | exact lt64 (pall_lt _) | exact lt64 (pneg_lt _) | exact lt64 (right_lt (right_sub _ _)) | exact lt64 (pscale_lt _ _) | exact lt64 (pbase_lt _)) _).mono ?_); rintro e w' ⟨rfl, k, rfl⟩)))
  go_ret
  exact ⟨rfl, by first | exact hK | exact hK.drewN _⟩

theorem walk_halves_n (n : Nat) (hn : n < 18446744073709551616) (w : World) (hz : ¬ n % 4611686018427377339 = 0) (hr : pright (n % 4611686018427377339) = false) :
    Calls Try.prog 11 #[.int .u64 (n : Int)] w fun e w' => e = .returned (.bool true) ∧ Kp w w' := by
  obtain ⟨m, hm⟩ : ∃ m, m = n % 4611686018427377339 := ⟨_, rfl⟩
  have hl : m < 4611686018427377339 := by omega
  have h0 : 0 < m := by omega
  have hz' : ((m : Int) == 0) = false := by simp; omega
  have e1 : (n : Int) % 4611686018427377339 = (m : Int) := by omega
  obtain ⟨r, hr0⟩ : ∃ r, r = 4611686018427377339 - m := ⟨_, rfl⟩
  have e2 : 4611686018427377339 - (m : Int) = (r : Int) := by omega
  have hr2 : r < 18446744073709551616 := by omega
  have hh := halves h0 hl
  have ha := fun h => halves_add h0 hl h
  rw [← hr0] at hh ha
  rw [← hm] at hr
  rw [hr] at hh
  clear ha
  have hh2 : pright r = true := hh
  clear hh
  clear hm hr0 hz
  go_enter Try.func11, Try.ntmps11
  go_wp2_with (first
    | (go_at_call 32; first | (refine (small6 _).mono ?_; rintro e w1 ⟨rfl, hK⟩))
    | (go_at_call 33; first | ((with_reducible refine (k_r1 _).mono ?_); rintro e w' ⟨rfl, k, rfl⟩) | ((with_reducible refine (pright_any _ (by first | assumption | omega | exact lt64 (padd_lt _ _) | exact lt64 (pt_lt _ _) | exact lt64 (ppow_lt _ _) | exact lt64 (taken_lt _) | exact lt64 (pall_lt _) | exact lt64 (pneg_lt _) | exact lt64 (right_lt (right_sub _ _)) | exact lt64 (pscale_lt _ _) | exact lt64 (pbase_lt _)) _).mono ?_); rintro e w' ⟨rfl, k, rfl⟩))
    | (go_at_call 35; first | ((with_reducible refine (padd_any _ _ (by first | assumption | omega | exact lt64 (padd_lt _ _) | exact lt64 (pt_lt _ _) | exact lt64 (ppow_lt _ _) | exact lt64 (taken_lt _) | exact lt64 (pall_lt _) | exact lt64 (pneg_lt _) | exact lt64 (right_lt (right_sub _ _)) | exact lt64 (pscale_lt _ _) | exact lt64 (pbase_lt _)) (by first | assumption | omega | exact lt64 (padd_lt _ _) | exact lt64 (pt_lt _ _) | exact lt64 (ppow_lt _ _) | exact lt64 (taken_lt _) | exact lt64 (pall_lt _) | exact lt64 (pneg_lt _) | exact lt64 (right_lt (right_sub _ _)) | exact lt64 (pscale_lt _ _) | exact lt64 (pbase_lt _)) _).mono ?_); rintro e w1 ⟨rfl, hK1⟩; replace hK : Kp w w1 := (by first | exact Kp.trans' hK hK1 | exact Kp.trans hK hK1); clear hK1) | ((with_reducible refine (padd_1 _ (by first | assumption | omega | exact lt64 (padd_lt _ _) | exact lt64 (pt_lt _ _) | exact lt64 (ppow_lt _ _) | exact lt64 (taken_lt _) | exact lt64 (pall_lt _) | exact lt64 (pneg_lt _) | exact lt64 (right_lt (right_sub _ _)) | exact lt64 (pscale_lt _ _) | exact lt64 (pbase_lt _)) _).mono ?_); rintro e w1 ⟨rfl, hK1⟩; replace hK : Kp w w1 := (by first | exact Kp.trans' hK hK1 | exact Kp.trans hK hK1); clear hK1))
    | (go_at_call 37; first | ((with_reducible refine (psub_any _ _ (by first | assumption | omega | exact lt64 (padd_lt _ _) | exact lt64 (pt_lt _ _) | exact lt64 (ppow_lt _ _) | exact lt64 (taken_lt _) | exact lt64 (pall_lt _) | exact lt64 (pneg_lt _) | exact lt64 (right_lt (right_sub _ _)) | exact lt64 (pscale_lt _ _) | exact lt64 (pbase_lt _)) (by first | assumption | omega | exact lt64 (padd_lt _ _) | exact lt64 (pt_lt _ _) | exact lt64 (ppow_lt _ _) | exact lt64 (taken_lt _) | exact lt64 (pall_lt _) | exact lt64 (pneg_lt _) | exact lt64 (right_lt (right_sub _ _)) | exact lt64 (pscale_lt _ _) | exact lt64 (pbase_lt _)) _).mono ?_); rintro e w1 ⟨rfl, hK1⟩; replace hK : Kp w w1 := (by first | exact Kp.trans' hK hK1 | exact Kp.trans hK hK1); clear hK1))
    | (go_at_call 39; first | ((with_reducible refine (pneg_any _ (by first | assumption | omega | exact lt64 (padd_lt _ _) | exact lt64 (pt_lt _ _) | exact lt64 (ppow_lt _ _) | exact lt64 (taken_lt _) | exact lt64 (pall_lt _) | exact lt64 (pneg_lt _) | exact lt64 (right_lt (right_sub _ _)) | exact lt64 (pscale_lt _ _) | exact lt64 (pbase_lt _)) _).mono ?_); rintro e w' ⟨rfl, k, rfl⟩)))
  go_ret
  exact ⟨rfl, by first | exact hK | exact hK.drewN _⟩

theorem walk_halves (n : Nat) (hn : n < 18446744073709551616) (w : World) :
    Calls Try.prog 11 #[.int .u64 (n : Int)] w fun e w' => e = .returned (.bool true) ∧ Kp w w' := by
  by_cases hz : n % 4611686018427377339 = 0
  · exact walk_halves_0 n hn w hz
  · by_cases hc : pright (n % 4611686018427377339) = true
    · exact walk_halves_r n hn w hz hc
    · exact walk_halves_n n hn w hz (by simpa using hc)

set_option maxHeartbeats 2000000 in
theorem walk_scale (p : Nat) (hp : p < 18446744073709551616) (q : Nat) (hq : q < 18446744073709551616) (x : Nat) (hx : x < 18446744073709551616) (y : Nat) (hy : y < 18446744073709551616) (w : World) :
    Calls Try.prog 12 #[.int .u64 (p : Int), .int .u64 (q : Int), .int .u64 (x : Int), .int .u64 (y : Int)] w fun e w' => e = .returned (.bool true) ∧ Kp w w' := by
  have e1 : (x : Int) % 2305843009213688669 = (fof x : Nat) := (Int.natCast_emod _ _).symm
  have e2 : (y : Int) % 2305843009213688669 = (fof y : Nat) := (Int.natCast_emod _ _).symm
  have h1 := scale_scale p x
  have h2 := scale_scale p y
  have h3 := scale_scale q x
  have h4 : pscale (padd p q) (fof x) = padd (pscale p x) (pscale q x) := by rw [scale_scale, scale_add]
  have h5 : pscale p (fadd (fof x) (fof y)) = padd (pscale p x) (pscale p y) := by rw [scale_sum, scale_scale, scale_scale]
  have h6 : pscale (pscale p x) (fof y) = pscale p (fmul (fof x) (fof y)) := by rw [← scale_mul, scale_scale p x]
  have h7 := right_scale p x
  go_enter Try.func12, Try.ntmps12
  go_wp2_with (first
    | (go_at_call 32; first | (refine (small6 _).mono ?_; rintro e w1 ⟨rfl, hK⟩))
    | (go_at_call 33; first | ((with_reducible refine (k_r1 _).mono ?_); rintro e w' ⟨rfl, k, rfl⟩) | ((with_reducible refine (pright_any _ (by first | assumption | omega | exact lt64 (padd_lt _ _) | exact lt64 (pt_lt _ _) | exact lt64 (ppow_lt _ _) | exact lt64 (taken_lt _) | exact lt64 (pall_lt _) | exact lt64 (pneg_lt _) | exact lt64 (right_lt (right_sub _ _)) | exact lt64 (pscale_lt _ _) | exact lt64 (pbase_lt _)) _).mono ?_); rintro e w' ⟨rfl, k, rfl⟩))
    | (go_at_call 35; first | ((with_reducible refine (padd_any _ _ (by first | assumption | omega | exact lt64 (padd_lt _ _) | exact lt64 (pt_lt _ _) | exact lt64 (ppow_lt _ _) | exact lt64 (taken_lt _) | exact lt64 (pall_lt _) | exact lt64 (pneg_lt _) | exact lt64 (right_lt (right_sub _ _)) | exact lt64 (pscale_lt _ _) | exact lt64 (pbase_lt _)) (by first | assumption | omega | exact lt64 (padd_lt _ _) | exact lt64 (pt_lt _ _) | exact lt64 (ppow_lt _ _) | exact lt64 (taken_lt _) | exact lt64 (pall_lt _) | exact lt64 (pneg_lt _) | exact lt64 (right_lt (right_sub _ _)) | exact lt64 (pscale_lt _ _) | exact lt64 (pbase_lt _)) _).mono ?_); rintro e w1 ⟨rfl, hK1⟩; replace hK : Kp w w1 := (by first | exact Kp.trans' hK hK1 | exact Kp.trans hK hK1); clear hK1) | ((with_reducible refine (padd_1 _ (by first | assumption | omega | exact lt64 (padd_lt _ _) | exact lt64 (pt_lt _ _) | exact lt64 (ppow_lt _ _) | exact lt64 (taken_lt _) | exact lt64 (pall_lt _) | exact lt64 (pneg_lt _) | exact lt64 (right_lt (right_sub _ _)) | exact lt64 (pscale_lt _ _) | exact lt64 (pbase_lt _)) _).mono ?_); rintro e w1 ⟨rfl, hK1⟩; replace hK : Kp w w1 := (by first | exact Kp.trans' hK hK1 | exact Kp.trans hK hK1); clear hK1))
    | (go_at_call 37; first | ((with_reducible refine (psub_any _ _ (by first | assumption | omega | exact lt64 (padd_lt _ _) | exact lt64 (pt_lt _ _) | exact lt64 (ppow_lt _ _) | exact lt64 (taken_lt _) | exact lt64 (pall_lt _) | exact lt64 (pneg_lt _) | exact lt64 (right_lt (right_sub _ _)) | exact lt64 (pscale_lt _ _) | exact lt64 (pbase_lt _)) (by first | assumption | omega | exact lt64 (padd_lt _ _) | exact lt64 (pt_lt _ _) | exact lt64 (ppow_lt _ _) | exact lt64 (taken_lt _) | exact lt64 (pall_lt _) | exact lt64 (pneg_lt _) | exact lt64 (right_lt (right_sub _ _)) | exact lt64 (pscale_lt _ _) | exact lt64 (pbase_lt _)) _).mono ?_); rintro e w1 ⟨rfl, hK1⟩; replace hK : Kp w w1 := (by first | exact Kp.trans' hK hK1 | exact Kp.trans hK hK1); clear hK1))
    | (go_at_call 39; first | ((with_reducible refine (pneg_any _ (by first | assumption | omega | exact lt64 (padd_lt _ _) | exact lt64 (pt_lt _ _) | exact lt64 (ppow_lt _ _) | exact lt64 (taken_lt _) | exact lt64 (pall_lt _) | exact lt64 (pneg_lt _) | exact lt64 (right_lt (right_sub _ _)) | exact lt64 (pscale_lt _ _) | exact lt64 (pbase_lt _)) _).mono ?_); rintro e w' ⟨rfl, k, rfl⟩))
    | (go_at_call 43; first | ((with_reducible refine (pscale_any _ _ (by first | assumption | omega | exact lt64 (padd_lt _ _) | exact lt64 (pt_lt _ _) | exact lt64 (ppow_lt _ _) | exact lt64 (taken_lt _) | exact lt64 (pall_lt _) | exact lt64 (pneg_lt _) | exact lt64 (right_lt (right_sub _ _)) | exact lt64 (pscale_lt _ _) | exact lt64 (pbase_lt _)) _).mono ?_); rintro e w' ⟨rfl, k, rfl⟩) | ((with_reducible refine (pscale_c0 _ (by first | assumption | omega | exact lt64 (padd_lt _ _) | exact lt64 (pt_lt _ _) | exact lt64 (ppow_lt _ _) | exact lt64 (taken_lt _) | exact lt64 (pall_lt _) | exact lt64 (pneg_lt _) | exact lt64 (right_lt (right_sub _ _)) | exact lt64 (pscale_lt _ _) | exact lt64 (pbase_lt _)) _).mono ?_); rintro e w' ⟨rfl, k, rfl⟩) | ((with_reducible refine (pscale_c1 _ (by first | assumption | omega | exact lt64 (padd_lt _ _) | exact lt64 (pt_lt _ _) | exact lt64 (ppow_lt _ _) | exact lt64 (taken_lt _) | exact lt64 (pall_lt _) | exact lt64 (pneg_lt _) | exact lt64 (right_lt (right_sub _ _)) | exact lt64 (pscale_lt _ _) | exact lt64 (pbase_lt _)) _).mono ?_); rintro e w' ⟨rfl, k, rfl⟩) | ((with_reducible refine (pscale_cq _ (by first | assumption | omega | exact lt64 (padd_lt _ _) | exact lt64 (pt_lt _ _) | exact lt64 (ppow_lt _ _) | exact lt64 (taken_lt _) | exact lt64 (pall_lt _) | exact lt64 (pneg_lt _) | exact lt64 (right_lt (right_sub _ _)) | exact lt64 (pscale_lt _ _) | exact lt64 (pbase_lt _)) _).mono ?_); rintro e w' ⟨rfl, k, rfl⟩) | ((with_reducible refine (pscale_ch _ (by first | assumption | omega | exact lt64 (padd_lt _ _) | exact lt64 (pt_lt _ _) | exact lt64 (ppow_lt _ _) | exact lt64 (taken_lt _) | exact lt64 (pall_lt _) | exact lt64 (pneg_lt _) | exact lt64 (right_lt (right_sub _ _)) | exact lt64 (pscale_lt _ _) | exact lt64 (pbase_lt _)) _).mono ?_); rintro e w' ⟨rfl, k, rfl⟩))
    | (go_at_call 41; first | ((with_reducible refine (pbase_any _ _).mono ?_); rintro e w' ⟨rfl, k, rfl⟩))
    | (go_at_call 20; first | ((with_reducible refine (add_any _ _ _).mono ?_); rintro e w' ⟨rfl, rfl⟩))
    | (go_at_call 22; first | ((with_reducible refine (sub_any _ _ _).mono ?_); rintro e w' ⟨rfl, rfl⟩))
    | (go_at_call 26; first | ((with_reducible refine (neg_any _ _).mono ?_); rintro e w' ⟨rfl, rfl⟩))
    | (go_at_call 24; first | ((with_reducible refine (mul_any _ _ _).mono ?_); rintro e w' ⟨rfl, k, rfl⟩)))
  go_ret
  exact ⟨rfl, by first | exact hK | exact hK.drewN _⟩

set_option maxHeartbeats 2000000 in
theorem walk_base (x : Nat) (hx : x < 18446744073709551616) (y : Nat) (hy : y < 18446744073709551616) (w : World) :
    Calls Try.prog 13 #[.int .u64 (x : Int), .int .u64 (y : Int)] w fun e w' => e = .returned (.bool true) ∧ Kp w w' := by
  have e1 : (x : Int) % 2305843009213688669 = (fof x : Nat) := (Int.natCast_emod _ _).symm
  have e2 : (y : Int) % 2305843009213688669 = (fof y : Nat) := (Int.natCast_emod _ _).symm
  have h1 := base_base x
  have h2 := base_base y
  have h4 : pbase (fadd (fof x) (fof y)) = padd (pbase x) (pbase y) := by rw [base_add, base_base, base_base]
  have h5 : pbase (fsub (fof x) (fof y)) = psub (pbase x) (pbase y) := by rw [base_sub, base_base, base_base]
  have h6 : pbase (fneg (fof x)) = pneg (pbase x) := by rw [base_neg, base_base]
  have h7 : pscale (pbase x) (fof y) = pbase (fmul (fof x) (fof y)) := by rw [← base_mul, base_base x]
  have h8 := right_base x
  have h9 : ((pbase x : Int) == (pbase y : Int)) = ((fof x : Int) == (fof y : Int)) := by
    have h := base_eqb (fof_lt x) (fof_lt y)
    rw [base_base, base_base] at h
    rw [Bool.eq_iff_iff] at h ⊢
    simp only [beq_iff_eq] at h ⊢
    omega
  go_enter Try.func13, Try.ntmps13
  go_wp2_with (first
    | (go_at_call 32; first | (refine (small6 _).mono ?_; rintro e w1 ⟨rfl, hK⟩))
    | (go_at_call 33; first | ((with_reducible refine (k_r1 _).mono ?_); rintro e w' ⟨rfl, k, rfl⟩) | ((with_reducible refine (pright_any _ (by first | assumption | omega | exact lt64 (padd_lt _ _) | exact lt64 (pt_lt _ _) | exact lt64 (ppow_lt _ _) | exact lt64 (taken_lt _) | exact lt64 (pall_lt _) | exact lt64 (pneg_lt _) | exact lt64 (right_lt (right_sub _ _)) | exact lt64 (pscale_lt _ _) | exact lt64 (pbase_lt _)) _).mono ?_); rintro e w' ⟨rfl, k, rfl⟩))
    | (go_at_call 35; first | ((with_reducible refine (padd_any _ _ (by first | assumption | omega | exact lt64 (padd_lt _ _) | exact lt64 (pt_lt _ _) | exact lt64 (ppow_lt _ _) | exact lt64 (taken_lt _) | exact lt64 (pall_lt _) | exact lt64 (pneg_lt _) | exact lt64 (right_lt (right_sub _ _)) | exact lt64 (pscale_lt _ _) | exact lt64 (pbase_lt _)) (by first | assumption | omega | exact lt64 (padd_lt _ _) | exact lt64 (pt_lt _ _) | exact lt64 (ppow_lt _ _) | exact lt64 (taken_lt _) | exact lt64 (pall_lt _) | exact lt64 (pneg_lt _) | exact lt64 (right_lt (right_sub _ _)) | exact lt64 (pscale_lt _ _) | exact lt64 (pbase_lt _)) _).mono ?_); rintro e w1 ⟨rfl, hK1⟩; replace hK : Kp w w1 := (by first | exact Kp.trans' hK hK1 | exact Kp.trans hK hK1); clear hK1) | ((with_reducible refine (padd_1 _ (by first | assumption | omega | exact lt64 (padd_lt _ _) | exact lt64 (pt_lt _ _) | exact lt64 (ppow_lt _ _) | exact lt64 (taken_lt _) | exact lt64 (pall_lt _) | exact lt64 (pneg_lt _) | exact lt64 (right_lt (right_sub _ _)) | exact lt64 (pscale_lt _ _) | exact lt64 (pbase_lt _)) _).mono ?_); rintro e w1 ⟨rfl, hK1⟩; replace hK : Kp w w1 := (by first | exact Kp.trans' hK hK1 | exact Kp.trans hK hK1); clear hK1))
    | (go_at_call 37; first | ((with_reducible refine (psub_any _ _ (by first | assumption | omega | exact lt64 (padd_lt _ _) | exact lt64 (pt_lt _ _) | exact lt64 (ppow_lt _ _) | exact lt64 (taken_lt _) | exact lt64 (pall_lt _) | exact lt64 (pneg_lt _) | exact lt64 (right_lt (right_sub _ _)) | exact lt64 (pscale_lt _ _) | exact lt64 (pbase_lt _)) (by first | assumption | omega | exact lt64 (padd_lt _ _) | exact lt64 (pt_lt _ _) | exact lt64 (ppow_lt _ _) | exact lt64 (taken_lt _) | exact lt64 (pall_lt _) | exact lt64 (pneg_lt _) | exact lt64 (right_lt (right_sub _ _)) | exact lt64 (pscale_lt _ _) | exact lt64 (pbase_lt _)) _).mono ?_); rintro e w1 ⟨rfl, hK1⟩; replace hK : Kp w w1 := (by first | exact Kp.trans' hK hK1 | exact Kp.trans hK hK1); clear hK1))
    | (go_at_call 39; first | ((with_reducible refine (pneg_any _ (by first | assumption | omega | exact lt64 (padd_lt _ _) | exact lt64 (pt_lt _ _) | exact lt64 (ppow_lt _ _) | exact lt64 (taken_lt _) | exact lt64 (pall_lt _) | exact lt64 (pneg_lt _) | exact lt64 (right_lt (right_sub _ _)) | exact lt64 (pscale_lt _ _) | exact lt64 (pbase_lt _)) _).mono ?_); rintro e w' ⟨rfl, k, rfl⟩))
    | (go_at_call 43; first | ((with_reducible refine (pscale_any _ _ (by first | assumption | omega | exact lt64 (padd_lt _ _) | exact lt64 (pt_lt _ _) | exact lt64 (ppow_lt _ _) | exact lt64 (taken_lt _) | exact lt64 (pall_lt _) | exact lt64 (pneg_lt _) | exact lt64 (right_lt (right_sub _ _)) | exact lt64 (pscale_lt _ _) | exact lt64 (pbase_lt _)) _).mono ?_); rintro e w' ⟨rfl, k, rfl⟩) | ((with_reducible refine (pscale_c0 _ (by first | assumption | omega | exact lt64 (padd_lt _ _) | exact lt64 (pt_lt _ _) | exact lt64 (ppow_lt _ _) | exact lt64 (taken_lt _) | exact lt64 (pall_lt _) | exact lt64 (pneg_lt _) | exact lt64 (right_lt (right_sub _ _)) | exact lt64 (pscale_lt _ _) | exact lt64 (pbase_lt _)) _).mono ?_); rintro e w' ⟨rfl, k, rfl⟩) | ((with_reducible refine (pscale_c1 _ (by first | assumption | omega | exact lt64 (padd_lt _ _) | exact lt64 (pt_lt _ _) | exact lt64 (ppow_lt _ _) | exact lt64 (taken_lt _) | exact lt64 (pall_lt _) | exact lt64 (pneg_lt _) | exact lt64 (right_lt (right_sub _ _)) | exact lt64 (pscale_lt _ _) | exact lt64 (pbase_lt _)) _).mono ?_); rintro e w' ⟨rfl, k, rfl⟩) | ((with_reducible refine (pscale_cq _ (by first | assumption | omega | exact lt64 (padd_lt _ _) | exact lt64 (pt_lt _ _) | exact lt64 (ppow_lt _ _) | exact lt64 (taken_lt _) | exact lt64 (pall_lt _) | exact lt64 (pneg_lt _) | exact lt64 (right_lt (right_sub _ _)) | exact lt64 (pscale_lt _ _) | exact lt64 (pbase_lt _)) _).mono ?_); rintro e w' ⟨rfl, k, rfl⟩) | ((with_reducible refine (pscale_ch _ (by first | assumption | omega | exact lt64 (padd_lt _ _) | exact lt64 (pt_lt _ _) | exact lt64 (ppow_lt _ _) | exact lt64 (taken_lt _) | exact lt64 (pall_lt _) | exact lt64 (pneg_lt _) | exact lt64 (right_lt (right_sub _ _)) | exact lt64 (pscale_lt _ _) | exact lt64 (pbase_lt _)) _).mono ?_); rintro e w' ⟨rfl, k, rfl⟩))
    | (go_at_call 41; first | ((with_reducible refine (pbase_any _ _).mono ?_); rintro e w' ⟨rfl, k, rfl⟩))
    | (go_at_call 20; first | ((with_reducible refine (add_any _ _ _).mono ?_); rintro e w' ⟨rfl, rfl⟩))
    | (go_at_call 22; first | ((with_reducible refine (sub_any _ _ _).mono ?_); rintro e w' ⟨rfl, rfl⟩))
    | (go_at_call 26; first | ((with_reducible refine (neg_any _ _).mono ?_); rintro e w' ⟨rfl, rfl⟩))
    | (go_at_call 24; first | ((with_reducible refine (mul_any _ _ _).mono ?_); rintro e w' ⟨rfl, k, rfl⟩)))
  go_ret
  exact ⟨rfl, by first | exact hK | exact hK.drewN _⟩

theorem walk_roots_r (p : Nat) (hp : p < 18446744073709551616) (w : World) (hr : pright p = true) :
    Calls Try.prog 14 #[.int .u64 (p : Int)] w fun e w' => e = .returned (.bool true) ∧ Kp w w' := by
  have h1 := phalf_two hr
  have h2 := phalf_right p
  have h3 := lt64 (phalf_lt p)
  go_enter Try.func14, Try.ntmps14
  go_wp2_with (first
    | (go_at_call 32; first | (refine (small6 _).mono ?_; rintro e w1 ⟨rfl, hK⟩))
    | (go_at_call 33; first | ((with_reducible refine (k_r1 _).mono ?_); rintro e w' ⟨rfl, k, rfl⟩) | ((with_reducible refine (pright_any _ (by first | assumption | omega | exact lt64 (padd_lt _ _) | exact lt64 (pt_lt _ _) | exact lt64 (ppow_lt _ _) | exact lt64 (taken_lt _) | exact lt64 (pall_lt _) | exact lt64 (pneg_lt _) | exact lt64 (right_lt (right_sub _ _)) | exact lt64 (pscale_lt _ _) | exact lt64 (pbase_lt _)) _).mono ?_); rintro e w' ⟨rfl, k, rfl⟩))
    | (go_at_call 35; first | ((with_reducible refine (padd_any _ _ (by first | assumption | omega | exact lt64 (padd_lt _ _) | exact lt64 (pt_lt _ _) | exact lt64 (ppow_lt _ _) | exact lt64 (taken_lt _) | exact lt64 (pall_lt _) | exact lt64 (pneg_lt _) | exact lt64 (right_lt (right_sub _ _)) | exact lt64 (pscale_lt _ _) | exact lt64 (pbase_lt _)) (by first | assumption | omega | exact lt64 (padd_lt _ _) | exact lt64 (pt_lt _ _) | exact lt64 (ppow_lt _ _) | exact lt64 (taken_lt _) | exact lt64 (pall_lt _) | exact lt64 (pneg_lt _) | exact lt64 (right_lt (right_sub _ _)) | exact lt64 (pscale_lt _ _) | exact lt64 (pbase_lt _)) _).mono ?_); rintro e w1 ⟨rfl, hK1⟩; replace hK : Kp w w1 := (by first | exact Kp.trans' hK hK1 | exact Kp.trans hK hK1); clear hK1) | ((with_reducible refine (padd_1 _ (by first | assumption | omega | exact lt64 (padd_lt _ _) | exact lt64 (pt_lt _ _) | exact lt64 (ppow_lt _ _) | exact lt64 (taken_lt _) | exact lt64 (pall_lt _) | exact lt64 (pneg_lt _) | exact lt64 (right_lt (right_sub _ _)) | exact lt64 (pscale_lt _ _) | exact lt64 (pbase_lt _)) _).mono ?_); rintro e w1 ⟨rfl, hK1⟩; replace hK : Kp w w1 := (by first | exact Kp.trans' hK hK1 | exact Kp.trans hK hK1); clear hK1))
    | (go_at_call 37; first | ((with_reducible refine (psub_any _ _ (by first | assumption | omega | exact lt64 (padd_lt _ _) | exact lt64 (pt_lt _ _) | exact lt64 (ppow_lt _ _) | exact lt64 (taken_lt _) | exact lt64 (pall_lt _) | exact lt64 (pneg_lt _) | exact lt64 (right_lt (right_sub _ _)) | exact lt64 (pscale_lt _ _) | exact lt64 (pbase_lt _)) (by first | assumption | omega | exact lt64 (padd_lt _ _) | exact lt64 (pt_lt _ _) | exact lt64 (ppow_lt _ _) | exact lt64 (taken_lt _) | exact lt64 (pall_lt _) | exact lt64 (pneg_lt _) | exact lt64 (right_lt (right_sub _ _)) | exact lt64 (pscale_lt _ _) | exact lt64 (pbase_lt _)) _).mono ?_); rintro e w1 ⟨rfl, hK1⟩; replace hK : Kp w w1 := (by first | exact Kp.trans' hK hK1 | exact Kp.trans hK hK1); clear hK1))
    | (go_at_call 39; first | ((with_reducible refine (pneg_any _ (by first | assumption | omega | exact lt64 (padd_lt _ _) | exact lt64 (pt_lt _ _) | exact lt64 (ppow_lt _ _) | exact lt64 (taken_lt _) | exact lt64 (pall_lt _) | exact lt64 (pneg_lt _) | exact lt64 (right_lt (right_sub _ _)) | exact lt64 (pscale_lt _ _) | exact lt64 (pbase_lt _)) _).mono ?_); rintro e w' ⟨rfl, k, rfl⟩))
    | (go_at_call 43; first | ((with_reducible refine (pscale_any _ _ (by first | assumption | omega | exact lt64 (padd_lt _ _) | exact lt64 (pt_lt _ _) | exact lt64 (ppow_lt _ _) | exact lt64 (taken_lt _) | exact lt64 (pall_lt _) | exact lt64 (pneg_lt _) | exact lt64 (right_lt (right_sub _ _)) | exact lt64 (pscale_lt _ _) | exact lt64 (pbase_lt _)) _).mono ?_); rintro e w' ⟨rfl, k, rfl⟩) | ((with_reducible refine (pscale_c0 _ (by first | assumption | omega | exact lt64 (padd_lt _ _) | exact lt64 (pt_lt _ _) | exact lt64 (ppow_lt _ _) | exact lt64 (taken_lt _) | exact lt64 (pall_lt _) | exact lt64 (pneg_lt _) | exact lt64 (right_lt (right_sub _ _)) | exact lt64 (pscale_lt _ _) | exact lt64 (pbase_lt _)) _).mono ?_); rintro e w' ⟨rfl, k, rfl⟩) | ((with_reducible refine (pscale_c1 _ (by first | assumption | omega | exact lt64 (padd_lt _ _) | exact lt64 (pt_lt _ _) | exact lt64 (ppow_lt _ _) | exact lt64 (taken_lt _) | exact lt64 (pall_lt _) | exact lt64 (pneg_lt _) | exact lt64 (right_lt (right_sub _ _)) | exact lt64 (pscale_lt _ _) | exact lt64 (pbase_lt _)) _).mono ?_); rintro e w' ⟨rfl, k, rfl⟩) | ((with_reducible refine (pscale_cq _ (by first | assumption | omega | exact lt64 (padd_lt _ _) | exact lt64 (pt_lt _ _) | exact lt64 (ppow_lt _ _) | exact lt64 (taken_lt _) | exact lt64 (pall_lt _) | exact lt64 (pneg_lt _) | exact lt64 (right_lt (right_sub _ _)) | exact lt64 (pscale_lt _ _) | exact lt64 (pbase_lt _)) _).mono ?_); rintro e w' ⟨rfl, k, rfl⟩) | ((with_reducible refine (pscale_ch _ (by first | assumption | omega | exact lt64 (padd_lt _ _) | exact lt64 (pt_lt _ _) | exact lt64 (ppow_lt _ _) | exact lt64 (taken_lt _) | exact lt64 (pall_lt _) | exact lt64 (pneg_lt _) | exact lt64 (right_lt (right_sub _ _)) | exact lt64 (pscale_lt _ _) | exact lt64 (pbase_lt _)) _).mono ?_); rintro e w' ⟨rfl, k, rfl⟩))
    | (go_at_call 16; first | ((with_reducible refine (inv_two _).mono ?_); rintro e w' ⟨rfl, k, rfl⟩)))
  go_ret
  exact ⟨rfl, by first | exact hK | exact hK.drewN _⟩

theorem walk_roots_n (p : Nat) (hp : p < 18446744073709551616) (w : World) (hr : pright p = false) :
    Calls Try.prog 14 #[.int .u64 (p : Int)] w fun e w' => e = .returned (.bool true) ∧ Kp w w' := by
  have h1 : padd p p = 1 := by unfold padd; rw [taken_not hr]; rfl
  go_enter Try.func14, Try.ntmps14
  go_wp2_with (first
    | (go_at_call 32; first | (refine (small6 _).mono ?_; rintro e w1 ⟨rfl, hK⟩))
    | (go_at_call 33; first | ((with_reducible refine (k_r1 _).mono ?_); rintro e w' ⟨rfl, k, rfl⟩) | ((with_reducible refine (pright_any _ (by first | assumption | omega | exact lt64 (padd_lt _ _) | exact lt64 (pt_lt _ _) | exact lt64 (ppow_lt _ _) | exact lt64 (taken_lt _) | exact lt64 (pall_lt _) | exact lt64 (pneg_lt _) | exact lt64 (right_lt (right_sub _ _)) | exact lt64 (pscale_lt _ _) | exact lt64 (pbase_lt _)) _).mono ?_); rintro e w' ⟨rfl, k, rfl⟩))
    | (go_at_call 35; first | ((with_reducible refine (padd_any _ _ (by first | assumption | omega | exact lt64 (padd_lt _ _) | exact lt64 (pt_lt _ _) | exact lt64 (ppow_lt _ _) | exact lt64 (taken_lt _) | exact lt64 (pall_lt _) | exact lt64 (pneg_lt _) | exact lt64 (right_lt (right_sub _ _)) | exact lt64 (pscale_lt _ _) | exact lt64 (pbase_lt _)) (by first | assumption | omega | exact lt64 (padd_lt _ _) | exact lt64 (pt_lt _ _) | exact lt64 (ppow_lt _ _) | exact lt64 (taken_lt _) | exact lt64 (pall_lt _) | exact lt64 (pneg_lt _) | exact lt64 (right_lt (right_sub _ _)) | exact lt64 (pscale_lt _ _) | exact lt64 (pbase_lt _)) _).mono ?_); rintro e w1 ⟨rfl, hK1⟩; replace hK : Kp w w1 := (by first | exact Kp.trans' hK hK1 | exact Kp.trans hK hK1); clear hK1) | ((with_reducible refine (padd_1 _ (by first | assumption | omega | exact lt64 (padd_lt _ _) | exact lt64 (pt_lt _ _) | exact lt64 (ppow_lt _ _) | exact lt64 (taken_lt _) | exact lt64 (pall_lt _) | exact lt64 (pneg_lt _) | exact lt64 (right_lt (right_sub _ _)) | exact lt64 (pscale_lt _ _) | exact lt64 (pbase_lt _)) _).mono ?_); rintro e w1 ⟨rfl, hK1⟩; replace hK : Kp w w1 := (by first | exact Kp.trans' hK hK1 | exact Kp.trans hK hK1); clear hK1))
    | (go_at_call 37; first | ((with_reducible refine (psub_any _ _ (by first | assumption | omega | exact lt64 (padd_lt _ _) | exact lt64 (pt_lt _ _) | exact lt64 (ppow_lt _ _) | exact lt64 (taken_lt _) | exact lt64 (pall_lt _) | exact lt64 (pneg_lt _) | exact lt64 (right_lt (right_sub _ _)) | exact lt64 (pscale_lt _ _) | exact lt64 (pbase_lt _)) (by first | assumption | omega | exact lt64 (padd_lt _ _) | exact lt64 (pt_lt _ _) | exact lt64 (ppow_lt _ _) | exact lt64 (taken_lt _) | exact lt64 (pall_lt _) | exact lt64 (pneg_lt _) | exact lt64 (right_lt (right_sub _ _)) | exact lt64 (pscale_lt _ _) | exact lt64 (pbase_lt _)) _).mono ?_); rintro e w1 ⟨rfl, hK1⟩; replace hK : Kp w w1 := (by first | exact Kp.trans' hK hK1 | exact Kp.trans hK hK1); clear hK1))
    | (go_at_call 39; first | ((with_reducible refine (pneg_any _ (by first | assumption | omega | exact lt64 (padd_lt _ _) | exact lt64 (pt_lt _ _) | exact lt64 (ppow_lt _ _) | exact lt64 (taken_lt _) | exact lt64 (pall_lt _) | exact lt64 (pneg_lt _) | exact lt64 (right_lt (right_sub _ _)) | exact lt64 (pscale_lt _ _) | exact lt64 (pbase_lt _)) _).mono ?_); rintro e w' ⟨rfl, k, rfl⟩))
    | (go_at_call 43; first | ((with_reducible refine (pscale_any _ _ (by first | assumption | omega | exact lt64 (padd_lt _ _) | exact lt64 (pt_lt _ _) | exact lt64 (ppow_lt _ _) | exact lt64 (taken_lt _) | exact lt64 (pall_lt _) | exact lt64 (pneg_lt _) | exact lt64 (right_lt (right_sub _ _)) | exact lt64 (pscale_lt _ _) | exact lt64 (pbase_lt _)) _).mono ?_); rintro e w' ⟨rfl, k, rfl⟩) | ((with_reducible refine (pscale_c0 _ (by first | assumption | omega | exact lt64 (padd_lt _ _) | exact lt64 (pt_lt _ _) | exact lt64 (ppow_lt _ _) | exact lt64 (taken_lt _) | exact lt64 (pall_lt _) | exact lt64 (pneg_lt _) | exact lt64 (right_lt (right_sub _ _)) | exact lt64 (pscale_lt _ _) | exact lt64 (pbase_lt _)) _).mono ?_); rintro e w' ⟨rfl, k, rfl⟩) | ((with_reducible refine (pscale_c1 _ (by first | assumption | omega | exact lt64 (padd_lt _ _) | exact lt64 (pt_lt _ _) | exact lt64 (ppow_lt _ _) | exact lt64 (taken_lt _) | exact lt64 (pall_lt _) | exact lt64 (pneg_lt _) | exact lt64 (right_lt (right_sub _ _)) | exact lt64 (pscale_lt _ _) | exact lt64 (pbase_lt _)) _).mono ?_); rintro e w' ⟨rfl, k, rfl⟩) | ((with_reducible refine (pscale_cq _ (by first | assumption | omega | exact lt64 (padd_lt _ _) | exact lt64 (pt_lt _ _) | exact lt64 (ppow_lt _ _) | exact lt64 (taken_lt _) | exact lt64 (pall_lt _) | exact lt64 (pneg_lt _) | exact lt64 (right_lt (right_sub _ _)) | exact lt64 (pscale_lt _ _) | exact lt64 (pbase_lt _)) _).mono ?_); rintro e w' ⟨rfl, k, rfl⟩) | ((with_reducible refine (pscale_ch _ (by first | assumption | omega | exact lt64 (padd_lt _ _) | exact lt64 (pt_lt _ _) | exact lt64 (ppow_lt _ _) | exact lt64 (taken_lt _) | exact lt64 (pall_lt _) | exact lt64 (pneg_lt _) | exact lt64 (right_lt (right_sub _ _)) | exact lt64 (pscale_lt _ _) | exact lt64 (pbase_lt _)) _).mono ?_); rintro e w' ⟨rfl, k, rfl⟩))
    | (go_at_call 16; first | ((with_reducible refine (inv_two _).mono ?_); rintro e w' ⟨rfl, k, rfl⟩)))
  go_ret
  exact ⟨rfl, by first | exact hK | exact hK.drewN _⟩

theorem walk_roots (p : Nat) (hp : p < 18446744073709551616) (w : World) :
    Calls Try.prog 14 #[.int .u64 (p : Int)] w fun e w' => e = .returned (.bool true) ∧ Kp w w' := by
  by_cases hc : pright p = true
  · exact walk_roots_r p hp w hc
  · exact walk_roots_n p hp w (by simpa using hc)

end Go.Proofs.Ytndhbckdbobogaa
