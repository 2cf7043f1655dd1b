/- The walks of TermsTells and TermsCosts. -/
import Derived.Test.YtcdmmfelagbpdaaTe8
import Derived.Test.YtcdmmfelagbpdaaTe5
namespace Go.Proofs.Ytcdmmfelagbpdaa
open Go.RowKit Go.Lib Ckp Cfd Cpd Cwl
set_option linter.unusedVariables false
set_option maxRecDepth 100000
set_option linter.unusedSimpArgs false
set_option maxHeartbeats 1000000 in
theorem walk_tells19 (w : World) (d r l c a m d' r' l' c' a' m' n k : Int) : Calls Try.prog 3 #[TV d r l c a m, TV d' r' l' c' a' m', .int .i64 n, .int .i64 k] w fun e w' => e = .returned (.bool true) ∧ Kp w w' := by
  have H0 := Lib.hid (fun w => tright_kp d r l c a m w)
  have H1 := Lib.hid (fun w => rtright_kp d r l c a m w)
  have H2 := Lib.hid (fun w => shown_any d r l c a m n w)
  have H3 := Lib.hid (fun w => rshown_any d r l c a m n w)
  have H4 := Lib.hid (fun w => tweight_any n w)
  have H5 := Lib.hid (fun w => rtweight_any n w)
  have H6 := Lib.hid (fun w => tfee_any n k w)
  have H7 := Lib.hid (fun w => rtfee_any n k w)
  have H8 := Lib.hid (fun w => change_any d r l c a m d' r' l' c' a' m' w)
  have H9 := Lib.hid (fun w => rchange_any d r l c a m d' r' l' c' a' m' w)
  generalize tchange (tright d r l c a m) (tright d' r' l' c' a' m') d r l c a m d' r' l' c' a' m' = z at *
  generalize tright d r l c a m = b0 at *
  generalize decide (d ≤ n) = b1 at *
  generalize tweight n = x at *
  generalize tfee n k = y at *
  go_enter Try.func3, Try.ntmps3
  go_wp2_with fail
  refine (small19_any _).mono ?_
  rintro e w1 ⟨rfl, hK⟩
  have hr1 := heap_kp (heap_new_at w (.cells #[.int .i64 d, .int .i64 r, .int .i64 l, .int .i64 c, .int .i64 a, .int .i64 m] 23) rfl) (Kp.trans ((Kp.refl _).alloc (.cells #[.int .i64 d', .int .i64 r', .int .i64 l', .int .i64 c', .int .i64 a', .int .i64 m'] 23)) hK)
  have hr2 := heap_kp (heap_new_at (w.alloc (.cells #[.int .i64 d, .int .i64 r, .int .i64 l, .int .i64 c, .int .i64 a, .int .i64 m] 23)) (.cells #[.int .i64 d', .int .i64 r', .int .i64 l', .int .i64 c', .int .i64 a', .int .i64 m'] 23) (k := w.heap.size + 1) (by simp)) hK
  have R1 := Lib.hid hr1
  have R2 := Lib.hid hr2
  have HK := Lib.hid (Kp.trans (((Kp.refl w).alloc _).alloc _) hK)
  clear hr1 hr2 hK
  go_wp2_with fail
  try simp only [List.append_eq, List.cons_append, List.nil_append]
  refine wp_region_quiet_below (by kernel_rfl) (by kernel_rfl) ?_
  repeat (first
    | (refine quiet_load_row rfl 23 _ rfl w.heap.size rfl 23 _ _ _ (row_later R1.out) Try.underlying23 rfl (by kernel_rfl) ?_; simp only [Act.put, List.setIfInBounds_toArray, List.set_cons_zero, List.set_cons_succ])
    | (refine quiet_load_row rfl 23 _ rfl (w.heap.size + 1) rfl 23 _ _ _ (row_later R2.out) Try.underlying23 rfl (by kernel_rfl) ?_; simp only [Act.put, List.setIfInBounds_toArray, List.set_cons_zero, List.set_cons_succ])
    | go_big_quiet_step ((first | (go_at_call 15; exact calls_kp (H0.out _)) | (go_at_call 16; exact calls_kp (H1.out _)) | (go_at_call 17; exact calls_kp (H2.out _)) | (go_at_call 18; exact calls_kp (H3.out _)) | (go_at_call 19; exact calls_same (H4.out _)) | (go_at_call 20; exact calls_same (H5.out _)) | (go_at_call 21; exact calls_same (H6.out _)) | (go_at_call 22; exact calls_same (H7.out _)) | (go_at_call 23; exact calls_kp (H8.out _)) | (go_at_call 24; exact calls_kp (H9.out _)))))
  refine wpQuiet_nil ?_
  intro w2 hw2
  replace hw2 := kp_later hw2
  go_wp2
  go_ret
  exact ⟨rfl, HK.out.trans hw2⟩

set_option maxHeartbeats 1000000 in
theorem walk_costs19 (w : World) (r : Int) (hr : -9223372036854775808 ≤ r ∧ r ≤ 9223372036854775807) (n : Int) (hn : -9223372036854775808 ≤ n ∧ n ≤ 9223372036854775807) : Calls Try.prog 6 #[.int .i64 r, .int .i64 n] w fun e w' => e = .returned (.bool true) ∧ Kp w w' := by
  by_cases h : 0 ≤ n ∧ n < 16 ∧ 0 ≤ r ∧ r ≤ 500
  · obtain ⟨h1, h2, h3, h4⟩ := h
    have hx0 : 0 ≤ r * n := Int.mul_nonneg h3 h1
    have hx1 : r * n ≤ 8000 := by have := Int.mul_le_mul h4 (show n ≤ 16 by omega) h1 (by omega); omega
    obtain ⟨x, hx⟩ : ∃ x, r * n = x := ⟨_, rfl⟩
    rw [hx] at hx0 hx1
    have ew : tweight n = 68 + 8 * n := by unfold tweight; rw [if_pos (by omega)]
    have ew1 : tweight (n + 1) = 76 + 8 * n := by unfold tweight; rw [if_pos (by omega)]; omega
    have em : r * (68 + 8 * n) = 68 * r + 8 * x := by rw [Int.mul_add, ← hx, Int.mul_comm r 68, Int.mul_left_comm]
    have em1 : r * (76 + 8 * n) = 76 * r + 8 * x := by rw [Int.mul_add, ← hx, Int.mul_comm r 76, Int.mul_left_comm]
    have ef : tfee r n = 68 * r + 8 * x := by unfold tfee; rw [if_pos (by omega), ew, em]
    have ef1 : tfee r (n + 1) = 76 * r + 8 * x := by unfold tfee; rw [if_pos (by omega), ew1, em1]
    have ef2 : tfee (2 * r) n = 136 * r + 16 * x := by unfold tfee; rw [if_pos (by omega), ew, Int.mul_assoc, em]; omega
    have ef0 : tfee r 0 = 68 * r := by unfold tfee; rw [if_pos (by omega), show tweight 0 = 68 from rfl, Int.mul_comm]
    have W0 := Lib.hid (fun w => show Calls Try.prog 19 #[.int .i64 n] w fun e w' => e = .returned (.int .i64 (68 + 8 * n)) ∧ w = w' from ew ▸ tweight_any n w)
    have W1 := Lib.hid (fun w => show Calls Try.prog 19 #[.int .i64 (n + 1)] w fun e w' => e = .returned (.int .i64 (76 + 8 * n)) ∧ w = w' from ew1 ▸ tweight_any (n + 1) w)
    have F0 := Lib.hid (fun w => show Calls Try.prog 21 #[.int .i64 r, .int .i64 0] w fun e w' => e = .returned (.int .i64 (68 * r)) ∧ w = w' from ef0 ▸ tfee_any r 0 w)
    have F1 := Lib.hid (fun w => show Calls Try.prog 21 #[.int .i64 r, .int .i64 n] w fun e w' => e = .returned (.int .i64 (68 * r + 8 * x)) ∧ w = w' from ef ▸ tfee_any r n w)
    have F2 := Lib.hid (fun w => show Calls Try.prog 21 #[.int .i64 r, .int .i64 (n + 1)] w fun e w' => e = .returned (.int .i64 (76 * r + 8 * x)) ∧ w = w' from ef1 ▸ tfee_any r (n + 1) w)
    have F3 := Lib.hid (fun w => show Calls Try.prog 21 #[.int .i64 (2 * r), .int .i64 n] w fun e w' => e = .returned (.int .i64 (136 * r + 16 * x)) ∧ w = w' from ef2 ▸ tfee_any (2 * r) n w)
    have t1 : (76 + 8 * n - (68 + 8 * n) == 8) = true := by have : 76 + 8 * n - (68 + 8 * n) = 8 := by omega
                                                            rw [this]; rfl
    have t2 : (76 * r + 8 * x - (68 * r + 8 * x) == 8 * r) = true := by have : 76 * r + 8 * x - (68 * r + 8 * x) = 8 * r := by omega
                                                                        rw [this]; exact beq_self_eq_true _
    have t3 : (136 * r + 16 * x == 2 * (68 * r + 8 * x)) = true := by have : 136 * r + 16 * x = 2 * (68 * r + 8 * x) := by omega
                                                                      rw [this]; exact beq_self_eq_true _
    clear ew ew1 em1 ef ef1 ef2 ef0 hx
    go_enter Try.func6, Try.ntmps6
    go_wp2_with (first
      | (go_at_call 14; refine (small19_any _).mono ?_; rintro e w1 ⟨rfl, hK⟩)
      | (go_at_call 19; first | ((with_reducible refine (W0.out _).mono ?_); rintro e w' ⟨rfl, rfl⟩) | ((with_reducible refine (W1.out _).mono ?_); rintro e w' ⟨rfl, rfl⟩))
      | (go_at_call 21; first | ((with_reducible refine (F0.out _).mono ?_); rintro e w' ⟨rfl, rfl⟩) | ((with_reducible refine (F1.out _).mono ?_); rintro e w' ⟨rfl, rfl⟩) | ((with_reducible refine (F2.out _).mono ?_); rintro e w' ⟨rfl, rfl⟩) | ((with_reducible refine (F3.out _).mono ?_); rintro e w' ⟨rfl, rfl⟩)))
    go_ret
    exact ⟨rfl, hK⟩
  · go_enter Try.func6, Try.ntmps6
    by_cases h1 : 0 ≤ n
    · by_cases h2 : n < 16
      · by_cases h3 : 0 ≤ r
        · have h4 : ¬ r ≤ 500 := fun h4 => h ⟨h1, h2, h3, h4⟩
          clear h
          go_wp2_with (go_at_call 14; refine (small19_any _).mono ?_; rintro e w1 ⟨rfl, hK⟩)
          go_ret
          exact ⟨rfl, hK⟩
        · clear h
          go_wp2_with (go_at_call 14; refine (small19_any _).mono ?_; rintro e w1 ⟨rfl, hK⟩)
          go_ret
          exact ⟨rfl, hK⟩
      · clear h
        go_wp2_with (go_at_call 14; refine (small19_any _).mono ?_; rintro e w1 ⟨rfl, hK⟩)
        go_ret
        exact ⟨rfl, hK⟩
    · clear h
      go_wp2_with (go_at_call 14; refine (small19_any _).mono ?_; rintro e w1 ⟨rfl, hK⟩)
      go_ret
      exact ⟨rfl, hK⟩
end Go.Proofs.Ytcdmmfelagbpdaa
