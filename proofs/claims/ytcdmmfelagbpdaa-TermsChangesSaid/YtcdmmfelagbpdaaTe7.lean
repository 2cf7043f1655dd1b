/- Law 19's small (printed by gente7.py). -/
import Derived.Test.YtcdmmfelagbpdaaTe6
import Derived.Deep.RegionWith
namespace Go.Proofs.Ytcdmmfelagbpdaa
open Go.RowKit Go.Lib Ckp Cfd Cpd Cnt
set_option linter.unusedVariables false
set_option maxRecDepth 8192
set_option linter.unusedSimpArgs false
theorem tright_t : tright 100 500 10 4 5 9000 = true := by decide
theorem pown_base (k : Nat) (h : (4 ^ k % 4611686018427377339 == 1) = false) : pown (pbase k) = true := by
  have e : pbase k ≠ 1 := by
    rw [base_eq]; unfold ppow; rw [pw_eq]
    intro e
    rw [e] at h
    exact absurd h (by decide)
  unfold pown
  rw [right_base]
  simp [e]
theorem pbase_64 (k : Nat) : pbase k < 18446744073709551616 := by
  have := right_lt (right_base k); omega

theorem fit_ok (y0 y1 y2 y3 y4 z0 z1 z2 z3 z4 : Nat) (hy0 : pown y0 = true) (ly0 : y0 < 18446744073709551616) (hy1 : pown y1 = true) (ly1 : y1 < 18446744073709551616) (hy2 : pown y2 = true) (ly2 : y2 < 18446744073709551616) (hy3 : pown y3 = true) (ly3 : y3 < 18446744073709551616) (hy4 : pown y4 = true) (ly4 : y4 < 18446744073709551616) (hz0 : pown z0 = true) (lz0 : z0 < 18446744073709551616) (hz1 : pown z1 = true) (lz1 : z1 < 18446744073709551616) (hz2 : pown z2 = true) (lz2 : z2 < 18446744073709551616) (hz3 : pown z3 = true) (lz3 : z3 < 18446744073709551616) (hz4 : pown z4 = true) (lz4 : z4 < 18446744073709551616) (w : World) : Calls Try.prog 25 #[.agg #[.int .u8 0, .int .u8 0, .int .u8 0, .int .u8 0, .int .u8 0, .int .u8 0, .int .u8 0, .int .u8 0, .int .u8 0, .int .u8 0, .int .u8 0, .int .u8 0, .int .u8 0, .int .u8 0, .int .u8 0, .int .u8 0, .int .u8 0, .int .u8 0, .int .u8 0, .int .u8 0, .int .u8 0, .int .u8 0, .int .u8 0, .int .u8 0, .int .u8 0, .int .u8 0, .int .u8 0, .int .u8 0, .int .u8 0, .int .u8 0, .int .u8 0, .int .u8 0, .int .i64 0, .int .i64 1000, .int .u64 (y0 : Int), .int .u64 (y1 : Int), .int .u64 (y2 : Int), .int .u64 (y3 : Int), .int .u64 (y4 : Int), .int .u64 (z0 : Int), .int .u64 (z1 : Int), .int .u64 (z2 : Int), .int .u64 (z3 : Int), .int .u64 (z4 : Int), .int .i64 100, .int .i64 500, .int .i64 10, .int .i64 4, .int .i64 5, .int .i64 9000, .int .i64 100, .int .i64 500, .int .i64 10, .int .i64 4, .int .i64 5, .int .i64 9000, .int .i64 0]] w fun e w' => e = .returned (.int .i64 0) ∧ Kp w w' := by
  have h := fit_any 0 0 0 0 0 0 0 0 0 0 0 0 0 0 0 0 0 0 0 0 0 0 0 0 0 0 0 0 0 0 0 0 0 1000 100 500 10 4 5 9000 100 500 10 4 5 9000 0 y0 y1 y2 y3 y4 z0 z1 z2 z3 z4 ly0 ly1 ly2 ly3 ly4 lz0 lz1 lz2 lz3 lz4 (by omega) w
  have e : tfit 1000 0 0 (tright 100 500 10 4 5 9000) ([y0, y1, y2, y3, y4].all pown) (tright 100 500 10 4 5 9000) ([z0, z1, z2, z3, z4].all pown) 500 500 = 0 := by
    rw [tright_t]; simp [tfit, hy0, hy1, hy2, hy3, hy4, hz0, hz1, hz2, hz3, hz4]
  rw [e] at h
  exact h
theorem fit_low (y0 y1 y2 y3 y4 z0 z1 z2 z3 z4 : Nat) (hy0 : pown y0 = true) (ly0 : y0 < 18446744073709551616) (hy1 : pown y1 = true) (ly1 : y1 < 18446744073709551616) (hy2 : pown y2 = true) (ly2 : y2 < 18446744073709551616) (hy3 : pown y3 = true) (ly3 : y3 < 18446744073709551616) (hy4 : pown y4 = true) (ly4 : y4 < 18446744073709551616) (hz0 : pown z0 = true) (lz0 : z0 < 18446744073709551616) (hz1 : pown z1 = true) (lz1 : z1 < 18446744073709551616) (hz2 : pown z2 = true) (lz2 : z2 < 18446744073709551616) (hz3 : pown z3 = true) (lz3 : z3 < 18446744073709551616) (hz4 : pown z4 = true) (lz4 : z4 < 18446744073709551616) (w : World) : Calls Try.prog 25 #[.agg #[.int .u8 0, .int .u8 0, .int .u8 0, .int .u8 0, .int .u8 0, .int .u8 0, .int .u8 0, .int .u8 0, .int .u8 0, .int .u8 0, .int .u8 0, .int .u8 0, .int .u8 0, .int .u8 0, .int .u8 0, .int .u8 0, .int .u8 0, .int .u8 0, .int .u8 0, .int .u8 0, .int .u8 0, .int .u8 0, .int .u8 0, .int .u8 0, .int .u8 0, .int .u8 0, .int .u8 0, .int .u8 0, .int .u8 0, .int .u8 0, .int .u8 0, .int .u8 0, .int .i64 0, .int .i64 999, .int .u64 (y0 : Int), .int .u64 (y1 : Int), .int .u64 (y2 : Int), .int .u64 (y3 : Int), .int .u64 (y4 : Int), .int .u64 (z0 : Int), .int .u64 (z1 : Int), .int .u64 (z2 : Int), .int .u64 (z3 : Int), .int .u64 (z4 : Int), .int .i64 100, .int .i64 500, .int .i64 10, .int .i64 4, .int .i64 5, .int .i64 9000, .int .i64 100, .int .i64 500, .int .i64 10, .int .i64 4, .int .i64 5, .int .i64 9000, .int .i64 0]] w fun e w' => e = .returned (.int .i64 10) ∧ Kp w w' := by
  have h := fit_any 0 0 0 0 0 0 0 0 0 0 0 0 0 0 0 0 0 0 0 0 0 0 0 0 0 0 0 0 0 0 0 0 0 999 100 500 10 4 5 9000 100 500 10 4 5 9000 0 y0 y1 y2 y3 y4 z0 z1 z2 z3 z4 ly0 ly1 ly2 ly3 ly4 lz0 lz1 lz2 lz3 lz4 (by omega) w
  have e : tfit 999 0 0 (tright 100 500 10 4 5 9000) ([y0, y1, y2, y3, y4].all pown) (tright 100 500 10 4 5 9000) ([z0, z1, z2, z3, z4].all pown) 500 500 = 10 := by
    rw [tright_t]; simp [tfit, hy0, hy1, hy2, hy3, hy4, hz0, hz1, hz2, hz3, hz4]
  rw [e] at h
  exact h
theorem pown_1 : pown 1 = false := by unfold pown; simp
theorem fit_null (y0 y1 y2 y3 y4 z0 z1 z2 z3 z4 : Nat) (hy0 : pown y0 = true) (ly0 : y0 < 18446744073709551616) (hy1 : pown y1 = true) (ly1 : y1 < 18446744073709551616) (hy2 : pown y2 = true) (ly2 : y2 < 18446744073709551616) (hy3 : pown y3 = true) (ly3 : y3 < 18446744073709551616) (hy4 : pown y4 = true) (ly4 : y4 < 18446744073709551616) (hz0 : pown z0 = true) (lz0 : z0 < 18446744073709551616) (hz1 : pown z1 = true) (lz1 : z1 < 18446744073709551616) (hz2 : pown z2 = true) (lz2 : z2 < 18446744073709551616) (hz3 : pown z3 = true) (lz3 : z3 < 18446744073709551616) (hz4 : pown z4 = true) (lz4 : z4 < 18446744073709551616) (w : World) : Calls Try.prog 25 #[.agg #[.int .u8 0, .int .u8 0, .int .u8 0, .int .u8 0, .int .u8 0, .int .u8 0, .int .u8 0, .int .u8 0, .int .u8 0, .int .u8 0, .int .u8 0, .int .u8 0, .int .u8 0, .int .u8 0, .int .u8 0, .int .u8 0, .int .u8 0, .int .u8 0, .int .u8 0, .int .u8 0, .int .u8 0, .int .u8 0, .int .u8 0, .int .u8 0, .int .u8 0, .int .u8 0, .int .u8 0, .int .u8 0, .int .u8 0, .int .u8 0, .int .u8 0, .int .u8 0, .int .i64 0, .int .i64 1000, .int .u64 (y0 : Int), .int .u64 (y1 : Int), .int .u64 (y2 : Int), .int .u64 (y3 : Int), .int .u64 (y4 : Int), .int .u64 (z0 : Int), .int .u64 (z1 : Int), .int .u64 (z2 : Int), .int .u64 (z3 : Int), .int .u64 1, .int .i64 100, .int .i64 500, .int .i64 10, .int .i64 4, .int .i64 5, .int .i64 9000, .int .i64 100, .int .i64 500, .int .i64 10, .int .i64 4, .int .i64 5, .int .i64 9000, .int .i64 0]] w fun e w' => e = .returned (.int .i64 1) ∧ Kp w w' := by
  have h := fit_any 0 0 0 0 0 0 0 0 0 0 0 0 0 0 0 0 0 0 0 0 0 0 0 0 0 0 0 0 0 0 0 0 0 1000 100 500 10 4 5 9000 100 500 10 4 5 9000 0 y0 y1 y2 y3 y4 z0 z1 z2 z3 1 ly0 ly1 ly2 ly3 ly4 lz0 lz1 lz2 lz3 (by decide) (by omega) w
  have e : tfit 1000 0 0 (tright 100 500 10 4 5 9000) ([y0, y1, y2, y3, y4].all pown) (tright 100 500 10 4 5 9000) ([z0, z1, z2, z3, 1].all pown) 500 500 = 1 := by
    rw [tright_t]; simp [tfit, hy0, hy1, hy2, hy3, hy4, hz0, hz1, hz2, hz3, pown_1]
  rw [e] at h
  exact h
theorem ch_tu (w : World) : Calls Try.prog 23 #[TV 100 500 10 4 5 9000, TV 50 500 10 5 5 9000] w fun e w' => e = .returned (.int .i64 0) ∧ Kp w w' := change_any 100 500 10 4 5 9000 50 500 10 5 5 9000 w
theorem ch_ut (w : World) : Calls Try.prog 23 #[TV 50 500 10 5 5 9000, TV 100 500 10 4 5 9000] w fun e w' => e = .returned (.int .i64 9) ∧ Kp w w' := change_any 50 500 10 5 5 9000 100 500 10 4 5 9000 w
theorem ch_tv (w : World) : Calls Try.prog 23 #[TV 100 500 10 4 5 9000, TV 100 500 10 4 6 9000] w fun e w' => e = .returned (.int .i64 3) ∧ Kp w w' := change_any 100 500 10 4 5 9000 100 500 10 4 6 9000 w
theorem ch_tw (w : World) : Calls Try.prog 23 #[TV 100 500 10 4 5 9000, TV 100 500 0 4 5 9000] w fun e w' => e = .returned (.int .i64 1) ∧ Kp w w' := change_any 100 500 10 4 5 9000 100 500 0 4 5 9000 w
end Go.Proofs.Ytcdmmfelagbpdaa
