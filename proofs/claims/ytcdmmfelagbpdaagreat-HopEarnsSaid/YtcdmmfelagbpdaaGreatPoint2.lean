/- Contracts of package point, which make memory: Add, Neg, Sub, Scale, Base. -/
import Derived.Test.YtcdmmfelagbpdaaGreatPoint
namespace Go.Proofs.YtcdmmfelagbpdaaGreat
open Go.RowKit Go.Lib Cfd Cpd Ckp
set_option linter.unusedVariables false

theorem pts_two (w : World) (a b : Nat) (t : TypeId) : Pts (w.alloc (.cells #[.int .u64 (a : Int), .int .u64 (b : Int)] t)) (some ⟨w.heap.size, 0, none⟩) [a, b] := by
 intro _
 refine ⟨_, rfl, by simp, fun j hj => ?_⟩
 have hj' : j = 0 ∨ j = 1 := by simp at hj; omega
 rcases hj' with rfl | rfl
 ·show World.cell? _ ⟨w.heap.size, 0, none⟩ = _
  rw [cell_of_row _ _ _ _ _ _ (heap_alloc_new w _)]; rfl
 ·show World.cell? _ ⟨w.heap.size, 1, none⟩ = _
  rw [cell_of_row _ _ _ _ _ _ (heap_alloc_new w _)]; rfl
theorem two_lt {a b : Nat} (ha : a < 18446744073709551616) (hb : b < 18446744073709551616) : ∀ i, [a, b].getD i 0 < 18446744073709551616 := by
 intro i
 match i with
 | 0 => exact ha
 | 1 => exact hb
 | i + 2 => simp

theorem pall_new (a b : Nat) (ha : a < 18446744073709551616) (hb : b < 18446744073709551616) (w : World) (t : TypeId) (c : Nat) :
  Calls Tryz.prog 26 #[.slice (some ⟨w.heap.size, 0, none⟩) 2 c] (w.alloc (.cells #[.int .u64 (a : Int), .int .u64 (b : Int)] t)) fun e w' => e = .returned (.int .u64 (padd a b : Nat)) ∧ Kp w w' := by
 have h := pall_any (some ⟨w.heap.size, 0, none⟩) 2 c [a, b] rfl (by decide) (two_lt ha hb) _ (pts_two w a b t)
 rw [pall_two] at h
 exact h.mono fun e w' ⟨h1, k, h2⟩ => ⟨h1, by rw [h2]; exact ((Kp.refl w).alloc _).drewN k⟩

theorem padd_any (a b : Nat) (ha : a < 18446744073709551616) (hb : b < 18446744073709551616) (w : World) : Calls Tryz.prog 8 #[.int .u64 a, .int .u64 b] w fun e w' => e = .returned (.int .u64 (padd a b : Nat)) ∧ Kp w w' := by
 have HA := Lib.hid (fun w t c => pall_new a b ha hb w t c)
 go_enter Tryz.func8, Tryz.ntmps8
 go_wp2_with (go_at_call 26; refine (HA.out _ _ _).mono ?_; rintro e w' ⟨rfl, hK⟩)
 go_ret
 exact ⟨rfl, ‹_›⟩
theorem pscale_any (a k : Nat) (ha : a < 18446744073709551616) (w : World) : Calls Tryz.prog 23 #[.int .u64 a, .int .u64 k] w fun e w' => e = .returned (.int .u64 (pscale a k : Nat)) ∧ ∃ k, w' = w.drewN k := by
 have ht := taken_lt a
 have hf := fof_lt k
 have e1 : (k : Int) % 2305843009213688669 = (fof k : Nat) := (Int.natCast_emod _ _).symm
 go_enter Tryz.func23, Tryz.ntmps23
 go_wp2_with (first | (go_at_call 54; refine (ptaken_any _ ha _).mono ?_; rintro e w' ⟨rfl, n, rfl⟩) | (go_at_call 53; refine (power_any _ _ (by omega) (by omega) _).mono ?_; rintro e w' ⟨rfl, n, rfl⟩))
 go_ret
 exact ⟨rfl, _, rfl⟩
theorem pscale_4 (k : Nat) (w : World) : Calls Tryz.prog 23 #[.int .u64 4, .int .u64 k] w fun e w' => e = .returned (.int .u64 (pbase k : Nat)) ∧ ∃ k, w' = w.drewN k := pscale_any 4 k (by decide) w
theorem pbase_any (k : Nat) (w : World) : Calls Tryz.prog 6 #[.int .u64 k] w fun e w' => e = .returned (.int .u64 (pbase k : Nat)) ∧ ∃ k, w' = w.drewN k := by
 go_enter Tryz.func6, Tryz.ntmps6
 go_wp2_with (go_at_call 23; refine (pscale_4 _ _).mono ?_; rintro e w' ⟨rfl, n, rfl⟩)
 go_ret
 exact ⟨rfl, _, rfl⟩
end Go.Proofs.YtcdmmfelagbpdaaGreat
