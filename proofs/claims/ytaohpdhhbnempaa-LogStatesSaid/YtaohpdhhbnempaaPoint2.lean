/- Contracts of package point, which make memory: Add, Neg, Sub, Scale, Base. -/
import Derived.Test.YtaohpdhhbnempaaPoint
namespace Go.Proofs.Ytaohpdhhbnempaa
open Go.RowKit Go.Lib Cfd Cpd Ckp
set_option linter.unusedVariables false

theorem pts_two (w : World) (a b : Nat) (t : TypeId) : Pts (w.alloc (.cells #[.int .u64 (a : Int), .int .u64 (b : Int)] t)) (some ⟨w.heap.size, 0, none⟩) [a, b] := by
 intro _
 refine ⟨_, rfl, by simp, fun j hj => ?_⟩
 have hj' : j = 0 ∨ j = 1 := by simp at hj; omega
 rcases hj' with rfl | rfl
 ·show World.cell? _ ⟨w.heap.size, 0, none⟩ = _
  rw [cell_of_row _ _ _ _ _ _ (heap_alloc_new w _)]; rfl
 ·show World.cell? _ ⟨w.heap.size, 1, none⟩ = _
  rw [cell_of_row _ _ _ _ _ _ (heap_alloc_new w _)]; rfl
theorem two_lt {a b : Nat} (ha : a < 18446744073709551616) (hb : b < 18446744073709551616) : ∀ i, [a, b].getD i 0 < 18446744073709551616 := by
 intro i
 match i with
 | 0 => exact ha
 | 1 => exact hb
 | i + 2 => simp
