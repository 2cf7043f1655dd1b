/- Law 19's basics. -/
import Derived.Test.YtcdmmfelagbpdaaTe5
import Derived.Test.YtcdmmfelagbpdaaTe4
namespace Go.Proofs.Ytcdmmfelagbpdaa
open Go.RowKit Go.Lib Ckp Cfd Cpd
set_option linter.unusedVariables false
set_option maxRecDepth 8192
set_option linter.unusedSimpArgs false
theorem pb_at (k j : Nat) (z : Int) (hz : z = (k : Int) + j) (w : World) : Calls Try.prog 39 #[.int .u64 z] w fun e w' => e = .returned (.int .u64 (pbase (k + j) : Nat)) ∧ ∃ k, w' = w.drewN k := by
  have h := pbase_any (k + j) w
  rw [hz, ← Int.natCast_add]
  exact h
theorem row_next {w : World} {g : Nat} {cs cs' : Array Value} {t : TypeId} (hg : w.heap[g]? = some (.cells cs t (0, 0))) (j : Nat) (v : Value) (h : cs.setIfInBounds j v = cs') : (w.setCell ⟨g, j, none⟩ v).heap[g]? = some (.cells cs' t (0, 0)) := by
  rw [← h]; exact heap_setCell_same _ _ _ _ _ _ hg
theorem basics_row (w : World) (n y0 y1 y2 y3 y4 : Nat) : (((((((w.alloc (.cells #[.int .u64 0, .int .u64 0, .int .u64 0, .int .u64 0, .int .u64 0] 39)).drewN n).setCell ⟨w.heap.size, 0, none⟩ (.int .u64 (y0 : Int))).setCell ⟨w.heap.size, 1, none⟩ (.int .u64 (y1 : Int))).setCell ⟨w.heap.size, 2, none⟩ (.int .u64 (y2 : Int))).setCell ⟨w.heap.size, 3, none⟩ (.int .u64 (y3 : Int))).setCell ⟨w.heap.size, 4, none⟩ (.int .u64 (y4 : Int))).heap[w.heap.size]? = some (.cells #[.int .u64 (y0 : Int), .int .u64 (y1 : Int), .int .u64 (y2 : Int), .int .u64 (y3 : Int), .int .u64 (y4 : Int)] 39 (0, 0)) := by
  have h0 : ((w.alloc (.cells #[.int .u64 0, .int .u64 0, .int .u64 0, .int .u64 0, .int .u64 0] 39)).drewN n).heap[w.heap.size]? = some (.cells #[.int .u64 0, .int .u64 0, .int .u64 0, .int .u64 0, .int .u64 0] 39 (0, 0)) := heap_alloc_new w _
  have h1 := row_next h0 0 (.int .u64 (y0 : Int)) rfl
  have h2 := row_next h1 1 (.int .u64 (y1 : Int)) rfl
  have h3 := row_next h2 2 (.int .u64 (y2 : Int)) rfl
  have h4 := row_next h3 3 (.int .u64 (y3 : Int)) rfl
  exact row_next h4 4 (.int .u64 (y4 : Int)) rfl
theorem basics_kp (w : World) (n y0 y1 y2 y3 y4 : Nat) : Kp w (((((((w.alloc (.cells #[.int .u64 0, .int .u64 0, .int .u64 0, .int .u64 0, .int .u64 0] 39)).drewN n).setCell ⟨w.heap.size, 0, none⟩ (.int .u64 (y0 : Int))).setCell ⟨w.heap.size, 1, none⟩ (.int .u64 (y1 : Int))).setCell ⟨w.heap.size, 2, none⟩ (.int .u64 (y2 : Int))).setCell ⟨w.heap.size, 3, none⟩ (.int .u64 (y3 : Int))).setCell ⟨w.heap.size, 4, none⟩ (.int .u64 (y4 : Int))) := by
  have h0 : Kp w ((w.alloc (.cells #[.int .u64 0, .int .u64 0, .int .u64 0, .int .u64 0, .int .u64 0] 39)).drewN n) := ((Kp.refl w).alloc _).drewN n
  exact ((((h0.setCell (Nat.le_refl _) _).setCell (Nat.le_refl _) _).setCell (Nat.le_refl _) _).setCell (Nat.le_refl _) _).setCell (Nat.le_refl _) _
theorem basics_any (k : Nat) (hk : k < 1000) (w : World) :
    Calls Try.prog 45 #[.int .u64 (k : Int)] w fun e w' => e = .returned (.agg #[.int .u64 (pbase k : Nat), .int .u64 (pbase (k + 1) : Nat), .int .u64 (pbase (k + 2) : Nat), .int .u64 (pbase (k + 3) : Nat), .int .u64 (pbase (k + 4) : Nat)]) ∧ Kp w w' := by
  have B0 := Lib.hid (fun w => pbase_any k w)
  have B1 := Lib.hid (fun w => pb_at k 1 ((k : Int) + 1) (by omega) w)
  have B2 := Lib.hid (fun w => pb_at k 2 ((k : Int) + 2) (by omega) w)
  have B3 := Lib.hid (fun w => pb_at k 3 ((k : Int) + 3) (by omega) w)
  have B4 := Lib.hid (fun w => pb_at k 4 ((k : Int) + 4) (by omega) w)
  generalize pbase k = y0 at *
  generalize pbase (k + 1) = y1 at *
  generalize pbase (k + 2) = y2 at *
  generalize pbase (k + 3) = y3 at *
  generalize pbase (k + 4) = y4 at *
  go_enter Try.func45, Try.ntmps45
  go_wp2_with (go_at_call 39; first | ((with_reducible (refine (B0.out _).mono ?_)); rintro e w' ⟨rfl, n, rfl⟩) | ((with_reducible (refine (B1.out _).mono ?_)); rintro e w' ⟨rfl, n, rfl⟩) | ((with_reducible (refine (B2.out _).mono ?_)); rintro e w' ⟨rfl, n, rfl⟩) | ((with_reducible (refine (B3.out _).mono ?_)); rintro e w' ⟨rfl, n, rfl⟩) | ((with_reducible (refine (B4.out _).mono ?_)); rintro e w' ⟨rfl, n, rfl⟩))
  exact bodyPost_ret (results_cell_row rfl _ _ w.heap.size 39 _ _ _ rfl (basics_row w _ y0 y1 y2 y3 y4) Try.underlying39 rfl (by kernel_rfl)) rfl ⟨rfl, basics_kp w _ y0 y1 y2 y3 y4⟩
theorem set_dn (w : World) (n : Nat) (a : Addr) (v : Value) : (w.drewN n).setCell a v = (w.setCell a v).drewN n := rfl
theorem basics_world (w : World) (n y0 y1 y2 y3 y4 : Nat) : (((((((w.alloc (.cells #[.int .u64 0, .int .u64 0, .int .u64 0, .int .u64 0, .int .u64 0] 39)).drewN n).setCell ⟨w.heap.size, 0, none⟩ (.int .u64 (y0 : Int))).setCell ⟨w.heap.size, 1, none⟩ (.int .u64 (y1 : Int))).setCell ⟨w.heap.size, 2, none⟩ (.int .u64 (y2 : Int))).setCell ⟨w.heap.size, 3, none⟩ (.int .u64 (y3 : Int))).setCell ⟨w.heap.size, 4, none⟩ (.int .u64 (y4 : Int))) = (w.alloc (.cells #[.int .u64 (y0 : Int), .int .u64 (y1 : Int), .int .u64 (y2 : Int), .int .u64 (y3 : Int), .int .u64 (y4 : Int)] 39)).drewN n := by
  simp only [set_dn, World.setCell_alloc_new, List.setIfInBounds_toArray, List.set_cons_zero, List.set_cons_succ]
theorem basics_at (k : Nat) (hk : k < 1000) (w : World) :
    Calls Try.prog 45 #[.int .u64 (k : Int)] w fun e w' => e = .returned (.agg #[.int .u64 (pbase k : Nat), .int .u64 (pbase (k + 1) : Nat), .int .u64 (pbase (k + 2) : Nat), .int .u64 (pbase (k + 3) : Nat), .int .u64 (pbase (k + 4) : Nat)]) ∧ ∃ n, w' = (w.alloc (.cells #[.int .u64 (pbase k : Nat), .int .u64 (pbase (k + 1) : Nat), .int .u64 (pbase (k + 2) : Nat), .int .u64 (pbase (k + 3) : Nat), .int .u64 (pbase (k + 4) : Nat)] 39)).drewN n := by
  have B0 := Lib.hid (fun w => pbase_any k w)
  have B1 := Lib.hid (fun w => pb_at k 1 ((k : Int) + 1) (by omega) w)
  have B2 := Lib.hid (fun w => pb_at k 2 ((k : Int) + 2) (by omega) w)
  have B3 := Lib.hid (fun w => pb_at k 3 ((k : Int) + 3) (by omega) w)
  have B4 := Lib.hid (fun w => pb_at k 4 ((k : Int) + 4) (by omega) w)
  generalize pbase k = y0 at *
  generalize pbase (k + 1) = y1 at *
  generalize pbase (k + 2) = y2 at *
  generalize pbase (k + 3) = y3 at *
  generalize pbase (k + 4) = y4 at *
  go_enter Try.func45, Try.ntmps45
  go_wp2_with (go_at_call 39; first | ((with_reducible (refine (B0.out _).mono ?_)); rintro e w' ⟨rfl, n, rfl⟩) | ((with_reducible (refine (B1.out _).mono ?_)); rintro e w' ⟨rfl, n, rfl⟩) | ((with_reducible (refine (B2.out _).mono ?_)); rintro e w' ⟨rfl, n, rfl⟩) | ((with_reducible (refine (B3.out _).mono ?_)); rintro e w' ⟨rfl, n, rfl⟩) | ((with_reducible (refine (B4.out _).mono ?_)); rintro e w' ⟨rfl, n, rfl⟩))
  exact bodyPost_ret (results_cell_row rfl _ _ w.heap.size 39 _ _ _ rfl (basics_row w _ y0 y1 y2 y3 y4) Try.underlying39 rfl (by kernel_rfl)) rfl ⟨rfl, _, basics_world w _ y0 y1 y2 y3 y4⟩
end Go.Proofs.Ytcdmmfelagbpdaa
