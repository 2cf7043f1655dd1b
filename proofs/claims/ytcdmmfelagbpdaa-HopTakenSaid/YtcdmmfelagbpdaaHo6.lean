/- Contracts: a hop's own point. -/
import Derived.Test.YtcdmmfelagbpdaaHo5
import Derived.Test.YtcdmmfelagbpdaaPoint2
import Derived.LoopN
namespace Go.Proofs.Ytcdmmfelagbpdaa
open Go.RowKit Go.Lib Ckp Cfd Cpd Cwl
set_option linter.unusedVariables false
set_option linter.unusedSimpArgs false
set_option maxRecDepth 8192
/-- What is handed back by From of one blind. -/
def FromOne (q bl : Nat) (w : World) (e : Ending) (w' : World) : Prop := ∃ g, e = .returned (.slice (some ⟨g, 0, none⟩) 2 2) ∧ Kp w w' ∧ w'.cell? ⟨g, 0, none⟩ = some (.int .u64 (padd q (pbase bl) : Nat))
theorem base_kp (k : Nat) (w : World) : Calls Try.prog 39 #[.int .u64 k] w fun e w' => e = .returned (.int .u64 (pbase k : Nat)) ∧ Kp w w' := (pbase_any k w).mono fun _ _ ⟨h, n, e⟩ => ⟨h, by rw [e]; exact (Kp.refl w).drewN n⟩
set_option maxHeartbeats 1000000 in
theorem from_one (q bl : Nat) (hq : q < 18446744073709551616) (hr : pright q = true) (g : Nat) (c : Nat) (w : World) (hc : w.cell? ⟨g, 0, none⟩ = some (.int .u64 (bl : Int))) (hg : g < w.heap.size) :
  Calls Try.prog 81 #[.int .u64 (q : Int), .slice (some ⟨g, 0, none⟩) 1 c] w (FromOne q bl w) := by
 have HR := Lib.hid (fun w => pright_any q hq w)
 rw [hr] at HR
 have HB := Lib.hid (fun w => base_kp bl w)
 have HA := Lib.hid (fun w => padd_any q (pbase bl) hq (by have := pbase_lt bl; omega) w)
 clear hr hq
 generalize hz : padd q (pbase bl) = z at HA
 have HZ := Lib.hid hz
 clear hz
 generalize pbase bl = y at HA HB
 have hc0 := fun k cs => cell_new_at w k cs 37 0
 have hc1 := fun k cs => cell_new_at w k cs 37 1
 have hf0 := fun k cs => frozen_new_at w k cs 37 0
 have hf1 := fun k cs => frozen_new_at w k cs 37 1
 have hmk : ∀ w : World, (Instr.makeSlice 77 (.int .i64 2) (.int .i64 2)).run Try.prog w = .ok (.slice (some ⟨w.heap.size, 0, none⟩) 2 2) (w.alloc (.cells #[.int .u64 0, .int .u64 0] 37)) := fun _ => by kernel_rfl
 go_enter Try.func81, Try.ntmps81
 go_wp2_with (go_at_call 65; (with_reducible (refine (HR.out _).mono ?_)); rintro e w1 ⟨rfl, k, rfl⟩)
 refine wp_loop_rounds 2 ?_
 rw [rounds_succ]
 go_wp2_with fail
 have hrow := row_set w k #[.int .u64 0, .int .u64 0] #[.int .u64 0, .int .u64 (q : Int)] 37 1 (.int .u64 (q : Int)) rfl
 have hKW := kp_set w k #[.int .u64 0, .int .u64 0] 37 1 (.int .u64 (q : Int))
 generalize hW : World.setCell (World.alloc (w.drewN k) (.cells #[.int .u64 0, .int .u64 0] 37)) ⟨w.heap.size, 1, none⟩ (.int .u64 (q : Int)) = W at *
 clear hW hc0 hc1 hf0 hf1 hmk
 have hq1 : W.cell? ⟨w.heap.size, 1, none⟩ = some (.int .u64 (q : Int)) := by rw [cell_of_row _ _ _ _ _ _ hrow]; rfl
 have hb0 : W.cell? ⟨g, 0, none⟩ = some (.int .u64 (bl : Int)) := by rw [hKW.cell (p := ⟨g, 0, none⟩) hg]; exact hc
 have hq2 := fun d os => cell_regrown hq1 d os
 have hb2 := fun d os => cell_regrown hb0 d os
 have HW := Lib.hid (And.intro hrow hKW)
 clear hrow hKW hc hq1 hb0
 refine wp_region_wild 14 (by kernel_rfl) (by kernel_rfl) ?_
 simp only [List.take_succ_cons, List.take_zero, List.drop_succ_cons, List.drop_zero]
 iterate 11 (refine h_pure rfl rfl ?_; intro K hK; go_big_quiet_op; (first | go_big_quiet_on | (refine ⟨_, fun _ => rfl, ?_⟩; go_big_quiet_on) | (refine ⟨_, fun _ _ => rfl, ?_⟩; go_big_quiet_on)))
 refine h_call 39 _ _ _ #[.int .u64 (bl : Int)] _ rfl rfl Try.func39 (by kernel_rfl) (by kernel_rfl) (by rfl) (fun w hk => HB.out w) ?_
 simp only [Act.put, List.setIfInBounds_toArray, List.set_cons_zero, List.set_cons_succ]
 refine h_call 42 _ _ _ #[.int .u64 (q : Int), .int .u64 (y : Int)] _ rfl rfl Try.func42 (by kernel_rfl) (by kernel_rfl) (by rfl) (fun w hk => HA.out w) ?_
 simp only [Act.put, List.setIfInBounds_toArray, List.set_cons_zero, List.set_cons_succ]
 (refine h_pure rfl rfl ?_; intro K hK; go_big_quiet_op; (first | go_big_quiet_on | (refine ⟨_, fun _ => rfl, ?_⟩; go_big_quiet_on) | (refine ⟨_, fun _ _ => rfl, ?_⟩; go_big_quiet_on)))
 refine h_nil ?_
 intro wx hK
 simp only [finish]
 have hr2 := heap_kp HW.out.1 hK
 have hc0 : wx.cell? ⟨w.heap.size, 0, none⟩ = some (.int .u64 0) := by rw [cell_of_row _ _ _ _ _ _ hr2]; rfl
 have hf0 : wx.frozen? ⟨w.heap.size, 0, none⟩ = false := frozen_of_row _ _ _ _ _ hr2
 have hr3 := heap_setCell_same _ _ 0 _ _ (.int .u64 (z : Int)) hr2
 have HR3 := Lib.hid hr3
 have HK := Lib.hid (HW.out.2.trans hK)
 clear hr2 hr3 hK hq2 hb2
 go_wp2_with fail
 rw [rounds_succ]
 clear hc0 hf0
 go_wp2_with fail
 go_ret
 exact ⟨w.heap.size, rfl, HK.out.setCell (Nat.le_refl _) _, by rw [cell_of_row _ _ _ _ _ _ HR3.out, HZ.out]; rfl⟩
theorem hown_any (n c a e : Int) (q bl : Nat) (hq : q < 18446744073709551616) (hr : pright q = true) (w : World) : Calls Try.prog 55 #[HvH n c a e q bl] w fun e' w' => e' = .returned (.int .u64 (padd q (pbase bl) : Nat)) ∧ Kp w w' := by
 have HF := Lib.hid (fun g c w => from_one q bl hq hr g c w)
 clear hq hr
 go_enter Try.func55, Try.ntmps55
 go_wp2_with (go_at_call 81; refine (HF.out _ _ _ ?_ ?_).mono ?_)
 ·go_simp
 ·simp
 rintro e' w' ⟨g, rfl, hK, hc⟩
 go_wp2_with fail
 go_ret
 exact ⟨rfl, Kp.trans (((Kp.refl w).alloc _).alloc _) hK⟩
theorem rhown_any (n c a e : Int) (q bl : Nat) (w : World) : Calls Try.prog 58 #[HvH n c a e q bl] w fun e' w' => e' = .returned (.int .u64 (padd q (pbase bl) : Nat)) ∧ Kp w w' := by
 have HB := Lib.hid (fun w => rpbase_any bl w)
 have HA := Lib.hid (fun w => rpadd_any q (pbase bl) w)
 generalize padd q (pbase bl) = z at *
 generalize pbase bl = y at *
 go_enter Try.func58, Try.ntmps58
 go_wp2_with fail
 have hc4 := fun d os => cell_regrown (show (w.alloc (.cells #[.int .i64 n, .int .i64 c, .int .i64 a, .int .i64 e, .int .u64 (q : Int), .int .u64 (bl : Int)] 55)).cell? ⟨w.heap.size, 4, none⟩ = some (.int .u64 (q : Int)) from by rw [cell_of_row _ _ _ _ _ _ (heap_alloc_new w _)]; rfl) d os
 have hc5 := fun d os => cell_regrown (show (w.alloc (.cells #[.int .i64 n, .int .i64 c, .int .i64 a, .int .i64 e, .int .u64 (q : Int), .int .u64 (bl : Int)] 55)).cell? ⟨w.heap.size, 5, none⟩ = some (.int .u64 (bl : Int)) from by rw [cell_of_row _ _ _ _ _ _ (heap_alloc_new w _)]; rfl) d os
 refine wp_region_quiet_below (by kernel_rfl) (by kernel_rfl) ?_
 repeat (first | go_big_quiet_step ((first | (go_at_call 83; exact calls_same (HB.out _)) | (go_at_call 82; exact calls_same (HA.out _)))))
 refine wpQuiet_nil ?_
 intro w2 hw2
 replace hw2 := kp_later hw2
 clear hc4 hc5
 go_wp2_with fail
 go_ret
 exact ⟨rfl, Kp.trans ((Kp.refl w).alloc _) hw2⟩
theorem told_any (n c a e : Int) (q bl : Nat) (w : World) : Calls Try.prog 53 #[HvH n c a e q bl] w fun e' w' => e' = .returned (QV 0 0 a q e) ∧ Kp w w' := by
 go_enter Try.func53, Try.ntmps53
 go_wp2_with fail
 exact bodyPost_ret (v := QV 0 0 a q e) (by simp [results, Try.results53, go_sem]) rfl ⟨rfl, by (repeat (first | assumption | exact Kp.refl _ | with_reducible refine Kp.alloc ?_ _ | with_reducible refine Kp.drewN ?_ _ | with_reducible refine Kp.drew ?_ | (with_reducible refine Kp.setCell ?_ (by simp) _)))⟩
theorem rtold_any (n c a e : Int) (q bl : Nat) (w : World) : Calls Try.prog 56 #[HvH n c a e q bl] w fun e' w' => e' = .returned (QV 0 0 a q e) ∧ Kp w w' := by
 go_enter Try.func56, Try.ntmps56
 go_wp2_with fail
 exact bodyPost_ret (v := QV 0 0 a q e) (by simp [results, Try.results56, go_sem]) rfl ⟨rfl, by (repeat (first | assumption | exact Kp.refl _ | with_reducible refine Kp.alloc ?_ _ | with_reducible refine Kp.drewN ?_ _ | with_reducible refine Kp.drew ?_ | (with_reducible refine Kp.setCell ?_ (by simp) _)))⟩
end Go.Proofs.Ytcdmmfelagbpdaa
