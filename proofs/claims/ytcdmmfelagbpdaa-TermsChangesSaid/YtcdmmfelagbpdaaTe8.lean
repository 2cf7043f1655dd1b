/- Law 19's small, walked (printed by genTe8.py). -/
import Derived.Test.YtcdmmfelagbpdaaTe7
import Derived.Test.YtcdmmfelagbpdaaWild2
import Derived.Deep.DeepCutAuto
import Derived.Laws.CopyOwn
namespace Go.Proofs.Ytcdmmfelagbpdaa
open Go.RowKit Go.Lib Ckp Cfd Cpd Cwl
set_option linter.unusedVariables false
set_option maxRecDepth 100000
set_option linter.unusedSimpArgs false
/-- The small case's channel. -/
@[irreducible] def CA (amt : Int) (y0 y1 y2 y3 y4 z0 z1 z2 z3 z4 : Nat) : Array Value := #[.int .u8 0, .int .u8 0, .int .u8 0, .int .u8 0, .int .u8 0, .int .u8 0, .int .u8 0, .int .u8 0, .int .u8 0, .int .u8 0, .int .u8 0, .int .u8 0, .int .u8 0, .int .u8 0, .int .u8 0, .int .u8 0, .int .u8 0, .int .u8 0, .int .u8 0, .int .u8 0, .int .u8 0, .int .u8 0, .int .u8 0, .int .u8 0, .int .u8 0, .int .u8 0, .int .u8 0, .int .u8 0, .int .u8 0, .int .u8 0, .int .u8 0, .int .u8 0, .int .i64 0, .int .i64 amt, .int .u64 (y0 : Int), .int .u64 (y1 : Int), .int .u64 (y2 : Int), .int .u64 (y3 : Int), .int .u64 (y4 : Int), .int .u64 (z0 : Int), .int .u64 (z1 : Int), .int .u64 (z2 : Int), .int .u64 (z3 : Int), .int .u64 (z4 : Int), .int .i64 100, .int .i64 500, .int .i64 10, .int .i64 4, .int .i64 5, .int .i64 9000, .int .i64 100, .int .i64 500, .int .i64 10, .int .i64 4, .int .i64 5, .int .i64 9000, .int .i64 0]
@[irreducible] def CZ : Array Value := #[.int .u8 0, .int .u8 0, .int .u8 0, .int .u8 0, .int .u8 0, .int .u8 0, .int .u8 0, .int .u8 0, .int .u8 0, .int .u8 0, .int .u8 0, .int .u8 0, .int .u8 0, .int .u8 0, .int .u8 0, .int .u8 0, .int .u8 0, .int .u8 0, .int .u8 0, .int .u8 0, .int .u8 0, .int .u8 0, .int .u8 0, .int .u8 0, .int .u8 0, .int .u8 0, .int .u8 0, .int .u8 0, .int .u8 0, .int .u8 0, .int .u8 0, .int .u8 0, .int .i64 0, .int .i64 0, .int .u64 0, .int .u64 0, .int .u64 0, .int .u64 0, .int .u64 0, .int .u64 0, .int .u64 0, .int .u64 0, .int .u64 0, .int .u64 0, .int .i64 0, .int .i64 0, .int .i64 0, .int .i64 0, .int .i64 0, .int .i64 0, .int .i64 0, .int .i64 0, .int .i64 0, .int .i64 0, .int .i64 0, .int .i64 0, .int .i64 0]
theorem ca_size (amt : Int) (y0 y1 y2 y3 y4 z0 z1 z2 z3 z4 : Nat) : (CA amt y0 y1 y2 y3 y4 z0 z1 z2 z3 z4).size = 57 := by unfold CA; rfl
theorem cz_size : CZ.size = 57 := by unfold CZ; rfl
theorem ca_one (amt : Int) (y0 y1 y2 y3 y4 z0 z1 z2 z3 z4 : Nat) : (CA amt y0 y1 y2 y3 y4 z0 z1 z2 z3 z4).all (·.oneCell') = true := by unfold CA; kernel_rfl
theorem ca_amt (amt amt' : Int) (y0 y1 y2 y3 y4 z0 z1 z2 z3 z4 : Nat) : (CA amt y0 y1 y2 y3 y4 z0 z1 z2 z3 z4).setIfInBounds 33 (.int .i64 amt') = CA amt' y0 y1 y2 y3 y4 z0 z1 z2 z3 z4 := by unfold CA; rfl
theorem ca_rev (amt : Int) (y0 y1 y2 y3 y4 z0 z1 z2 z3 z4 : Nat) (k : Nat) : (CA amt y0 y1 y2 y3 y4 z0 z1 z2 z3 z4).setIfInBounds 43 (.int .u64 (k : Int)) = CA amt y0 y1 y2 y3 y4 z0 z1 z2 z3 k := by unfold CA; rfl
theorem ca_33 (amt : Int) (y0 y1 y2 y3 y4 z0 z1 z2 z3 z4 : Nat) : (CA amt y0 y1 y2 y3 y4 z0 z1 z2 z3 z4)[33]? = some (.int .i64 amt) := by unfold CA; rfl
theorem ca_43 (amt : Int) (y0 y1 y2 y3 y4 z0 z1 z2 z3 z4 : Nat) : (CA amt y0 y1 y2 y3 y4 z0 z1 z2 z3 z4)[43]? = some (.int .u64 (z4 : Int)) := by unfold CA; rfl
theorem cz_alloc (w : World) : (Instr.alloc 43 true (.tuple #[])).run Try.prog w = .ok (.pointer (some ⟨w.heap.size, 0, none⟩)) (w.alloc (.cells CZ 43)) := by unfold CZ; kernel_rfl
theorem ca_info : (Try.prog.info? 43).map (·.size) = some 57 := by kernel_rfl
theorem ca_build (y0 y1 y2 y3 y4 z0 z1 z2 z3 z4 : Nat) (w : World) : (Instr.build 43 #[(1, .int .i64 1000), (2, .agg #[.int .u64 (y0 : Int), .int .u64 (y1 : Int), .int .u64 (y2 : Int), .int .u64 (y3 : Int), .int .u64 (y4 : Int), .int .u64 (z0 : Int), .int .u64 (z1 : Int), .int .u64 (z2 : Int), .int .u64 (z3 : Int), .int .u64 (z4 : Int)]), (3, .agg #[.int .i64 100, .int .i64 500, .int .i64 10, .int .i64 4, .int .i64 5, .int .i64 9000, .int .i64 100, .int .i64 500, .int .i64 10, .int .i64 4, .int .i64 5, .int .i64 9000])]).run Try.prog w = .ok (.agg (CA 1000 y0 y1 y2 y3 y4 z0 z1 z2 z3 z4)) w := by unfold CA; kernel_rfl

theorem fit_ok' (y0 y1 y2 y3 y4 z0 z1 z2 z3 z4 : Nat) (hy0 : pown y0 = true) (ly0 : y0 < 18446744073709551616) (hy1 : pown y1 = true) (ly1 : y1 < 18446744073709551616) (hy2 : pown y2 = true) (ly2 : y2 < 18446744073709551616) (hy3 : pown y3 = true) (ly3 : y3 < 18446744073709551616) (hy4 : pown y4 = true) (ly4 : y4 < 18446744073709551616) (hz0 : pown z0 = true) (lz0 : z0 < 18446744073709551616) (hz1 : pown z1 = true) (lz1 : z1 < 18446744073709551616) (hz2 : pown z2 = true) (lz2 : z2 < 18446744073709551616) (hz3 : pown z3 = true) (lz3 : z3 < 18446744073709551616) (hz4 : pown z4 = true) (lz4 : z4 < 18446744073709551616) (w : World) : Calls Try.prog 25 #[.agg (CA 1000 y0 y1 y2 y3 y4 z0 z1 z2 z3 z4)] w fun e w' => e = .returned (.int .i64 0) ∧ Kp w w' := by unfold CA; exact fit_ok y0 y1 y2 y3 y4 z0 z1 z2 z3 z4 hy0 ly0 hy1 ly1 hy2 ly2 hy3 ly3 hy4 ly4 hz0 lz0 hz1 lz1 hz2 lz2 hz3 lz3 hz4 lz4 w
theorem fit_low' (y0 y1 y2 y3 y4 z0 z1 z2 z3 z4 : Nat) (hy0 : pown y0 = true) (ly0 : y0 < 18446744073709551616) (hy1 : pown y1 = true) (ly1 : y1 < 18446744073709551616) (hy2 : pown y2 = true) (ly2 : y2 < 18446744073709551616) (hy3 : pown y3 = true) (ly3 : y3 < 18446744073709551616) (hy4 : pown y4 = true) (ly4 : y4 < 18446744073709551616) (hz0 : pown z0 = true) (lz0 : z0 < 18446744073709551616) (hz1 : pown z1 = true) (lz1 : z1 < 18446744073709551616) (hz2 : pown z2 = true) (lz2 : z2 < 18446744073709551616) (hz3 : pown z3 = true) (lz3 : z3 < 18446744073709551616) (hz4 : pown z4 = true) (lz4 : z4 < 18446744073709551616) (w : World) : Calls Try.prog 25 #[.agg (CA 999 y0 y1 y2 y3 y4 z0 z1 z2 z3 z4)] w fun e w' => e = .returned (.int .i64 10) ∧ Kp w w' := by unfold CA; exact fit_low y0 y1 y2 y3 y4 z0 z1 z2 z3 z4 hy0 ly0 hy1 ly1 hy2 ly2 hy3 ly3 hy4 ly4 hz0 lz0 hz1 lz1 hz2 lz2 hz3 lz3 hz4 lz4 w
theorem fit_null' (y0 y1 y2 y3 y4 z0 z1 z2 z3 z4 : Nat) (hy0 : pown y0 = true) (ly0 : y0 < 18446744073709551616) (hy1 : pown y1 = true) (ly1 : y1 < 18446744073709551616) (hy2 : pown y2 = true) (ly2 : y2 < 18446744073709551616) (hy3 : pown y3 = true) (ly3 : y3 < 18446744073709551616) (hy4 : pown y4 = true) (ly4 : y4 < 18446744073709551616) (hz0 : pown z0 = true) (lz0 : z0 < 18446744073709551616) (hz1 : pown z1 = true) (lz1 : z1 < 18446744073709551616) (hz2 : pown z2 = true) (lz2 : z2 < 18446744073709551616) (hz3 : pown z3 = true) (lz3 : z3 < 18446744073709551616) (hz4 : pown z4 = true) (lz4 : z4 < 18446744073709551616) (w : World) : Calls Try.prog 25 #[.agg (CA 1000 y0 y1 y2 y3 y4 z0 z1 z2 z3 1)] w fun e w' => e = .returned (.int .i64 1) ∧ Kp w w' := by unfold CA; exact fit_null y0 y1 y2 y3 y4 z0 z1 z2 z3 z4 hy0 ly0 hy1 ly1 hy2 ly2 hy3 ly3 hy4 ly4 hz0 lz0 hz1 lz1 hz2 lz2 hz3 lz3 hz4 lz4 w
theorem s_rt (w : World) : Calls Try.prog 15 #[TV 100 500 10 4 5 9000] w fun e w' => e = .returned (.bool true) ∧ Kp w w' := tright_kp 100 500 10 4 5 9000 w
theorem s_rw (w : World) : Calls Try.prog 15 #[TV 100 500 0 4 5 9000] w fun e w' => e = .returned (.bool false) ∧ Kp w w' := tright_kp 100 500 0 4 5 9000 w
theorem s_s1 (w : World) : Calls Try.prog 17 #[TV 100 500 10 4 5 9000, .int .i64 100] w fun e w' => e = .returned (.bool true) ∧ Kp w w' := shown_any 100 500 10 4 5 9000 100 w
theorem s_s2 (w : World) : Calls Try.prog 17 #[TV 100 500 10 4 5 9000, .int .i64 99] w fun e w' => e = .returned (.bool false) ∧ Kp w w' := shown_any 100 500 10 4 5 9000 99 w
theorem s_w0 (w : World) : Calls Try.prog 19 #[.int .i64 0] w fun e w' => e = .returned (.int .i64 68) ∧ w = w' := tweight_any 0 w
theorem s_w16 (w : World) : Calls Try.prog 19 #[.int .i64 16] w fun e w' => e = .returned (.int .i64 196) ∧ w = w' := tweight_any 16 w
theorem s_w17 (w : World) : Calls Try.prog 19 #[.int .i64 17] w fun e w' => e = .returned (.int .i64 0) ∧ w = w' := tweight_any 17 w
theorem s_f1 (w : World) : Calls Try.prog 21 #[.int .i64 3, .int .i64 2] w fun e w' => e = .returned (.int .i64 252) ∧ w = w' := tfee_any 3 2 w
theorem s_f2 (w : World) : Calls Try.prog 21 #[.int .i64 1001, .int .i64 2] w fun e w' => e = .returned (.int .i64 0) ∧ w = w' := tfee_any 1001 2 w
set_option maxHeartbeats 4000000 in
theorem small19_any (w : World) : Calls Try.prog 14 #[] w fun e w' => e = .returned (.bool true) ∧ Kp w w' := by
  have B0 := Lib.hid (fun w => show Calls Try.prog 45 #[.int .u64 2] w fun e w' => e = .returned (.agg #[.int .u64 (pbase 2 : Nat), .int .u64 (pbase (2 + 1) : Nat), .int .u64 (pbase (2 + 2) : Nat), .int .u64 (pbase (2 + 3) : Nat), .int .u64 (pbase (2 + 4) : Nat)]) ∧ Kp w w' from basics_any 2 (by decide) w)
  have B1 := Lib.hid (fun w => show Calls Try.prog 45 #[.int .u64 20] w fun e w' => e = .returned (.agg #[.int .u64 (pbase 20 : Nat), .int .u64 (pbase (20 + 1) : Nat), .int .u64 (pbase (20 + 2) : Nat), .int .u64 (pbase (20 + 3) : Nat), .int .u64 (pbase (20 + 4) : Nat)]) ∧ Kp w w' from basics_any 20 (by decide) w)
  have hy0 := pown_base (2 + 0) (by decide)
  have ly0 := pbase_64 (2 + 0)
  have hy1 := pown_base (2 + 1) (by decide)
  have ly1 := pbase_64 (2 + 1)
  have hy2 := pown_base (2 + 2) (by decide)
  have ly2 := pbase_64 (2 + 2)
  have hy3 := pown_base (2 + 3) (by decide)
  have ly3 := pbase_64 (2 + 3)
  have hy4 := pown_base (2 + 4) (by decide)
  have ly4 := pbase_64 (2 + 4)
  have hz0 := pown_base (20 + 0) (by decide)
  have lz0 := pbase_64 (20 + 0)
  have hz1 := pown_base (20 + 1) (by decide)
  have lz1 := pbase_64 (20 + 1)
  have hz2 := pown_base (20 + 2) (by decide)
  have lz2 := pbase_64 (20 + 2)
  have hz3 := pown_base (20 + 3) (by decide)
  have lz3 := pbase_64 (20 + 3)
  have hz4 := pown_base (20 + 4) (by decide)
  have lz4 := pbase_64 (20 + 4)
  change pown (pbase 2) = true at hy0
  change pbase 2 < _ at ly0
  generalize pbase 2 = y0 at *
  generalize pbase (2 + 1) = y1 at *
  generalize pbase (2 + 2) = y2 at *
  generalize pbase (2 + 3) = y3 at *
  generalize pbase (2 + 4) = y4 at *
  change pown (pbase 20) = true at hz0
  change pbase 20 < _ at lz0
  generalize pbase 20 = z0 at *
  generalize pbase (20 + 1) = z1 at *
  generalize pbase (20 + 2) = z2 at *
  generalize pbase (20 + 3) = z3 at *
  generalize pbase (20 + 4) = z4 at *
  have F0 := Lib.hid (fun w => fit_ok' y0 y1 y2 y3 y4 z0 z1 z2 z3 z4 hy0 ly0 hy1 ly1 hy2 ly2 hy3 ly3 hy4 ly4 hz0 lz0 hz1 lz1 hz2 lz2 hz3 lz3 hz4 lz4 w)
  have F1 := Lib.hid (fun w => fit_low' y0 y1 y2 y3 y4 z0 z1 z2 z3 z4 hy0 ly0 hy1 ly1 hy2 ly2 hy3 ly3 hy4 ly4 hz0 lz0 hz1 lz1 hz2 lz2 hz3 lz3 hz4 lz4 w)
  have F2 := Lib.hid (fun w => fit_null' y0 y1 y2 y3 y4 z0 z1 z2 z3 z4 hy0 ly0 hy1 ly1 hy2 ly2 hy3 ly3 hy4 ly4 hz0 lz0 hz1 lz1 hz2 lz2 hz3 lz3 hz4 lz4 w)
  clear hy0 ly0 hy1 ly1 hy2 ly2 hy3 ly3 hy4 ly4 hz0 lz0 hz1 lz1 hz2 lz2 hz3 lz3 hz4 lz4
  have BC := Lib.hid (ca_build y0 y1 y2 y3 y4 z0 z1 z2 z3 z4)
  go_enter Try.func14, Try.ntmps14
  go_upto_region 2 with fail
  go_cut [1, 2] (fun p1 p2 wx => ∃ g1 g2 : Nat, p1 = .pointer (some ⟨g1, 0, none⟩) ∧ p2 = .pointer (some ⟨g2, 0, none⟩) ∧ wx.heap[g1]? = some (.cells #[.int .i64 100, .int .i64 500, .int .i64 10, .int .i64 4, .int .i64 5, .int .i64 9000] 23 (0, 0)) ∧ wx.heap[g2]? = some (.cells (CA 1000 y0 y1 y2 y3 y4 z0 z1 z2 z3 z4) 43 (0, 0)) ∧ Kp w wx)
  case first =>
    have hrow : (w.alloc (.cells #[.int .i64 100, .int .i64 500, .int .i64 10, .int .i64 4, .int .i64 5, .int .i64 9000] 23)).heap[w.heap.size]? = some (.cells #[.int .i64 100, .int .i64 500, .int .i64 10, .int .i64 4, .int .i64 5, .int .i64 9000] 23 (0, 0)) := heap_alloc_new w _
    refine wp_region_wild 8 (by kernel_rfl) (by kernel_rfl) ?_
    simp only [List.take_succ_cons, List.take_zero, List.drop_succ_cons, List.drop_zero]
    refine h_call 45 _ _ _ #[.int .u64 2] _ rfl rfl Try.func45 (by kernel_rfl) (by kernel_rfl) (by rfl) (fun w hk => B0.out w) ?_
    simp only [Act.put, List.setIfInBounds_toArray, List.set_cons_zero, List.set_cons_succ]
    refine h_call 45 _ _ _ #[.int .u64 20] _ rfl rfl Try.func45 (by kernel_rfl) (by kernel_rfl) (by rfl) (fun w hk => B1.out w) ?_
    simp only [Act.put, List.setIfInBounds_toArray, List.set_cons_zero, List.set_cons_succ]
    (refine h_pure rfl rfl ?_; intro K hK; go_big_quiet_op; (first | go_big_quiet_on | (refine ⟨_, fun _ => rfl, ?_⟩; go_big_quiet_on) | (refine ⟨_, fun _ _ => rfl, ?_⟩; go_big_quiet_on)))
    refine h_load_row _ _ w.heap.size _ _ _ _ rfl rfl rfl hrow Try.underlying23 rfl (by kernel_rfl) ?_
    simp only [Act.put, List.setIfInBounds_toArray, List.set_cons_zero, List.set_cons_succ]
    refine h_load_row _ _ w.heap.size _ _ _ _ rfl rfl rfl hrow Try.underlying23 rfl (by kernel_rfl) ?_
    simp only [Act.put, List.setIfInBounds_toArray, List.set_cons_zero, List.set_cons_succ]
    (refine h_pure rfl rfl ?_; intro K hK; go_big_quiet_op; (first | go_big_quiet_on | (refine ⟨_, fun _ => rfl, ?_⟩; go_big_quiet_on) | (refine ⟨_, fun _ _ => rfl, ?_⟩; go_big_quiet_on)))
    refine h_build _ _ _ _ rfl rfl (by rfl) BC.out ?_
    simp only [Act.put, List.setIfInBounds_toArray, List.set_cons_zero, List.set_cons_succ]
    refine h_alloc _ CZ rfl rfl cz_alloc (by kernel_rfl) ?_
    refine h_nil ?_
    intro wx hK
    simp only [List.nil_append, finish]
    intro g hg
    simp only [Act.put, List.setIfInBounds_toArray, List.set_cons_zero, List.set_cons_succ]
    obtain ⟨hg1, hg2⟩ := hg
    refine store_row rfl 43 _ _ rfl g rfl _ rfl 43 _ hg2 (ca_info.trans (by rw [ca_size])) (by rw [cz_size, ca_size]) (ca_one ..) ?_
    go_wp2_with fail
    go_meet
    have hlt : w.heap.size < g := by simp at hg1; omega
    refine ⟨w.heap.size, g, rfl, rfl, ?_, setRow_heap _ _ _ _ _ _ hg2, ?_⟩
    · rw [setRow_other _ _ _ _ (by omega)]; exact heap_kp hrow hK
    · exact below_setRow (((Kp.refl w).alloc _).trans hK) (by omega) _
  case rest =>
    obtain ⟨g1, g2, rfl, rfl, r1, r2, hK⟩ := hcut
    have R1 := Lib.hid r1
    have R2 := Lib.hid r2
    have HK := Lib.hid hK
    clear r1 r2 hK
    have a1 := ca_33 1000 y0 y1 y2 y3 y4 z0 z1 z2 z3 z4
    have a2 := ca_43 1000 y0 y1 y2 y3 y4 z0 z1 z2 z3 z4
    have a3 := ca_amt 1000 999 y0 y1 y2 y3 y4 z0 z1 z2 z3 z4
    have a4 : (CA 1000 y0 y1 y2 y3 y4 z0 z1 z2 z3 z4).setIfInBounds 43 (.int .u64 1) = CA 1000 y0 y1 y2 y3 y4 z0 z1 z2 z3 1 := ca_rev 1000 y0 y1 y2 y3 y4 z0 z1 z2 z3 z4 1
    have a5 := ca_size 1000 y0 y1 y2 y3 y4 z0 z1 z2 z3 z4
    go_upto_region 13 with (first | (refine load_row rfl 23 _ rfl g1 rfl 23 _ _ _ (heap_kp R1.out (by (repeat (first | assumption | exact Kp.refl _ | with_reducible refine Kp.alloc ?_ _ | with_reducible refine Kp.drewN ?_ _ | with_reducible refine Kp.drew ?_ | (with_reducible refine Kp.setCell ?_ (by simp) _))))) Try.underlying23 rfl (by kernel_rfl) ?_) | (refine load_row rfl 43 _ rfl g2 rfl 43 _ _ _ (heap_kp R2.out (by (repeat (first | assumption | exact Kp.refl _ | with_reducible refine Kp.alloc ?_ _ | with_reducible refine Kp.drewN ?_ _ | with_reducible refine Kp.drew ?_ | (with_reducible refine Kp.setCell ?_ (by simp) _))))) Try.underlying43 rfl (ca_info.trans (by rw [ca_size])) ?_) | (refine alloc_law rfl 43 CZ rfl cz_alloc ?_; simp only [Act.put, List.setIfInBounds_toArray, List.set_cons_zero, List.set_cons_succ]) | (refine store_new rfl 43 _ _ rfl (by first | rfl | simp [Act.eval]) _ rfl (ca_info.trans (by rw [ca_size])) (by rw [cz_size, ca_size]) (ca_one ..) ?_; simp only [Act.put, List.setIfInBounds_toArray, List.set_cons_zero, List.set_cons_succ]))
    clear a1 a2 a3 a4 a5
    go_cut [1, 2, 3, 4, 5, 6, 7] (fun p1 p2 p3 p4 p5 p6 p7 wx => ∃ g3 g4 g5 g6 g7 : Nat, p1 = .pointer (some ⟨g1, 0, none⟩) ∧ p2 = .pointer (some ⟨g2, 0, none⟩) ∧ p3 = .pointer (some ⟨g3, 0, none⟩) ∧ p4 = .pointer (some ⟨g4, 0, none⟩) ∧ p5 = .pointer (some ⟨g5, 0, none⟩) ∧ p6 = .pointer (some ⟨g6, 0, none⟩) ∧ p7 = .pointer (some ⟨g7, 0, none⟩) ∧ wx.heap[g1]? = some (.cells #[.int .i64 100, .int .i64 500, .int .i64 10, .int .i64 4, .int .i64 5, .int .i64 9000] 23 (0, 0)) ∧ wx.heap[g2]? = some (.cells (CA 1000 y0 y1 y2 y3 y4 z0 z1 z2 z3 z4) 43 (0, 0)) ∧ wx.heap[g3]? = some (.cells (CA 999 y0 y1 y2 y3 y4 z0 z1 z2 z3 z4) 43 (0, 0)) ∧ wx.heap[g4]? = some (.cells (CA 1000 y0 y1 y2 y3 y4 z0 z1 z2 z3 1) 43 (0, 0)) ∧ wx.heap[g5]? = some (.cells #[.int .i64 50, .int .i64 500, .int .i64 10, .int .i64 5, .int .i64 5, .int .i64 9000] 23 (0, 0)) ∧ wx.heap[g6]? = some (.cells #[.int .i64 100, .int .i64 500, .int .i64 10, .int .i64 4, .int .i64 6, .int .i64 9000] 23 (0, 0)) ∧ wx.heap[g7]? = some (.cells #[.int .i64 100, .int .i64 500, .int .i64 0, .int .i64 4, .int .i64 5, .int .i64 9000] 23 (0, 0)) ∧ Kp w wx)
    case first =>
      go_wp2_with fail
      go_meet
      refine ⟨_, _, _, _, _, rfl, rfl, rfl, rfl, rfl, rfl, rfl, heap_kp R1.out (Kp.alloc (Kp.alloc (Kp.alloc (Kp.alloc (Kp.alloc (Kp.refl _) _) _) _) _) _), heap_kp R2.out (Kp.alloc (Kp.alloc (Kp.alloc (Kp.alloc (Kp.alloc (Kp.refl _) _) _) _) _) _), heap_kp (heap_new_at _ _ (by simp)) (Kp.alloc (Kp.alloc (Kp.alloc (Kp.alloc (Kp.refl _) _) _) _) _), heap_kp (heap_new_at _ _ (by simp)) (Kp.alloc (Kp.alloc (Kp.alloc (Kp.refl _) _) _) _), heap_kp (heap_new_at _ _ (by simp)) (Kp.alloc (Kp.alloc (Kp.refl _) _) _), heap_kp (heap_new_at _ _ (by simp)) (Kp.alloc (Kp.refl _) _), heap_kp (heap_new_at _ _ (by simp)) (Kp.refl _), Kp.trans HK.out (Kp.alloc (Kp.alloc (Kp.alloc (Kp.alloc (Kp.alloc (Kp.refl _) _) _) _) _) _)⟩
    case rest =>
      obtain ⟨g3, g4, g5, g6, g7, rfl, rfl, rfl, rfl, rfl, rfl, rfl, r1, r2, r3, r4, r5, r6, r7, hK⟩ := hcut
      clear R1 R2 HK
      have R1 := Lib.hid r1
      have R2 := Lib.hid r2
      have R3 := Lib.hid r3
      have R4 := Lib.hid r4
      have R5 := Lib.hid r5
      have R6 := Lib.hid r6
      have R7 := Lib.hid r7
      clear r1 r2 r3 r4 r5 r6 r7
      have hW := hK
      replace hK := Kp.refl wc
      go_step
      try simp only [List.append_eq, List.cons_append, List.nil_append]
      go_wp2_with (first | (go_at_call 15; first | ((with_reducible (refine (s_rt _).mono ?_)); rintro e w1 ⟨rfl, hk1⟩; replace hK := Kp.trans hK hk1; clear hk1) | ((with_reducible (refine (s_rw _).mono ?_)); rintro e w1 ⟨rfl, hk1⟩; replace hK := Kp.trans hK hk1; clear hk1)) | (go_at_call 25; first | ((with_reducible (refine (F0.out _).mono ?_)); rintro e w1 ⟨rfl, hk1⟩; replace hK := Kp.trans hK hk1; clear hk1) | ((with_reducible (refine (F1.out _).mono ?_)); rintro e w1 ⟨rfl, hk1⟩; replace hK := Kp.trans hK hk1; clear hk1) | ((with_reducible (refine (F2.out _).mono ?_)); rintro e w1 ⟨rfl, hk1⟩; replace hK := Kp.trans hK hk1; clear hk1)) | (go_at_call 23; first | ((with_reducible (refine (ch_tu _).mono ?_)); rintro e w1 ⟨rfl, hk1⟩; replace hK := Kp.trans hK hk1; clear hk1) | ((with_reducible (refine (ch_ut _).mono ?_)); rintro e w1 ⟨rfl, hk1⟩; replace hK := Kp.trans hK hk1; clear hk1) | ((with_reducible (refine (ch_tv _).mono ?_)); rintro e w1 ⟨rfl, hk1⟩; replace hK := Kp.trans hK hk1; clear hk1) | ((with_reducible (refine (ch_tw _).mono ?_)); rintro e w1 ⟨rfl, hk1⟩; replace hK := Kp.trans hK hk1; clear hk1)) | (go_at_call 17; first | ((with_reducible (refine (s_s1 _).mono ?_)); rintro e w1 ⟨rfl, hk1⟩; replace hK := Kp.trans hK hk1; clear hk1) | ((with_reducible (refine (s_s2 _).mono ?_)); rintro e w1 ⟨rfl, hk1⟩; replace hK := Kp.trans hK hk1; clear hk1)) | (go_at_call 19; first | ((with_reducible (refine (s_w0 _).mono ?_)); rintro e w1 ⟨rfl, rfl⟩) | ((with_reducible (refine (s_w16 _).mono ?_)); rintro e w1 ⟨rfl, rfl⟩) | ((with_reducible (refine (s_w17 _).mono ?_)); rintro e w1 ⟨rfl, rfl⟩)) | (go_at_call 21; first | ((with_reducible (refine (s_f1 _).mono ?_)); rintro e w1 ⟨rfl, rfl⟩) | ((with_reducible (refine (s_f2 _).mono ?_)); rintro e w1 ⟨rfl, rfl⟩)) | (refine load_row rfl 23 _ rfl g1 rfl 23 _ _ _ (heap_kp R1.out hK) Try.underlying23 rfl (by kernel_rfl) ?_) | (refine load_row rfl 43 _ rfl g2 rfl 43 _ _ _ (heap_kp R2.out hK) Try.underlying43 rfl (ca_info.trans (by rw [ca_size])) ?_) | (refine load_row rfl 43 _ rfl g3 rfl 43 _ _ _ (heap_kp R3.out hK) Try.underlying43 rfl (ca_info.trans (by rw [ca_size])) ?_) | (refine load_row rfl 43 _ rfl g4 rfl 43 _ _ _ (heap_kp R4.out hK) Try.underlying43 rfl (ca_info.trans (by rw [ca_size])) ?_) | (refine load_row rfl 23 _ rfl g5 rfl 23 _ _ _ (heap_kp R5.out hK) Try.underlying23 rfl (by kernel_rfl) ?_) | (refine load_row rfl 23 _ rfl g6 rfl 23 _ _ _ (heap_kp R6.out hK) Try.underlying23 rfl (by kernel_rfl) ?_) | (refine load_row rfl 23 _ rfl g7 rfl 23 _ _ _ (heap_kp R7.out hK) Try.underlying23 rfl (by kernel_rfl) ?_))
      go_ret
      exact ⟨rfl, Kp.trans hW hK⟩
end Go.Proofs.Ytcdmmfelagbpdaa
