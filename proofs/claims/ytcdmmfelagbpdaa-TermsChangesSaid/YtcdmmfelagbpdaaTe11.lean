/- The walk of TermsSides (printed by gente11.py). -/
import Derived.Test.YtcdmmfelagbpdaaTe10
namespace Go.Proofs.Ytcdmmfelagbpdaa
open Go.RowKit Go.Lib Ckp Cfd Cpd Cwl
set_option linter.unusedVariables false
set_option maxRecDepth 100000
set_option linter.unusedSimpArgs false
theorem ch_set33 (s : Ch) (v : Int) : s.cells.setIfInBounds 33 (.int .i64 v) = Ch.cells { s with amt := v } := by unfold Ch.cells; rfl
theorem ch_set34 (s : Ch) (v : Nat) : s.cells.setIfInBounds 34 (.int .u64 (v : Int)) = Ch.cells { s with p0 := v } := by unfold Ch.cells; rfl
theorem ch_set35 (s : Ch) (v : Nat) : s.cells.setIfInBounds 35 (.int .u64 (v : Int)) = Ch.cells { s with p1 := v } := by unfold Ch.cells; rfl
theorem ch_set36 (s : Ch) (v : Nat) : s.cells.setIfInBounds 36 (.int .u64 (v : Int)) = Ch.cells { s with p2 := v } := by unfold Ch.cells; rfl
theorem ch_set37 (s : Ch) (v : Nat) : s.cells.setIfInBounds 37 (.int .u64 (v : Int)) = Ch.cells { s with p3 := v } := by unfold Ch.cells; rfl
theorem ch_set38 (s : Ch) (v : Nat) : s.cells.setIfInBounds 38 (.int .u64 (v : Int)) = Ch.cells { s with p4 := v } := by unfold Ch.cells; rfl
theorem ch_set39 (s : Ch) (v : Nat) : s.cells.setIfInBounds 39 (.int .u64 (v : Int)) = Ch.cells { s with q0 := v } := by unfold Ch.cells; rfl
theorem ch_set40 (s : Ch) (v : Nat) : s.cells.setIfInBounds 40 (.int .u64 (v : Int)) = Ch.cells { s with q1 := v } := by unfold Ch.cells; rfl
theorem ch_set41 (s : Ch) (v : Nat) : s.cells.setIfInBounds 41 (.int .u64 (v : Int)) = Ch.cells { s with q2 := v } := by unfold Ch.cells; rfl
theorem ch_set42 (s : Ch) (v : Nat) : s.cells.setIfInBounds 42 (.int .u64 (v : Int)) = Ch.cells { s with q3 := v } := by unfold Ch.cells; rfl
theorem ch_set43 (s : Ch) (v : Nat) : s.cells.setIfInBounds 43 (.int .u64 (v : Int)) = Ch.cells { s with q4 := v } := by unfold Ch.cells; rfl
theorem ch_set44 (s : Ch) (v : Int) : s.cells.setIfInBounds 44 (.int .i64 v) = Ch.cells { s with d := v } := by unfold Ch.cells; rfl
theorem ch_set45 (s : Ch) (v : Int) : s.cells.setIfInBounds 45 (.int .i64 v) = Ch.cells { s with r := v } := by unfold Ch.cells; rfl
theorem ch_set46 (s : Ch) (v : Int) : s.cells.setIfInBounds 46 (.int .i64 v) = Ch.cells { s with l := v } := by unfold Ch.cells; rfl
theorem ch_set47 (s : Ch) (v : Int) : s.cells.setIfInBounds 47 (.int .i64 v) = Ch.cells { s with c := v } := by unfold Ch.cells; rfl
theorem ch_set48 (s : Ch) (v : Int) : s.cells.setIfInBounds 48 (.int .i64 v) = Ch.cells { s with a := v } := by unfold Ch.cells; rfl
theorem ch_set49 (s : Ch) (v : Int) : s.cells.setIfInBounds 49 (.int .i64 v) = Ch.cells { s with m := v } := by unfold Ch.cells; rfl
theorem ch_set50 (s : Ch) (v : Int) : s.cells.setIfInBounds 50 (.int .i64 v) = Ch.cells { s with d' := v } := by unfold Ch.cells; rfl
theorem ch_set51 (s : Ch) (v : Int) : s.cells.setIfInBounds 51 (.int .i64 v) = Ch.cells { s with r' := v } := by unfold Ch.cells; rfl
theorem ch_set52 (s : Ch) (v : Int) : s.cells.setIfInBounds 52 (.int .i64 v) = Ch.cells { s with l' := v } := by unfold Ch.cells; rfl
theorem ch_set53 (s : Ch) (v : Int) : s.cells.setIfInBounds 53 (.int .i64 v) = Ch.cells { s with c' := v } := by unfold Ch.cells; rfl
theorem ch_set54 (s : Ch) (v : Int) : s.cells.setIfInBounds 54 (.int .i64 v) = Ch.cells { s with a' := v } := by unfold Ch.cells; rfl
theorem ch_set55 (s : Ch) (v : Int) : s.cells.setIfInBounds 55 (.int .i64 v) = Ch.cells { s with m' := v } := by unfold Ch.cells; rfl
theorem ch_set56 (s : Ch) (v : Int) : s.cells.setIfInBounds 56 (.int .i64 v) = Ch.cells { s with op := v } := by unfold Ch.cells; rfl
/-- The sides changed. -/
def Ch.swap (s : Ch) (amt : Int) : Ch := ⟨s.x0, s.x1, s.x2, s.x3, s.x4, s.x5, s.x6, s.x7, s.x8, s.x9, s.x10, s.x11, s.x12, s.x13, s.x14, s.x15, s.x16, s.x17, s.x18, s.x19, s.x20, s.x21, s.x22, s.x23, s.x24, s.x25, s.x26, s.x27, s.x28, s.x29, s.x30, s.x31, s.n, amt, s.q0, s.q1, s.q2, s.q3, s.q4, s.p0, s.p1, s.p2, s.p3, s.p4, s.d', s.r', s.l', s.c', s.a', s.m', s.d, s.r, s.l, s.c, s.a, s.m, 1 - s.op⟩
theorem swap_ok {s : Ch} (h : s.Ok) (ho : s.op = 0 ∨ s.op = 1) (amt : Int) : (s.swap amt).Ok :=
  ⟨h.hq0, h.hq1, h.hq2, h.hq3, h.hq4, h.hp0, h.hp1, h.hp2, h.hp3, h.hp4, by unfold Ch.swap; rcases ho with h | h <;> simp [h]⟩
theorem tfit_swap (amt n op : Int) (ho : op = 0 ∨ op = 1) (T0 P0 T1 P1 : Bool) (r0 r1 : Int) : tfit amt n (1 - op) T1 P1 T0 P0 r1 r0 = tfit amt n op T0 P0 T1 P1 r0 r1 := by
  unfold tfit
  have e1 : (1 - op = 0 ∨ 1 - op = 1) ↔ (op = 0 ∨ op = 1) := by omega
  simp only [e1, Int.add_comm r1 r0, Bool.and_comm (T1 && P1)]
theorem swap_fit {s : Ch} (ho : s.op = 0 ∨ s.op = 1) : (s.swap s.amt).fit = s.fit := tfit_swap _ _ _ ho _ _ _ _ _ _
theorem tfit_more {amt amt' n op : Int} {T0 P0 T1 P1 : Bool} {r0 r1 : Int} (h : tfit amt n op T0 P0 T1 P1 r0 r1 = 0) (h1 : amt ≤ amt') (h2 : amt' ≤ 1125899906842624) : tfit amt' n op T0 P0 T1 P1 r0 r1 = 0 := by
  unfold tfit at h ⊢
  split at h
  · cases h
  · rename_i hg
    simp only [Classical.not_not] at hg
    rw [if_neg (fun hn => hn ⟨⟨by omega, h2⟩, hg.2⟩)]
    split at h
    · cases h
    · rename_i hb
      rw [if_neg hb]
      split at h
      · cases h
      · rw [if_neg (by omega)]
theorem swap_more {s : Ch} (ho : s.op = 0 ∨ s.op = 1) (hf : s.fit = 0) {more : Int} (h0 : 0 ≤ more) (h1 : more ≤ 1125899906842624 - s.amt) : (s.swap (s.amt + more)).fit = 0 := by
  have h : (s.swap s.amt).fit = 0 := (swap_fit ho).trans hf
  exact tfit_more (amt := s.amt) (amt' := s.amt + more) h (by omega) (by omega)
theorem fit_amt {s : Ch} (hf : s.fit = 0) : 1 ≤ s.amt ∧ s.amt ≤ 1125899906842624 := by
  unfold Ch.fit tfit at hf
  split at hf
  · cases hf
  · rename_i hg
    simp only [Classical.not_not] at hg
    exact hg.1
theorem fit_op {s : Ch} (ho : ¬ (s.op = 0 ∨ s.op = 1)) : s.fit = 1 := by
  unfold Ch.fit tfit
  rw [if_pos (fun h => ho h.2.2)]

set_option maxHeartbeats 4000000 in
theorem sides_else (w : World) (s : Ch) (ok : s.Ok) (ho : ¬ (s.op = 0 ∨ s.op = 1)) (more : Int) : Calls Try.prog 7 #[.agg s.cells, .int .i64 more] w fun e w' => e = .returned (.bool true) ∧ Kp w w' := by
    have hf := fit_op ho
    have H0 := Lib.hid (fun w => ch_fit s ok w)
    rw [hf] at H0
    have o1 : (s.op != 0) = true := by simp; exact fun h => ho (.inl h)
    have o2 : (s.op != 1) = true := by simp; exact fun h => ho (.inr h)
    clear ok hf ho
    go_enter Try.func7, Try.ntmps7
    go_wp2_with fail
    refine (small19_any _).mono ?_
    rintro e w1 ⟨rfl, hK⟩
    have hr1 := heap_kp (heap_new_at w (.cells s.cells 43) rfl) hK
    have hlt := row_lt hr1
    have R1 := Lib.hid hr1
    have HW := Lib.hid (Kp.trans ((Kp.refl w).alloc _) hK)
    clear hK hr1
    replace hK := Kp.refl w1
    have c56 : ∀ w2, Kp w1 w2 → w2.cell? ⟨w.heap.size, 56, none⟩ = some (.int .i64 s.op) := fun w2 hk => by rw [hk.cell (p := ⟨w.heap.size, 56, none⟩) hlt, cell_of_row _ _ _ _ _ _ R1.out]; exact ch_at56 s
    have C := Lib.hid c56
    clear c56
    go_wp2_with (first | (refine load_row rfl 43 _ rfl w.heap.size rfl 43 _ _ _ (heap_kp R1.out (by (repeat (first | assumption | exact Kp.refl _ | with_reducible refine Kp.alloc ?_ _ | with_reducible refine Kp.drewN ?_ _ | with_reducible refine Kp.drew ?_ | (with_reducible refine Kp.setCell ?_ (by simp) _))))) Try.underlying43 rfl (ca_info.trans (by rw [ch_size])) ?_; simp only [Act.put, List.setIfInBounds_toArray, List.set_cons_zero, List.set_cons_succ]) | (go_at_call 25; (with_reducible refine (H0.out _).mono ?_); rintro e w2 ⟨rfl, hk⟩; replace hK := Kp.trans hK hk; have c56 := C.out _ hK; clear hk C))
    go_ret
    exact ⟨rfl, HW.out.trans hK⟩
set_option maxHeartbeats 4000000 in
theorem sides_fit (w : World) (s : Ch) (ok : s.Ok) (ho : s.op = 0 ∨ s.op = 1) (hamt : -9223372036854775808 ≤ s.amt ∧ s.amt ≤ 9223372036854775807) (more : Int) (hm : -9223372036854775808 ≤ more ∧ more ≤ 9223372036854775807) : Calls Try.prog 7 #[.agg s.cells, .int .i64 more] w fun e w' => e = .returned (.bool true) ∧ Kp w w' := by
    have H0 := Lib.hid (fun w => ch_fit s ok w)
    have H1 := Lib.hid (fun w => ch_fit (s.swap s.amt) (swap_ok ok ho s.amt) w)
    have hs1 := swap_fit ho
    rw [hs1] at H1
    have HO := Lib.hid ok
    have hop : (s.op != 0) = false ∨ ((s.op != 0) = true ∧ (s.op != 1) = false) := by rcases ho with h | h <;> simp [h]
    have HQ := Lib.hid ho
    have hob : 0 ≤ s.op ∧ s.op ≤ 1 := by omega
    obtain ⟨hob1, hob2⟩ := hob
    clear hs1 ok ho
    generalize hz : s.fit = z at *
    have HZ := Lib.hid hz
    clear hz
    go_enter Try.func7, Try.ntmps7
    go_wp2_with fail
    refine (small19_any _).mono ?_
    rintro e w1 ⟨rfl, hK⟩
    have hr1 := heap_kp (heap_new_at w (.cells s.cells 43) rfl) hK
    have hlt := row_lt hr1
    have R1 := Lib.hid hr1
    have HW := Lib.hid (Kp.trans ((Kp.refl w).alloc _) hK)
    clear hK hr1
    replace hK := Kp.refl w1
    have CC : Hid (∀ w2, Kp w1 w2 → w2.cell? ⟨w.heap.size, 33, none⟩ = some (.int .i64 s.amt) ∧ w2.cell? ⟨w.heap.size, 34, none⟩ = some (.int .u64 (s.p0 : Int)) ∧ w2.cell? ⟨w.heap.size, 35, none⟩ = some (.int .u64 (s.p1 : Int)) ∧ w2.cell? ⟨w.heap.size, 36, none⟩ = some (.int .u64 (s.p2 : Int)) ∧ w2.cell? ⟨w.heap.size, 37, none⟩ = some (.int .u64 (s.p3 : Int)) ∧ w2.cell? ⟨w.heap.size, 38, none⟩ = some (.int .u64 (s.p4 : Int)) ∧ w2.cell? ⟨w.heap.size, 39, none⟩ = some (.int .u64 (s.q0 : Int)) ∧ w2.cell? ⟨w.heap.size, 40, none⟩ = some (.int .u64 (s.q1 : Int)) ∧ w2.cell? ⟨w.heap.size, 41, none⟩ = some (.int .u64 (s.q2 : Int)) ∧ w2.cell? ⟨w.heap.size, 42, none⟩ = some (.int .u64 (s.q3 : Int)) ∧ w2.cell? ⟨w.heap.size, 43, none⟩ = some (.int .u64 (s.q4 : Int)) ∧ w2.cell? ⟨w.heap.size, 44, none⟩ = some (.int .i64 s.d) ∧ w2.cell? ⟨w.heap.size, 45, none⟩ = some (.int .i64 s.r) ∧ w2.cell? ⟨w.heap.size, 46, none⟩ = some (.int .i64 s.l) ∧ w2.cell? ⟨w.heap.size, 47, none⟩ = some (.int .i64 s.c) ∧ w2.cell? ⟨w.heap.size, 48, none⟩ = some (.int .i64 s.a) ∧ w2.cell? ⟨w.heap.size, 49, none⟩ = some (.int .i64 s.m) ∧ w2.cell? ⟨w.heap.size, 50, none⟩ = some (.int .i64 s.d') ∧ w2.cell? ⟨w.heap.size, 51, none⟩ = some (.int .i64 s.r') ∧ w2.cell? ⟨w.heap.size, 52, none⟩ = some (.int .i64 s.l') ∧ w2.cell? ⟨w.heap.size, 53, none⟩ = some (.int .i64 s.c') ∧ w2.cell? ⟨w.heap.size, 54, none⟩ = some (.int .i64 s.a') ∧ w2.cell? ⟨w.heap.size, 55, none⟩ = some (.int .i64 s.m') ∧ w2.cell? ⟨w.heap.size, 56, none⟩ = some (.int .i64 s.op)) := Lib.hid fun w2 hk => ⟨by rw [hk.cell (p := ⟨w.heap.size, 33, none⟩) hlt, cell_of_row _ _ _ _ _ _ R1.out]; exact ch_at33 s, by rw [hk.cell (p := ⟨w.heap.size, 34, none⟩) hlt, cell_of_row _ _ _ _ _ _ R1.out]; exact ch_at34 s, by rw [hk.cell (p := ⟨w.heap.size, 35, none⟩) hlt, cell_of_row _ _ _ _ _ _ R1.out]; exact ch_at35 s, by rw [hk.cell (p := ⟨w.heap.size, 36, none⟩) hlt, cell_of_row _ _ _ _ _ _ R1.out]; exact ch_at36 s, by rw [hk.cell (p := ⟨w.heap.size, 37, none⟩) hlt, cell_of_row _ _ _ _ _ _ R1.out]; exact ch_at37 s, by rw [hk.cell (p := ⟨w.heap.size, 38, none⟩) hlt, cell_of_row _ _ _ _ _ _ R1.out]; exact ch_at38 s, by rw [hk.cell (p := ⟨w.heap.size, 39, none⟩) hlt, cell_of_row _ _ _ _ _ _ R1.out]; exact ch_at39 s, by rw [hk.cell (p := ⟨w.heap.size, 40, none⟩) hlt, cell_of_row _ _ _ _ _ _ R1.out]; exact ch_at40 s, by rw [hk.cell (p := ⟨w.heap.size, 41, none⟩) hlt, cell_of_row _ _ _ _ _ _ R1.out]; exact ch_at41 s, by rw [hk.cell (p := ⟨w.heap.size, 42, none⟩) hlt, cell_of_row _ _ _ _ _ _ R1.out]; exact ch_at42 s, by rw [hk.cell (p := ⟨w.heap.size, 43, none⟩) hlt, cell_of_row _ _ _ _ _ _ R1.out]; exact ch_at43 s, by rw [hk.cell (p := ⟨w.heap.size, 44, none⟩) hlt, cell_of_row _ _ _ _ _ _ R1.out]; exact ch_at44 s, by rw [hk.cell (p := ⟨w.heap.size, 45, none⟩) hlt, cell_of_row _ _ _ _ _ _ R1.out]; exact ch_at45 s, by rw [hk.cell (p := ⟨w.heap.size, 46, none⟩) hlt, cell_of_row _ _ _ _ _ _ R1.out]; exact ch_at46 s, by rw [hk.cell (p := ⟨w.heap.size, 47, none⟩) hlt, cell_of_row _ _ _ _ _ _ R1.out]; exact ch_at47 s, by rw [hk.cell (p := ⟨w.heap.size, 48, none⟩) hlt, cell_of_row _ _ _ _ _ _ R1.out]; exact ch_at48 s, by rw [hk.cell (p := ⟨w.heap.size, 49, none⟩) hlt, cell_of_row _ _ _ _ _ _ R1.out]; exact ch_at49 s, by rw [hk.cell (p := ⟨w.heap.size, 50, none⟩) hlt, cell_of_row _ _ _ _ _ _ R1.out]; exact ch_at50 s, by rw [hk.cell (p := ⟨w.heap.size, 51, none⟩) hlt, cell_of_row _ _ _ _ _ _ R1.out]; exact ch_at51 s, by rw [hk.cell (p := ⟨w.heap.size, 52, none⟩) hlt, cell_of_row _ _ _ _ _ _ R1.out]; exact ch_at52 s, by rw [hk.cell (p := ⟨w.heap.size, 53, none⟩) hlt, cell_of_row _ _ _ _ _ _ R1.out]; exact ch_at53 s, by rw [hk.cell (p := ⟨w.heap.size, 54, none⟩) hlt, cell_of_row _ _ _ _ _ _ R1.out]; exact ch_at54 s, by rw [hk.cell (p := ⟨w.heap.size, 55, none⟩) hlt, cell_of_row _ _ _ _ _ _ R1.out]; exact ch_at55 s, by rw [hk.cell (p := ⟨w.heap.size, 56, none⟩) hlt, cell_of_row _ _ _ _ _ _ R1.out]; exact ch_at56 s⟩
    unfold Ch.swap at H1
    go_upto_region 3 with (first | (refine load_row rfl 43 _ rfl w.heap.size rfl 43 _ _ _ (heap_kp R1.out (by (repeat (first | assumption | exact Kp.refl _ | with_reducible refine Kp.alloc ?_ _ | with_reducible refine Kp.drewN ?_ _ | with_reducible refine Kp.drew ?_ | (with_reducible refine Kp.setCell ?_ (by simp) _))))) Try.underlying43 rfl (ca_info.trans (by rw [ch_size])) ?_; simp only [Act.put, List.setIfInBounds_toArray, List.set_cons_zero, List.set_cons_succ]) | (go_at_call 25; (with_reducible refine (H0.out _).mono ?_); rintro e w2 ⟨rfl, hk⟩; replace hK := Kp.trans hK hk; clear hk))
    obtain ⟨c33, c34, c35, c36, c37, c38, c39, c40, c41, c42, c43, c44, c45, c46, c47, c48, c49, c50, c51, c52, c53, c54, c55, c56⟩ := CC.out w2 hK
    have hlt2 : w.heap.size < w2.heap.size := Nat.lt_of_lt_of_le hlt hK.size
    have asz := ch_size
    have a33 := ch_at33
    have s33 := ch_set33
    have a34 := ch_at34
    have s34 := ch_set34
    have a35 := ch_at35
    have s35 := ch_set35
    have a36 := ch_at36
    have s36 := ch_set36
    have a37 := ch_at37
    have s37 := ch_set37
    have a38 := ch_at38
    have s38 := ch_set38
    have a39 := ch_at39
    have s39 := ch_set39
    have a40 := ch_at40
    have s40 := ch_set40
    have a41 := ch_at41
    have s41 := ch_set41
    have a42 := ch_at42
    have s42 := ch_set42
    have a43 := ch_at43
    have s43 := ch_set43
    have a44 := ch_at44
    have s44 := ch_set44
    have a45 := ch_at45
    have s45 := ch_set45
    have a46 := ch_at46
    have s46 := ch_set46
    have a47 := ch_at47
    have s47 := ch_set47
    have a48 := ch_at48
    have s48 := ch_set48
    have a49 := ch_at49
    have s49 := ch_set49
    have a50 := ch_at50
    have s50 := ch_set50
    have a51 := ch_at51
    have s51 := ch_set51
    have a52 := ch_at52
    have s52 := ch_set52
    have a53 := ch_at53
    have s53 := ch_set53
    have a54 := ch_at54
    have s54 := ch_set54
    have a55 := ch_at55
    have s55 := ch_set55
    have a56 := ch_at56
    have s56 := ch_set56
    rcases hop with hop | ⟨hop, hop2⟩
    all_goals
      go_upto_region 9 with (first | (refine load_row rfl 43 _ rfl w.heap.size rfl 43 _ _ _ (heap_kp R1.out (by (repeat (first | assumption | exact Kp.refl _ | with_reducible refine Kp.alloc ?_ _ | with_reducible refine Kp.drewN ?_ _ | with_reducible refine Kp.drew ?_ | (with_reducible refine Kp.setCell ?_ (by simp) _))))) Try.underlying43 rfl (ca_info.trans (by rw [ch_size])) ?_; simp only [Act.put, List.setIfInBounds_toArray, List.set_cons_zero, List.set_cons_succ]) | (refine alloc_law rfl 43 CZ rfl cz_alloc ?_; simp only [Act.put, List.setIfInBounds_toArray, List.set_cons_zero, List.set_cons_succ]) | (refine store_new rfl 43 _ _ rfl (by first | rfl | simp [Act.eval]) _ rfl (ca_info.trans (by rw [ch_size])) (by rw [cz_size, ch_size]) (ch_one ..) ?_; simp only [Act.put, List.setIfInBounds_toArray, List.set_cons_zero, List.set_cons_succ]))
      clear a33 s33 a34 s34 a35 s35 a36 s36 a37 s37 a38 s38 a39 s39 a40 s40 a41 s41 a42 s42 a43 s43 a44 s44 a45 s45 a46 s46 a47 s47 a48 s48 a49 s49 a50 s50 a51 s51 a52 s52 a53 s53 a54 s54 a55 s55 a56 s56 asz c33 c34 c35 c36 c37 c38 c39 c40 c41 c42 c43 c44 c45 c46 c47 c48 c49 c50 c51 c52 c53 c54 c55 c56
      go_upto_region 11 with (first | (refine load_row rfl 43 _ rfl _ rfl 43 _ _ _ (heap_alloc_new _ _) Try.underlying43 rfl (ca_info.trans (by rw [ch_size])) ?_; simp only [Act.put, List.setIfInBounds_toArray, List.set_cons_zero, List.set_cons_succ]) | (go_at_call 25; (with_reducible refine (H1.out _).mono ?_); rintro e w3 ⟨rfl, hk3⟩))
      have hr7 := heap_kp (heap_alloc_new w2 _) hk3
      have hK3 : Kp w1 w3 := Kp.trans (hK.alloc _) hk3
      have hlt3 : w2.heap.size < w3.heap.size := row_lt hr7
      have c33 := (CC.out w3 hK3).1
      have HK3 := Lib.hid (HW.out.trans hK3)
      clear hk3 hK hK3 CC H0 H1
      by_cases hz : z = 0
      · subst hz
        obtain ⟨b1, b2⟩ := fit_amt HZ.out
        by_cases m1 : 0 ≤ more
        · by_cases m2 : more ≤ 1125899906842624 - s.amt
          · have H2 := Lib.hid (fun w => ch_fit (s.swap (s.amt + more)) (swap_ok HO.out HQ.out _) w)
            rw [swap_more HQ.out HZ.out m1 m2] at H2
            unfold Ch.swap at H2
            have R7 := Lib.hid hr7
            have c7 : w3.cell? ⟨w2.heap.size, 33, none⟩ = some (.int .i64 s.amt) := by rw [cell_of_row _ _ _ _ _ _ hr7]; exact ch_at33 _
            have f7 : w3.frozen? ⟨w2.heap.size, 33, none⟩ = false := frozen_of_row _ _ _ _ _ hr7
            clear hr7
            go_upto_region 14 with fail
            clear c7 f7
            have hr8 := heap_setCell_same _ _ 33 _ _ (.int .i64 (s.amt + more)) R7.out
            rw [ch_set33] at hr8
            have R8 := Lib.hid hr8
            clear hr8
            go_wp2_with (first | (refine load_row rfl 43 _ rfl _ rfl 43 _ _ _ R8.out Try.underlying43 rfl (ca_info.trans (by rw [ch_size])) ?_; simp only [Act.put, List.setIfInBounds_toArray, List.set_cons_zero, List.set_cons_succ]) | (go_at_call 25; (with_reducible refine (H2.out _).mono ?_); rintro e w4 ⟨rfl, hk4⟩))
            go_ret
            exact ⟨rfl, Kp.trans (HK3.out.setCell (by have h1 := HW.out.size; show w.heap.size ≤ w2.heap.size; omega) _) hk4⟩
          · clear hr7
            go_wp2_with fail
            go_ret
            exact ⟨rfl, HK3.out⟩
        · clear hr7
          go_wp2_with fail
          go_ret
          exact ⟨rfl, HK3.out⟩
      · have hz' : (z != 0) = true := by simpa using hz
        clear hr7 hz
        go_wp2_with fail
        go_ret
        exact ⟨rfl, HK3.out⟩
theorem walk_sides19 (w : World) (s : Ch) (hok : s.Ok ∧ -9223372036854775808 ≤ s.amt ∧ s.amt ≤ 9223372036854775807) (more : Int) (hm : -9223372036854775808 ≤ more ∧ more ≤ 9223372036854775807) : Calls Try.prog 7 #[.agg s.cells, .int .i64 more] w fun e w' => e = .returned (.bool true) ∧ Kp w w' := by
  by_cases ho : s.op = 0 ∨ s.op = 1
  · exact sides_fit w s hok.1 ho hok.2 more hm
  · exact sides_else w s hok.1 ho more
end Go.Proofs.Ytcdmmfelagbpdaa
