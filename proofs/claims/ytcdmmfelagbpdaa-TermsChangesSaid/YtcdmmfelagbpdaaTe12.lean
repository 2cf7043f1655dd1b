/- The walk of TermsChanges (printed by gente12.py). -/
import Derived.Test.YtcdmmfelagbpdaaTe11
namespace Go.Proofs.Ytcdmmfelagbpdaa
open Go.RowKit Go.Lib Ckp Cfd Cpd Cwl
set_option linter.unusedVariables false
set_option maxRecDepth 100000
set_option linter.unusedSimpArgs false
/-- What a change is told of. -/
def cg (d r l c a m d' r' l' c' a' m' : Int) : Int := tchange (tright d r l c a m) (tright d' r' l' c' a' m') d r l c a m d' r' l' c' a' m'
theorem cg_zero {d r l c a m d' r' l' c' a' m' : Int} : cg d r l c a m d' r' l' c' a' m' = 0 ↔ tright d r l c a m = true ∧ tright d' r' l' c' a' m' = true ∧ d' ≤ d ∧ r' ≤ r ∧ l' ≤ l ∧ c ≤ c' ∧ m ≤ m' ∧ a' ≤ a := by
  unfold cg tchange
  generalize tright d r l c a m = x
  generalize tright d' r' l' c' a' m' = y
  cases x <;> cases y <;> simp
  constructor
  · intro h
    split at h
    · cases h
    split at h
    · cases h
    split at h
    · cases h
    split at h
    · cases h
    omega
  · rintro ⟨h1, h2, h3, h4, h5, h6⟩
    rw [if_neg (by omega), if_neg (by omega), if_neg (by omega), if_neg (by omega)]
theorem cg_any (d r l c a m d' r' l' c' a' m' : Int) (w : World) : Calls Try.prog 23 #[TV d r l c a m, TV d' r' l' c' a' m'] w fun e w' => e = .returned (.int .i64 (cg d r l c a m d' r' l' c' a' m')) ∧ Kp w w' := change_any d r l c a m d' r' l' c' a' m' w
theorem cg_self {d r l c a m : Int} (h : tright d r l c a m = true) : cg d r l c a m d r l c a m = 0 := cg_zero.2 ⟨h, h, Int.le_refl _, Int.le_refl _, Int.le_refl _, Int.le_refl _, Int.le_refl _, Int.le_refl _⟩
theorem cg_trans {d r l c a m d' r' l' c' a' m' x1 x2 x3 x4 x5 x6 : Int} (h : cg d r l c a m d' r' l' c' a' m' = 0) (k : cg d' r' l' c' a' m' x1 x2 x3 x4 x5 x6 = 0) : cg d r l c a m x1 x2 x3 x4 x5 x6 = 0 := by
  obtain ⟨h1, h2, h3, h4, h5, h6, h7, h8⟩ := cg_zero.1 h
  obtain ⟨k1, k2, k3, k4, k5, k6, k7, k8⟩ := cg_zero.1 k
  exact cg_zero.2 ⟨h1, k2, by omega, by omega, by omega, by omega, by omega, by omega⟩
theorem cg_back {d r l c a m d' r' l' c' a' m' : Int} (h : cg d r l c a m d' r' l' c' a' m' = 0) (k : cg d' r' l' c' a' m' d r l c a m = 0) : d' = d ∧ r' = r ∧ l' = l ∧ c' = c ∧ a' = a ∧ m' = m := by
  obtain ⟨h1, h2, h3, h4, h5, h6, h7, h8⟩ := cg_zero.1 h
  obtain ⟨k1, k2, k3, k4, k5, k6, k7, k8⟩ := cg_zero.1 k
  omega
theorem eq_terms (ρ : Operand → Value) (i j : Nat) (d r l c a m d' r' l' c' a' m' : Int) (hx : ρ (.tmp i) = TV d r l c a m) (hy : ρ (.tmp j) = TV d' r' l' c' a' m') (o : Oper) (ho : o.op = .binOp .eql 23 (.tmp i) (.tmp j) 23) (w : World) :
    (execOp ρ o).run Try.prog w = .ok (.value (.bool (decide (d = d' ∧ r = r' ∧ l = l' ∧ c = c' ∧ a = a' ∧ m = m')))) w := by
  unfold execOp
  simp only [ho, hx, hy]
  go_simp
  by_cases h1 : d = d'
  · by_cases h2 : r = r'
    · by_cases h3 : l = l'
      · by_cases h4 : c = c'
        · by_cases h5 : a = a'
          · by_cases h6 : m = m'
            · simp [h1, h2, h3, h4, h5, h6]
            · simp [h1, h2, h3, h4, h5, h6]
          · simp [h1, h2, h3, h4, h5]
        · simp [h1, h2, h3, h4]
      · simp [h1, h2, h3]
    · simp [h1, h2]
  · simp [h1]
theorem quiet_val {P : Program} {ops : Array Oper} {C : World → Prop} {Q : Act → Prop} {rest : List Oper} {o : Oper} {a : Act} (hgd : Region.wanted o (yielded ops a.tmps) = true) (v : Value) (hr : ∀ w, (execOp a.eval o).run P w = .ok (.value v) w)
    (h : wpQuiet P ops C Q rest (a.put o.dst v)) : wpQuiet P ops C Q (o :: rest) a := by
  refine wpQuiet_step fun K hK => ?_
  rw [if_pos hgd]
  refine ⟨v, fun w hw => ?_, hK _ h⟩
  unfold Oper.quietAt
  rw [hr w]
  exact ⟨rfl, rfl⟩

def Ch.with0 (s : Ch) (u1 u2 u3 u4 u5 u6 : Int) : Ch := ⟨s.x0, s.x1, s.x2, s.x3, s.x4, s.x5, s.x6, s.x7, s.x8, s.x9, s.x10, s.x11, s.x12, s.x13, s.x14, s.x15, s.x16, s.x17, s.x18, s.x19, s.x20, s.x21, s.x22, s.x23, s.x24, s.x25, s.x26, s.x27, s.x28, s.x29, s.x30, s.x31, s.n, s.amt, s.p0, s.p1, s.p2, s.p3, s.p4, s.q0, s.q1, s.q2, s.q3, s.q4, u1, u2, u3, u4, u5, u6, s.d', s.r', s.l', s.c', s.a', s.m', s.op⟩
theorem with0_fit {s : Ch} {u1 u2 u3 u4 u5 u6 : Int} (h : s.fit = 0) (k : cg s.d s.r s.l s.c s.a s.m u1 u2 u3 u4 u5 u6 = 0) : (s.with0 u1 u2 u3 u4 u5 u6).fit = 0 := by
  obtain ⟨k1, k2, k3, k4, k5, k6, k7, k8⟩ := cg_zero.1 k
  unfold Ch.fit at h ⊢
  unfold Ch.with0
  simp only at h ⊢
  rw [k2]
  rw [k1] at h
  unfold tfit at h ⊢
  split at h
  · cases h
  · rename_i hg
    rw [if_neg hg]
    split at h
    · cases h
    · rename_i hb
      rw [if_neg hb]
      split at h
      · cases h
      · rw [if_neg (by omega)]
theorem with0_ok {s : Ch} {u1 u2 u3 u4 u5 u6 : Int} (h : s.Ok) : (s.with0 u1 u2 u3 u4 u5 u6).Ok := ⟨h.hp0, h.hp1, h.hp2, h.hp3, h.hp4, h.hq0, h.hq1, h.hq2, h.hq3, h.hq4, h.hop⟩
set_option maxHeartbeats 8000000 in
theorem changes_0 (w : World) (s : Ch) (ok : s.Ok) (u1 u2 u3 u4 u5 u6 v1 v2 v3 v4 v5 v6 amount : Int) : Calls Try.prog 5 #[.agg s.cells, .int .i64 0, TV u1 u2 u3 u4 u5 u6, TV v1 v2 v3 v4 v5 v6, .int .i64 amount] w fun e w' => e = .returned (.bool true) ∧ Kp w w' := by
  have HE := Lib.hid (fun w => cg_any s.d s.r s.l s.c s.a s.m u1 u2 u3 u4 u5 u6 w)
  have HF := Lib.hid (fun w => cg_any u1 u2 u3 u4 u5 u6 v1 v2 v3 v4 v5 v6 w)
  have HG := Lib.hid (fun w => cg_any s.d s.r s.l s.c s.a s.m v1 v2 v3 v4 v5 v6 w)
  have HT := Lib.hid (fun w => cg_any s.d s.r s.l s.c s.a s.m s.d s.r s.l s.c s.a s.m w)
  have HB := Lib.hid (fun w => cg_any u1 u2 u3 u4 u5 u6 s.d s.r s.l s.c s.a s.m w)
  have HR := Lib.hid (fun w => tright_kp s.d s.r s.l s.c s.a s.m w)
  have HU := Lib.hid (fun w => tright_kp u1 u2 u3 u4 u5 u6 w)
  have HS := Lib.hid (fun w => shown_any s.d s.r s.l s.c s.a s.m amount w)
  have HV := Lib.hid (fun w => shown_any u1 u2 u3 u4 u5 u6 amount w)
  have H0 := Lib.hid (fun w => ch_fit s ok w)
  have HO := Lib.hid ok
  clear ok
  go_enter Try.func5, Try.ntmps5
  go_wp2_with fail
  refine (small19_any _).mono ?_
  rintro e w1 ⟨rfl, hK⟩
  have hr5 := heap_kp (heap_new_at w (.cells s.cells 43) rfl) (Kp.trans (((Kp.refl _).alloc (.cells #[.int .i64 u1, .int .i64 u2, .int .i64 u3, .int .i64 u4, .int .i64 u5, .int .i64 u6] 23)).alloc (.cells #[.int .i64 v1, .int .i64 v2, .int .i64 v3, .int .i64 v4, .int .i64 v5, .int .i64 v6] 23)) hK)
  have hr7 := heap_kp (heap_new_at (w.alloc (.cells s.cells 43)) (.cells #[.int .i64 u1, .int .i64 u2, .int .i64 u3, .int .i64 u4, .int .i64 u5, .int .i64 u6] 23) (k := w.heap.size + 1) (by simp)) (Kp.trans ((Kp.refl _).alloc (.cells #[.int .i64 v1, .int .i64 v2, .int .i64 v3, .int .i64 v4, .int .i64 v5, .int .i64 v6] 23)) hK)
  have hr8 := heap_kp (heap_new_at ((w.alloc (.cells s.cells 43)).alloc (.cells #[.int .i64 u1, .int .i64 u2, .int .i64 u3, .int .i64 u4, .int .i64 u5, .int .i64 u6] 23)) (.cells #[.int .i64 v1, .int .i64 v2, .int .i64 v3, .int .i64 v4, .int .i64 v5, .int .i64 v6] 23) (k := w.heap.size + 2) (by simp)) hK
  have hW := Kp.trans ((((Kp.refl w).alloc _).alloc _).alloc _) hK
  have R5 := Lib.hid hr5
  have R7 := Lib.hid hr7
  have R8 := Lib.hid hr8
  have HW := Lib.hid hW
  have c44 : w1.cell? ⟨w.heap.size, 44, none⟩ = some (.int .i64 s.d) := by rw [cell_of_row _ _ _ _ _ _ hr5]; exact ch_at44 s
  have c45 : w1.cell? ⟨w.heap.size, 45, none⟩ = some (.int .i64 s.r) := by rw [cell_of_row _ _ _ _ _ _ hr5]; exact ch_at45 s
  have c46 : w1.cell? ⟨w.heap.size, 46, none⟩ = some (.int .i64 s.l) := by rw [cell_of_row _ _ _ _ _ _ hr5]; exact ch_at46 s
  have c47 : w1.cell? ⟨w.heap.size, 47, none⟩ = some (.int .i64 s.c) := by rw [cell_of_row _ _ _ _ _ _ hr5]; exact ch_at47 s
  have c48 : w1.cell? ⟨w.heap.size, 48, none⟩ = some (.int .i64 s.a) := by rw [cell_of_row _ _ _ _ _ _ hr5]; exact ch_at48 s
  have c49 : w1.cell? ⟨w.heap.size, 49, none⟩ = some (.int .i64 s.m) := by rw [cell_of_row _ _ _ _ _ _ hr5]; exact ch_at49 s
  have hlt := row_lt hr5
  clear hK hr5 hr7 hr8 hW
  go_upto_region 4 with fail
  go_cut [12] (fun p wx => ∃ g : Nat, p = .pointer (some ⟨g, 0, none⟩) ∧ wx.heap[g]? = some (.cells #[.int .i64 s.d, .int .i64 s.r, .int .i64 s.l, .int .i64 s.c, .int .i64 s.a, .int .i64 s.m] 23 (0, 0)) ∧ wx.heap[w.heap.size]? = some (.cells s.cells 43 (0, 0)) ∧ wx.heap[w.heap.size + 1]? = some (.cells #[.int .i64 u1, .int .i64 u2, .int .i64 u3, .int .i64 u4, .int .i64 u5, .int .i64 u6] 23 (0, 0)) ∧ wx.heap[w.heap.size + 2]? = some (.cells #[.int .i64 v1, .int .i64 v2, .int .i64 v3, .int .i64 v4, .int .i64 v5, .int .i64 v6] 23 (0, 0)) ∧ Kp w wx)
  case first =>
    go_wp2_with fail
    go_meet
    exact ⟨_, rfl, heap_alloc_new _ _, heap_kp R5.out (kp_new _ _), heap_kp R7.out (kp_new _ _), heap_kp R8.out (kp_new _ _), HW.out.trans (kp_new _ _)⟩
  case rest =>
    clear c44 c45 c46 c47 c48 c49
    obtain ⟨g, rfl, r12, r5, r7, r8, hW⟩ := hcut
    clear R5 R7 R8 HW
    have R12 := Lib.hid r12
    have R5 := Lib.hid r5
    have R7 := Lib.hid r7
    have R8 := Lib.hid r8
    have HW := Lib.hid hW
    clear r12 r5 r7 r8 hW
    obtain ⟨wb, rfl⟩ : ∃ wb : World, wb = wc := ⟨_, rfl⟩
    have hK := Kp.refl wb
    by_cases he : cg s.d s.r s.l s.c s.a s.m u1 u2 u3 u4 u5 u6 = 0
    · have HZ := Lib.hid he
      rw [he] at HE
      clear he
      generalize hf : cg u1 u2 u3 u4 u5 u6 v1 v2 v3 v4 v5 v6 = f at HF
      have HFz := Lib.hid hf
      clear hf
      go_upto_region 7 with (first | (refine load_row rfl 23 _ rfl g rfl 23 _ _ _ (heap_kp R12.out hK) Try.underlying23 rfl (by kernel_rfl) ?_) | (refine load_row rfl 23 _ rfl (w.heap.size + 1) rfl 23 _ _ _ (heap_kp R7.out hK) Try.underlying23 rfl (by kernel_rfl) ?_) | (refine load_row rfl 23 _ rfl (w.heap.size + 2) rfl 23 _ _ _ (heap_kp R8.out hK) Try.underlying23 rfl (by kernel_rfl) ?_) | (refine load_row rfl 43 _ rfl w.heap.size rfl 43 _ _ _ (heap_kp R5.out hK) Try.underlying43 rfl (ca_info.trans (by rw [ch_size])) ?_) | (go_at_call 23; first | ((with_reducible (refine (HE.out _).mono ?_)); rintro e w2 ⟨rfl, hk⟩; replace hK := Kp.trans hK hk; clear hk) | ((with_reducible (refine (HF.out _).mono ?_)); rintro e w2 ⟨rfl, hk⟩; replace hK := Kp.trans hK hk; clear hk)))
      go_cut [45] (fun b wx => b = .bool false ∧ Kp wb wx)
      case first =>
        by_cases hf : f = 0
        · subst hf
          have hG := cg_trans HZ.out HFz.out
          rw [hG] at HG
          clear hG
          go_wp2_with (first | (refine load_row rfl 23 _ rfl g rfl 23 _ _ _ (heap_kp R12.out hK) Try.underlying23 rfl (by kernel_rfl) ?_) | (refine load_row rfl 23 _ rfl (w.heap.size + 1) rfl 23 _ _ _ (heap_kp R7.out hK) Try.underlying23 rfl (by kernel_rfl) ?_) | (refine load_row rfl 23 _ rfl (w.heap.size + 2) rfl 23 _ _ _ (heap_kp R8.out hK) Try.underlying23 rfl (by kernel_rfl) ?_) | (refine load_row rfl 43 _ rfl w.heap.size rfl 43 _ _ _ (heap_kp R5.out hK) Try.underlying43 rfl (ca_info.trans (by rw [ch_size])) ?_) | (go_at_call 23; first | ((with_reducible (refine (HG.out _).mono ?_)); rintro e w2 ⟨rfl, hk⟩; replace hK := Kp.trans hK hk; clear hk)))
          go_meet
          exact ⟨rfl, hK⟩
        · have hf' : (f == 0) = false := by simpa using hf
          clear hf
          go_wp2_with fail
          go_meet
          exact ⟨rfl, hK⟩
      case rest =>
        clear hK
        obtain ⟨rfl, hK⟩ := hcut
        go_upto_region 9 with fail
        have hRt := (cg_zero.1 HZ.out).1
        have hRu := (cg_zero.1 HZ.out).2.1
        rw [hRt] at HR
        rw [hRu] at HU
        rw [cg_self hRt] at HT
        clear hRt hRu
        go_cut [67] (fun b wx => b = .bool false ∧ Kp wb wx)
        case first =>
          generalize hb : cg u1 u2 u3 u4 u5 u6 s.d s.r s.l s.c s.a s.m = z at HB
          by_cases hz : z = 0
          · subst hz
            obtain ⟨rfl, rfl, rfl, rfl, rfl, rfl⟩ := cg_back HZ.out hb
            clear hb
            have hq : decide (s.d = s.d ∧ s.r = s.r ∧ s.l = s.l ∧ s.c = s.c ∧ s.a = s.a ∧ s.m = s.m) = true := by simp
            have Q12 := Lib.hid (heap_kp R12.out hK)
            have Q7 := Lib.hid (heap_kp R7.out hK)
            try simp only [List.append_eq, List.cons_append, List.nil_append]
            refine wp_region_quiet_below (by kernel_rfl) (by kernel_rfl) ?_
            repeat (first | go_big_quiet_skip | (refine quiet_load_row rfl 23 _ rfl g rfl 23 _ _ _ (row_later Q12.out) Try.underlying23 rfl (by kernel_rfl) ?_; simp only [Act.put, List.setIfInBounds_toArray, List.set_cons_zero, List.set_cons_succ]) | (refine quiet_load_row rfl 23 _ rfl (w.heap.size + 1) rfl 23 _ _ _ (row_later Q7.out) Try.underlying23 rfl (by kernel_rfl) ?_; simp only [Act.put, List.setIfInBounds_toArray, List.set_cons_zero, List.set_cons_succ]) | (refine quiet_val rfl _ (fun w => eq_terms _ 62 63 _ _ _ _ _ _ _ _ _ _ _ _ rfl rfl _ rfl w) ?_; simp only [Act.put, List.setIfInBounds_toArray, List.set_cons_zero, List.set_cons_succ]; simp only [hq]) | go_big_quiet_step ((first | (go_at_call 15; exact calls_kp (HR.out _)) | (go_at_call 23; first | (with_reducible exact calls_kp (HT.out _)) | (with_reducible exact calls_kp (HB.out _))))))
            refine wpQuiet_nil ?_
            intro w9 hw9
            replace hK := Kp.trans hK (kp_later hw9)
            clear hw9
            go_wp2_with fail
            go_meet
            exact ⟨rfl, hK⟩
          · have hz' : (z == 0) = false := by simpa using hz
            have hq : decide (s.d = u1 ∧ s.r = u2 ∧ s.l = u3 ∧ s.c = u4 ∧ s.a = u5 ∧ s.m = u6) = false := by
              refine decide_eq_false fun h => hz ?_
              obtain ⟨h1, h2, h3, h4, h5, h6⟩ := h
              rw [← hb, ← h1, ← h2, ← h3, ← h4, ← h5, ← h6]
              exact cg_self (cg_zero.1 HZ.out).1
            clear hz hb
            have Q12 := Lib.hid (heap_kp R12.out hK)
            have Q7 := Lib.hid (heap_kp R7.out hK)
            try simp only [List.append_eq, List.cons_append, List.nil_append]
            refine wp_region_quiet_below (by kernel_rfl) (by kernel_rfl) ?_
            repeat (first | go_big_quiet_skip | (refine quiet_load_row rfl 23 _ rfl g rfl 23 _ _ _ (row_later Q12.out) Try.underlying23 rfl (by kernel_rfl) ?_; simp only [Act.put, List.setIfInBounds_toArray, List.set_cons_zero, List.set_cons_succ]) | (refine quiet_load_row rfl 23 _ rfl (w.heap.size + 1) rfl 23 _ _ _ (row_later Q7.out) Try.underlying23 rfl (by kernel_rfl) ?_; simp only [Act.put, List.setIfInBounds_toArray, List.set_cons_zero, List.set_cons_succ]) | (refine quiet_val rfl _ (fun w => eq_terms _ 62 63 _ _ _ _ _ _ _ _ _ _ _ _ rfl rfl _ rfl w) ?_; simp only [Act.put, List.setIfInBounds_toArray, List.set_cons_zero, List.set_cons_succ]; simp only [hq]) | go_big_quiet_step ((first | (go_at_call 15; exact calls_kp (HR.out _)) | (go_at_call 23; first | (with_reducible exact calls_kp (HT.out _)) | (with_reducible exact calls_kp (HB.out _))))))
            refine wpQuiet_nil ?_
            intro w9 hw9
            replace hK := Kp.trans hK (kp_later hw9)
            clear hw9
            go_wp2_with fail
            go_meet
            exact ⟨rfl, hK⟩
        case rest =>
          clear hK
          obtain ⟨rfl, hK⟩ := hcut
          go_upto_region 13 with fail
          go_cut [79] (fun b wx => b = .bool false ∧ Kp wb wx)
          case first =>
            have hle := (cg_zero.1 HZ.out).2.2.1
            by_cases h : s.d ≤ amount
            · rw [decide_eq_true h] at HS
              rw [decide_eq_true (Int.le_trans hle h)] at HV
              clear hle h
              go_wp2_with (first | (refine load_row rfl 23 _ rfl g rfl 23 _ _ _ (heap_kp R12.out hK) Try.underlying23 rfl (by kernel_rfl) ?_) | (refine load_row rfl 23 _ rfl (w.heap.size + 1) rfl 23 _ _ _ (heap_kp R7.out hK) Try.underlying23 rfl (by kernel_rfl) ?_) | (refine load_row rfl 23 _ rfl (w.heap.size + 2) rfl 23 _ _ _ (heap_kp R8.out hK) Try.underlying23 rfl (by kernel_rfl) ?_) | (refine load_row rfl 43 _ rfl w.heap.size rfl 43 _ _ _ (heap_kp R5.out hK) Try.underlying43 rfl (ca_info.trans (by rw [ch_size])) ?_) | (go_at_call 17; first | ((with_reducible (refine (HS.out _).mono ?_)); rintro e w2 ⟨rfl, hk⟩; replace hK := Kp.trans hK hk; clear hk) | ((with_reducible (refine (HV.out _).mono ?_)); rintro e w2 ⟨rfl, hk⟩; replace hK := Kp.trans hK hk; clear hk)))
              go_meet
              exact ⟨rfl, hK⟩
            · rw [decide_eq_false h] at HS
              clear hle h
              go_wp2_with (first | (refine load_row rfl 23 _ rfl g rfl 23 _ _ _ (heap_kp R12.out hK) Try.underlying23 rfl (by kernel_rfl) ?_) | (refine load_row rfl 23 _ rfl (w.heap.size + 1) rfl 23 _ _ _ (heap_kp R7.out hK) Try.underlying23 rfl (by kernel_rfl) ?_) | (refine load_row rfl 23 _ rfl (w.heap.size + 2) rfl 23 _ _ _ (heap_kp R8.out hK) Try.underlying23 rfl (by kernel_rfl) ?_) | (refine load_row rfl 43 _ rfl w.heap.size rfl 43 _ _ _ (heap_kp R5.out hK) Try.underlying43 rfl (ca_info.trans (by rw [ch_size])) ?_) | (go_at_call 17; first | ((with_reducible (refine (HS.out _).mono ?_)); rintro e w2 ⟨rfl, hk⟩; replace hK := Kp.trans hK hk; clear hk) | ((with_reducible (refine (HV.out _).mono ?_)); rintro e w2 ⟨rfl, hk⟩; replace hK := Kp.trans hK hk; clear hk)))
              go_meet
              exact ⟨rfl, hK⟩
          case rest =>
            clear hK
            obtain ⟨rfl, hK⟩ := hcut
            have asz := ch_size
            have a44 := ch_at44
            have s44 := ch_set44
            have a45 := ch_at45
            have s45 := ch_set45
            have a46 := ch_at46
            have s46 := ch_set46
            have a47 := ch_at47
            have s47 := ch_set47
            have a48 := ch_at48
            have s48 := ch_set48
            have a49 := ch_at49
            have s49 := ch_set49
            go_upto_region 17 with (first | (refine load_row rfl 23 _ rfl g rfl 23 _ _ _ (heap_kp R12.out (by (repeat (first | assumption | exact Kp.refl _ | with_reducible refine Kp.alloc ?_ _ | with_reducible refine Kp.drewN ?_ _ | with_reducible refine Kp.drew ?_ | (with_reducible refine Kp.setCell ?_ (by simp) _))))) Try.underlying23 rfl (by kernel_rfl) ?_) | (refine load_row rfl 23 _ rfl (w.heap.size + 1) rfl 23 _ _ _ (heap_kp R7.out (by (repeat (first | assumption | exact Kp.refl _ | with_reducible refine Kp.alloc ?_ _ | with_reducible refine Kp.drewN ?_ _ | with_reducible refine Kp.drew ?_ | (with_reducible refine Kp.setCell ?_ (by simp) _))))) Try.underlying23 rfl (by kernel_rfl) ?_) | (refine load_row rfl 23 _ rfl (w.heap.size + 2) rfl 23 _ _ _ (heap_kp R8.out (by (repeat (first | assumption | exact Kp.refl _ | with_reducible refine Kp.alloc ?_ _ | with_reducible refine Kp.drewN ?_ _ | with_reducible refine Kp.drew ?_ | (with_reducible refine Kp.setCell ?_ (by simp) _))))) Try.underlying23 rfl (by kernel_rfl) ?_) | (refine load_row rfl 43 _ rfl w.heap.size rfl 43 _ _ _ (heap_kp R5.out (by (repeat (first | assumption | exact Kp.refl _ | with_reducible refine Kp.alloc ?_ _ | with_reducible refine Kp.drewN ?_ _ | with_reducible refine Kp.drew ?_ | (with_reducible refine Kp.setCell ?_ (by simp) _))))) Try.underlying43 rfl (ca_info.trans (by rw [ch_size])) ?_) | (refine alloc_law rfl 43 CZ rfl cz_alloc ?_; simp only [Act.put, List.setIfInBounds_toArray, List.set_cons_zero, List.set_cons_succ]) | (refine store_new rfl 43 _ _ rfl (by first | rfl | simp [Act.eval]) _ rfl (ca_info.trans (by rw [ch_size])) (by rw [cz_size, ch_size]) (ch_one ..) ?_; simp only [Act.put, List.setIfInBounds_toArray, List.set_cons_zero, List.set_cons_succ]))
            clear a44 s44 a45 s45 a46 s46 a47 s47 a48 s48 a49 s49 asz
            obtain ⟨wd, rfl⟩ : ∃ wd : World, wd = wc := ⟨_, rfl⟩
            have hN := Lib.hid hK
            replace hK := hK.alloc (.cells (Ch.cells ⟨s.x0, s.x1, s.x2, s.x3, s.x4, s.x5, s.x6, s.x7, s.x8, s.x9, s.x10, s.x11, s.x12, s.x13, s.x14, s.x15, s.x16, s.x17, s.x18, s.x19, s.x20, s.x21, s.x22, s.x23, s.x24, s.x25, s.x26, s.x27, s.x28, s.x29, s.x30, s.x31, s.n, s.amt, s.p0, s.p1, s.p2, s.p3, s.p4, s.q0, s.q1, s.q2, s.q3, s.q4, u1, u2, u3, u4, u5, u6, s.d', s.r', s.l', s.c', s.a', s.m', s.op⟩) 43)
            have RN := Lib.hid (heap_alloc_new wd (.cells (Ch.cells ⟨s.x0, s.x1, s.x2, s.x3, s.x4, s.x5, s.x6, s.x7, s.x8, s.x9, s.x10, s.x11, s.x12, s.x13, s.x14, s.x15, s.x16, s.x17, s.x18, s.x19, s.x20, s.x21, s.x22, s.x23, s.x24, s.x25, s.x26, s.x27, s.x28, s.x29, s.x30, s.x31, s.n, s.amt, s.p0, s.p1, s.p2, s.p3, s.p4, s.q0, s.q1, s.q2, s.q3, s.q4, u1, u2, u3, u4, u5, u6, s.d', s.r', s.l', s.c', s.a', s.m', s.op⟩) 43))
            have hKd := Kp.refl (wd.alloc (.cells (Ch.cells ⟨s.x0, s.x1, s.x2, s.x3, s.x4, s.x5, s.x6, s.x7, s.x8, s.x9, s.x10, s.x11, s.x12, s.x13, s.x14, s.x15, s.x16, s.x17, s.x18, s.x19, s.x20, s.x21, s.x22, s.x23, s.x24, s.x25, s.x26, s.x27, s.x28, s.x29, s.x30, s.x31, s.n, s.amt, s.p0, s.p1, s.p2, s.p3, s.p4, s.q0, s.q1, s.q2, s.q3, s.q4, u1, u2, u3, u4, u5, u6, s.d', s.r', s.l', s.c', s.a', s.m', s.op⟩) 43))
            generalize hz : s.fit = z at H0
            by_cases hz0 : z = 0
            · have H1 := Lib.hid (fun w => ch_fit (s.with0 u1 u2 u3 u4 u5 u6) (with0_ok HO.out) w)
              rw [with0_fit (hz.trans hz0) HZ.out] at H1
              subst hz0
              unfold Ch.with0 at H1
              clear hz
              go_wp2_with (first | (go_at_call 15; (with_reducible (refine (HU.out _).mono ?_)); rintro e w2 ⟨rfl, hk⟩; replace hK := Kp.trans hK hk; replace hKd := Kp.trans hKd hk; clear hk) | (refine load_row rfl 43 _ rfl _ rfl 43 _ _ _ (heap_kp RN.out hKd) Try.underlying43 rfl (ca_info.trans (by rw [ch_size])) ?_) | (go_at_call 25; first | ((with_reducible (refine (H0.out _).mono ?_)); rintro e w2 ⟨rfl, hk⟩; replace hK := Kp.trans hK hk; replace hKd := Kp.trans hKd hk; clear hk) | ((with_reducible (refine (H1.out _).mono ?_)); rintro e w2 ⟨rfl, hk⟩; replace hK := Kp.trans hK hk; replace hKd := Kp.trans hKd hk; clear hk)) | (refine load_row rfl 23 _ rfl g rfl 23 _ _ _ (heap_kp R12.out hK) Try.underlying23 rfl (by kernel_rfl) ?_) | (refine load_row rfl 23 _ rfl (w.heap.size + 1) rfl 23 _ _ _ (heap_kp R7.out hK) Try.underlying23 rfl (by kernel_rfl) ?_) | (refine load_row rfl 23 _ rfl (w.heap.size + 2) rfl 23 _ _ _ (heap_kp R8.out hK) Try.underlying23 rfl (by kernel_rfl) ?_) | (refine load_row rfl 43 _ rfl w.heap.size rfl 43 _ _ _ (heap_kp R5.out hK) Try.underlying43 rfl (ca_info.trans (by rw [ch_size])) ?_))
              go_ret
              exact ⟨rfl, HW.out.trans hK⟩
            · have hz' : (z != 0) = true := by simpa using hz0
              clear hz hz0
              go_wp2_with (first | (go_at_call 15; (with_reducible (refine (HU.out _).mono ?_)); rintro e w2 ⟨rfl, hk⟩; replace hK := Kp.trans hK hk; replace hKd := Kp.trans hKd hk; clear hk) | (go_at_call 25; ((with_reducible (refine (H0.out _).mono ?_)); rintro e w2 ⟨rfl, hk⟩; replace hK := Kp.trans hK hk; replace hKd := Kp.trans hKd hk; clear hk)) | (refine load_row rfl 23 _ rfl g rfl 23 _ _ _ (heap_kp R12.out hK) Try.underlying23 rfl (by kernel_rfl) ?_) | (refine load_row rfl 23 _ rfl (w.heap.size + 1) rfl 23 _ _ _ (heap_kp R7.out hK) Try.underlying23 rfl (by kernel_rfl) ?_) | (refine load_row rfl 23 _ rfl (w.heap.size + 2) rfl 23 _ _ _ (heap_kp R8.out hK) Try.underlying23 rfl (by kernel_rfl) ?_) | (refine load_row rfl 43 _ rfl w.heap.size rfl 43 _ _ _ (heap_kp R5.out hK) Try.underlying43 rfl (ca_info.trans (by rw [ch_size])) ?_))
              go_ret
              exact ⟨rfl, HW.out.trans hK⟩
    · generalize cg s.d s.r s.l s.c s.a s.m u1 u2 u3 u4 u5 u6 = e0 at HE he
      have he1 : (e0 == 0) = false := by simpa using he
      have he2 : (e0 != 0) = true := by simpa using he
      clear he
      generalize cg u1 u2 u3 u4 u5 u6 v1 v2 v3 v4 v5 v6 = f at HF
      go_upto_region 7 with (first | (refine load_row rfl 23 _ rfl g rfl 23 _ _ _ (heap_kp R12.out hK) Try.underlying23 rfl (by kernel_rfl) ?_) | (refine load_row rfl 23 _ rfl (w.heap.size + 1) rfl 23 _ _ _ (heap_kp R7.out hK) Try.underlying23 rfl (by kernel_rfl) ?_) | (refine load_row rfl 23 _ rfl (w.heap.size + 2) rfl 23 _ _ _ (heap_kp R8.out hK) Try.underlying23 rfl (by kernel_rfl) ?_) | (refine load_row rfl 43 _ rfl w.heap.size rfl 43 _ _ _ (heap_kp R5.out hK) Try.underlying43 rfl (ca_info.trans (by rw [ch_size])) ?_) | (go_at_call 23; first | ((with_reducible (refine (HE.out _).mono ?_)); rintro e w2 ⟨rfl, hk⟩; replace hK := Kp.trans hK hk; clear hk) | ((with_reducible (refine (HF.out _).mono ?_)); rintro e w2 ⟨rfl, hk⟩; replace hK := Kp.trans hK hk; clear hk)))
      go_upto_region 9 with fail
      go_cut [67] (fun b wx => b = .bool false ∧ Kp wb wx)
      case first =>
        by_cases hR : tright s.d s.r s.l s.c s.a s.m = true
        · rw [hR] at HR
          rw [cg_self hR] at HT
          clear hR
          have Q12 := Lib.hid (heap_kp R12.out hK)
          have Q7 := Lib.hid (heap_kp R7.out hK)
          try simp only [List.append_eq, List.cons_append, List.nil_append]
          refine wp_region_quiet_below (by kernel_rfl) (by kernel_rfl) ?_
          repeat (first | go_big_quiet_skip | (refine quiet_load_row rfl 23 _ rfl g rfl 23 _ _ _ (row_later Q12.out) Try.underlying23 rfl (by kernel_rfl) ?_; simp only [Act.put, List.setIfInBounds_toArray, List.set_cons_zero, List.set_cons_succ]) | (refine quiet_load_row rfl 23 _ rfl (w.heap.size + 1) rfl 23 _ _ _ (row_later Q7.out) Try.underlying23 rfl (by kernel_rfl) ?_; simp only [Act.put, List.setIfInBounds_toArray, List.set_cons_zero, List.set_cons_succ]) | go_big_quiet_step ((first | (go_at_call 15; exact calls_kp (HR.out _)) | (go_at_call 23; first | (with_reducible exact calls_kp (HT.out _))))))
          refine wpQuiet_nil ?_
          intro w9 hw9
          replace hK := Kp.trans hK (kp_later hw9)
          clear hw9
          go_wp2_with fail
          go_meet
          exact ⟨rfl, hK⟩
        · rw [show tright s.d s.r s.l s.c s.a s.m = false by simpa using hR] at HR
          clear hR
          have Q12 := Lib.hid (heap_kp R12.out hK)
          have Q7 := Lib.hid (heap_kp R7.out hK)
          try simp only [List.append_eq, List.cons_append, List.nil_append]
          refine wp_region_quiet_below (by kernel_rfl) (by kernel_rfl) ?_
          repeat (first | go_big_quiet_skip | (refine quiet_load_row rfl 23 _ rfl g rfl 23 _ _ _ (row_later Q12.out) Try.underlying23 rfl (by kernel_rfl) ?_; simp only [Act.put, List.setIfInBounds_toArray, List.set_cons_zero, List.set_cons_succ]) | (refine quiet_load_row rfl 23 _ rfl (w.heap.size + 1) rfl 23 _ _ _ (row_later Q7.out) Try.underlying23 rfl (by kernel_rfl) ?_; simp only [Act.put, List.setIfInBounds_toArray, List.set_cons_zero, List.set_cons_succ]) | go_big_quiet_step ((first | (go_at_call 15; exact calls_kp (HR.out _)))))
          refine wpQuiet_nil ?_
          intro w9 hw9
          replace hK := Kp.trans hK (kp_later hw9)
          clear hw9
          go_wp2_with fail
          go_meet
          exact ⟨rfl, hK⟩
      case rest =>
        clear hK
        obtain ⟨rfl, hK⟩ := hcut
        go_wp2_with fail
        go_ret
        exact ⟨rfl, HW.out.trans hK⟩

def Ch.with1 (s : Ch) (u1 u2 u3 u4 u5 u6 : Int) : Ch := ⟨s.x0, s.x1, s.x2, s.x3, s.x4, s.x5, s.x6, s.x7, s.x8, s.x9, s.x10, s.x11, s.x12, s.x13, s.x14, s.x15, s.x16, s.x17, s.x18, s.x19, s.x20, s.x21, s.x22, s.x23, s.x24, s.x25, s.x26, s.x27, s.x28, s.x29, s.x30, s.x31, s.n, s.amt, s.p0, s.p1, s.p2, s.p3, s.p4, s.q0, s.q1, s.q2, s.q3, s.q4, s.d, s.r, s.l, s.c, s.a, s.m, u1, u2, u3, u4, u5, u6, s.op⟩
theorem with1_fit {s : Ch} {u1 u2 u3 u4 u5 u6 : Int} (h : s.fit = 0) (k : cg s.d' s.r' s.l' s.c' s.a' s.m' u1 u2 u3 u4 u5 u6 = 0) : (s.with1 u1 u2 u3 u4 u5 u6).fit = 0 := by
  obtain ⟨k1, k2, k3, k4, k5, k6, k7, k8⟩ := cg_zero.1 k
  unfold Ch.fit at h ⊢
  unfold Ch.with1
  simp only at h ⊢
  rw [k2]
  rw [k1] at h
  unfold tfit at h ⊢
  split at h
  · cases h
  · rename_i hg
    rw [if_neg hg]
    split at h
    · cases h
    · rename_i hb
      rw [if_neg hb]
      split at h
      · cases h
      · rw [if_neg (by omega)]
theorem with1_ok {s : Ch} {u1 u2 u3 u4 u5 u6 : Int} (h : s.Ok) : (s.with1 u1 u2 u3 u4 u5 u6).Ok := ⟨h.hp0, h.hp1, h.hp2, h.hp3, h.hp4, h.hq0, h.hq1, h.hq2, h.hq3, h.hq4, h.hop⟩
set_option maxHeartbeats 8000000 in
theorem changes_1 (w : World) (s : Ch) (ok : s.Ok) (u1 u2 u3 u4 u5 u6 v1 v2 v3 v4 v5 v6 amount : Int) : Calls Try.prog 5 #[.agg s.cells, .int .i64 1, TV u1 u2 u3 u4 u5 u6, TV v1 v2 v3 v4 v5 v6, .int .i64 amount] w fun e w' => e = .returned (.bool true) ∧ Kp w w' := by
  have HE := Lib.hid (fun w => cg_any s.d' s.r' s.l' s.c' s.a' s.m' u1 u2 u3 u4 u5 u6 w)
  have HF := Lib.hid (fun w => cg_any u1 u2 u3 u4 u5 u6 v1 v2 v3 v4 v5 v6 w)
  have HG := Lib.hid (fun w => cg_any s.d' s.r' s.l' s.c' s.a' s.m' v1 v2 v3 v4 v5 v6 w)
  have HT := Lib.hid (fun w => cg_any s.d' s.r' s.l' s.c' s.a' s.m' s.d' s.r' s.l' s.c' s.a' s.m' w)
  have HB := Lib.hid (fun w => cg_any u1 u2 u3 u4 u5 u6 s.d' s.r' s.l' s.c' s.a' s.m' w)
  have HR := Lib.hid (fun w => tright_kp s.d' s.r' s.l' s.c' s.a' s.m' w)
  have HU := Lib.hid (fun w => tright_kp u1 u2 u3 u4 u5 u6 w)
  have HS := Lib.hid (fun w => shown_any s.d' s.r' s.l' s.c' s.a' s.m' amount w)
  have HV := Lib.hid (fun w => shown_any u1 u2 u3 u4 u5 u6 amount w)
  have H0 := Lib.hid (fun w => ch_fit s ok w)
  have HO := Lib.hid ok
  clear ok
  go_enter Try.func5, Try.ntmps5
  go_wp2_with fail
  refine (small19_any _).mono ?_
  rintro e w1 ⟨rfl, hK⟩
  have hr5 := heap_kp (heap_new_at w (.cells s.cells 43) rfl) (Kp.trans (((Kp.refl _).alloc (.cells #[.int .i64 u1, .int .i64 u2, .int .i64 u3, .int .i64 u4, .int .i64 u5, .int .i64 u6] 23)).alloc (.cells #[.int .i64 v1, .int .i64 v2, .int .i64 v3, .int .i64 v4, .int .i64 v5, .int .i64 v6] 23)) hK)
  have hr7 := heap_kp (heap_new_at (w.alloc (.cells s.cells 43)) (.cells #[.int .i64 u1, .int .i64 u2, .int .i64 u3, .int .i64 u4, .int .i64 u5, .int .i64 u6] 23) (k := w.heap.size + 1) (by simp)) (Kp.trans ((Kp.refl _).alloc (.cells #[.int .i64 v1, .int .i64 v2, .int .i64 v3, .int .i64 v4, .int .i64 v5, .int .i64 v6] 23)) hK)
  have hr8 := heap_kp (heap_new_at ((w.alloc (.cells s.cells 43)).alloc (.cells #[.int .i64 u1, .int .i64 u2, .int .i64 u3, .int .i64 u4, .int .i64 u5, .int .i64 u6] 23)) (.cells #[.int .i64 v1, .int .i64 v2, .int .i64 v3, .int .i64 v4, .int .i64 v5, .int .i64 v6] 23) (k := w.heap.size + 2) (by simp)) hK
  have hW := Kp.trans ((((Kp.refl w).alloc _).alloc _).alloc _) hK
  have R5 := Lib.hid hr5
  have R7 := Lib.hid hr7
  have R8 := Lib.hid hr8
  have HW := Lib.hid hW
  have c50 : w1.cell? ⟨w.heap.size, 50, none⟩ = some (.int .i64 s.d') := by rw [cell_of_row _ _ _ _ _ _ hr5]; exact ch_at50 s
  have c51 : w1.cell? ⟨w.heap.size, 51, none⟩ = some (.int .i64 s.r') := by rw [cell_of_row _ _ _ _ _ _ hr5]; exact ch_at51 s
  have c52 : w1.cell? ⟨w.heap.size, 52, none⟩ = some (.int .i64 s.l') := by rw [cell_of_row _ _ _ _ _ _ hr5]; exact ch_at52 s
  have c53 : w1.cell? ⟨w.heap.size, 53, none⟩ = some (.int .i64 s.c') := by rw [cell_of_row _ _ _ _ _ _ hr5]; exact ch_at53 s
  have c54 : w1.cell? ⟨w.heap.size, 54, none⟩ = some (.int .i64 s.a') := by rw [cell_of_row _ _ _ _ _ _ hr5]; exact ch_at54 s
  have c55 : w1.cell? ⟨w.heap.size, 55, none⟩ = some (.int .i64 s.m') := by rw [cell_of_row _ _ _ _ _ _ hr5]; exact ch_at55 s
  have hlt := row_lt hr5
  clear hK hr5 hr7 hr8 hW
  go_upto_region 4 with fail
  go_cut [12] (fun p wx => ∃ g : Nat, p = .pointer (some ⟨g, 0, none⟩) ∧ wx.heap[g]? = some (.cells #[.int .i64 s.d', .int .i64 s.r', .int .i64 s.l', .int .i64 s.c', .int .i64 s.a', .int .i64 s.m'] 23 (0, 0)) ∧ wx.heap[w.heap.size]? = some (.cells s.cells 43 (0, 0)) ∧ wx.heap[w.heap.size + 1]? = some (.cells #[.int .i64 u1, .int .i64 u2, .int .i64 u3, .int .i64 u4, .int .i64 u5, .int .i64 u6] 23 (0, 0)) ∧ wx.heap[w.heap.size + 2]? = some (.cells #[.int .i64 v1, .int .i64 v2, .int .i64 v3, .int .i64 v4, .int .i64 v5, .int .i64 v6] 23 (0, 0)) ∧ Kp w wx)
  case first =>
    go_wp2_with fail
    go_meet
    exact ⟨_, rfl, heap_alloc_new _ _, heap_kp R5.out (kp_new _ _), heap_kp R7.out (kp_new _ _), heap_kp R8.out (kp_new _ _), HW.out.trans (kp_new _ _)⟩
  case rest =>
    clear c50 c51 c52 c53 c54 c55
    obtain ⟨g, rfl, r12, r5, r7, r8, hW⟩ := hcut
    clear R5 R7 R8 HW
    have R12 := Lib.hid r12
    have R5 := Lib.hid r5
    have R7 := Lib.hid r7
    have R8 := Lib.hid r8
    have HW := Lib.hid hW
    clear r12 r5 r7 r8 hW
    obtain ⟨wb, rfl⟩ : ∃ wb : World, wb = wc := ⟨_, rfl⟩
    have hK := Kp.refl wb
    by_cases he : cg s.d' s.r' s.l' s.c' s.a' s.m' u1 u2 u3 u4 u5 u6 = 0
    · have HZ := Lib.hid he
      rw [he] at HE
      clear he
      generalize hf : cg u1 u2 u3 u4 u5 u6 v1 v2 v3 v4 v5 v6 = f at HF
      have HFz := Lib.hid hf
      clear hf
      go_upto_region 7 with (first | (refine load_row rfl 23 _ rfl g rfl 23 _ _ _ (heap_kp R12.out hK) Try.underlying23 rfl (by kernel_rfl) ?_) | (refine load_row rfl 23 _ rfl (w.heap.size + 1) rfl 23 _ _ _ (heap_kp R7.out hK) Try.underlying23 rfl (by kernel_rfl) ?_) | (refine load_row rfl 23 _ rfl (w.heap.size + 2) rfl 23 _ _ _ (heap_kp R8.out hK) Try.underlying23 rfl (by kernel_rfl) ?_) | (refine load_row rfl 43 _ rfl w.heap.size rfl 43 _ _ _ (heap_kp R5.out hK) Try.underlying43 rfl (ca_info.trans (by rw [ch_size])) ?_) | (go_at_call 23; first | ((with_reducible (refine (HE.out _).mono ?_)); rintro e w2 ⟨rfl, hk⟩; replace hK := Kp.trans hK hk; clear hk) | ((with_reducible (refine (HF.out _).mono ?_)); rintro e w2 ⟨rfl, hk⟩; replace hK := Kp.trans hK hk; clear hk)))
      go_cut [45] (fun b wx => b = .bool false ∧ Kp wb wx)
      case first =>
        by_cases hf : f = 0
        · subst hf
          have hG := cg_trans HZ.out HFz.out
          rw [hG] at HG
          clear hG
          go_wp2_with (first | (refine load_row rfl 23 _ rfl g rfl 23 _ _ _ (heap_kp R12.out hK) Try.underlying23 rfl (by kernel_rfl) ?_) | (refine load_row rfl 23 _ rfl (w.heap.size + 1) rfl 23 _ _ _ (heap_kp R7.out hK) Try.underlying23 rfl (by kernel_rfl) ?_) | (refine load_row rfl 23 _ rfl (w.heap.size + 2) rfl 23 _ _ _ (heap_kp R8.out hK) Try.underlying23 rfl (by kernel_rfl) ?_) | (refine load_row rfl 43 _ rfl w.heap.size rfl 43 _ _ _ (heap_kp R5.out hK) Try.underlying43 rfl (ca_info.trans (by rw [ch_size])) ?_) | (go_at_call 23; first | ((with_reducible (refine (HG.out _).mono ?_)); rintro e w2 ⟨rfl, hk⟩; replace hK := Kp.trans hK hk; clear hk)))
          go_meet
          exact ⟨rfl, hK⟩
        · have hf' : (f == 0) = false := by simpa using hf
          clear hf
          go_wp2_with fail
          go_meet
          exact ⟨rfl, hK⟩
      case rest =>
        clear hK
        obtain ⟨rfl, hK⟩ := hcut
        go_upto_region 9 with fail
        have hRt := (cg_zero.1 HZ.out).1
        have hRu := (cg_zero.1 HZ.out).2.1
        rw [hRt] at HR
        rw [hRu] at HU
        rw [cg_self hRt] at HT
        clear hRt hRu
        go_cut [67] (fun b wx => b = .bool false ∧ Kp wb wx)
        case first =>
          generalize hb : cg u1 u2 u3 u4 u5 u6 s.d' s.r' s.l' s.c' s.a' s.m' = z at HB
          by_cases hz : z = 0
          · subst hz
            obtain ⟨rfl, rfl, rfl, rfl, rfl, rfl⟩ := cg_back HZ.out hb
            clear hb
            have hq : decide (s.d' = s.d' ∧ s.r' = s.r' ∧ s.l' = s.l' ∧ s.c' = s.c' ∧ s.a' = s.a' ∧ s.m' = s.m') = true := by simp
            have Q12 := Lib.hid (heap_kp R12.out hK)
            have Q7 := Lib.hid (heap_kp R7.out hK)
            try simp only [List.append_eq, List.cons_append, List.nil_append]
            refine wp_region_quiet_below (by kernel_rfl) (by kernel_rfl) ?_
            repeat (first | go_big_quiet_skip | (refine quiet_load_row rfl 23 _ rfl g rfl 23 _ _ _ (row_later Q12.out) Try.underlying23 rfl (by kernel_rfl) ?_; simp only [Act.put, List.setIfInBounds_toArray, List.set_cons_zero, List.set_cons_succ]) | (refine quiet_load_row rfl 23 _ rfl (w.heap.size + 1) rfl 23 _ _ _ (row_later Q7.out) Try.underlying23 rfl (by kernel_rfl) ?_; simp only [Act.put, List.setIfInBounds_toArray, List.set_cons_zero, List.set_cons_succ]) | (refine quiet_val rfl _ (fun w => eq_terms _ 62 63 _ _ _ _ _ _ _ _ _ _ _ _ rfl rfl _ rfl w) ?_; simp only [Act.put, List.setIfInBounds_toArray, List.set_cons_zero, List.set_cons_succ]; simp only [hq]) | go_big_quiet_step ((first | (go_at_call 15; exact calls_kp (HR.out _)) | (go_at_call 23; first | (with_reducible exact calls_kp (HT.out _)) | (with_reducible exact calls_kp (HB.out _))))))
            refine wpQuiet_nil ?_
            intro w9 hw9
            replace hK := Kp.trans hK (kp_later hw9)
            clear hw9
            go_wp2_with fail
            go_meet
            exact ⟨rfl, hK⟩
          · have hz' : (z == 0) = false := by simpa using hz
            have hq : decide (s.d' = u1 ∧ s.r' = u2 ∧ s.l' = u3 ∧ s.c' = u4 ∧ s.a' = u5 ∧ s.m' = u6) = false := by
              refine decide_eq_false fun h => hz ?_
              obtain ⟨h1, h2, h3, h4, h5, h6⟩ := h
              rw [← hb, ← h1, ← h2, ← h3, ← h4, ← h5, ← h6]
              exact cg_self (cg_zero.1 HZ.out).1
            clear hz hb
            have Q12 := Lib.hid (heap_kp R12.out hK)
            have Q7 := Lib.hid (heap_kp R7.out hK)
            try simp only [List.append_eq, List.cons_append, List.nil_append]
            refine wp_region_quiet_below (by kernel_rfl) (by kernel_rfl) ?_
            repeat (first | go_big_quiet_skip | (refine quiet_load_row rfl 23 _ rfl g rfl 23 _ _ _ (row_later Q12.out) Try.underlying23 rfl (by kernel_rfl) ?_; simp only [Act.put, List.setIfInBounds_toArray, List.set_cons_zero, List.set_cons_succ]) | (refine quiet_load_row rfl 23 _ rfl (w.heap.size + 1) rfl 23 _ _ _ (row_later Q7.out) Try.underlying23 rfl (by kernel_rfl) ?_; simp only [Act.put, List.setIfInBounds_toArray, List.set_cons_zero, List.set_cons_succ]) | (refine quiet_val rfl _ (fun w => eq_terms _ 62 63 _ _ _ _ _ _ _ _ _ _ _ _ rfl rfl _ rfl w) ?_; simp only [Act.put, List.setIfInBounds_toArray, List.set_cons_zero, List.set_cons_succ]; simp only [hq]) | go_big_quiet_step ((first | (go_at_call 15; exact calls_kp (HR.out _)) | (go_at_call 23; first | (with_reducible exact calls_kp (HT.out _)) | (with_reducible exact calls_kp (HB.out _))))))
            refine wpQuiet_nil ?_
            intro w9 hw9
            replace hK := Kp.trans hK (kp_later hw9)
            clear hw9
            go_wp2_with fail
            go_meet
            exact ⟨rfl, hK⟩
        case rest =>
          clear hK
          obtain ⟨rfl, hK⟩ := hcut
          go_upto_region 13 with fail
          go_cut [79] (fun b wx => b = .bool false ∧ Kp wb wx)
          case first =>
            have hle := (cg_zero.1 HZ.out).2.2.1
            by_cases h : s.d' ≤ amount
            · rw [decide_eq_true h] at HS
              rw [decide_eq_true (Int.le_trans hle h)] at HV
              clear hle h
              go_wp2_with (first | (refine load_row rfl 23 _ rfl g rfl 23 _ _ _ (heap_kp R12.out hK) Try.underlying23 rfl (by kernel_rfl) ?_) | (refine load_row rfl 23 _ rfl (w.heap.size + 1) rfl 23 _ _ _ (heap_kp R7.out hK) Try.underlying23 rfl (by kernel_rfl) ?_) | (refine load_row rfl 23 _ rfl (w.heap.size + 2) rfl 23 _ _ _ (heap_kp R8.out hK) Try.underlying23 rfl (by kernel_rfl) ?_) | (refine load_row rfl 43 _ rfl w.heap.size rfl 43 _ _ _ (heap_kp R5.out hK) Try.underlying43 rfl (ca_info.trans (by rw [ch_size])) ?_) | (go_at_call 17; first | ((with_reducible (refine (HS.out _).mono ?_)); rintro e w2 ⟨rfl, hk⟩; replace hK := Kp.trans hK hk; clear hk) | ((with_reducible (refine (HV.out _).mono ?_)); rintro e w2 ⟨rfl, hk⟩; replace hK := Kp.trans hK hk; clear hk)))
              go_meet
              exact ⟨rfl, hK⟩
            · rw [decide_eq_false h] at HS
              clear hle h
              go_wp2_with (first | (refine load_row rfl 23 _ rfl g rfl 23 _ _ _ (heap_kp R12.out hK) Try.underlying23 rfl (by kernel_rfl) ?_) | (refine load_row rfl 23 _ rfl (w.heap.size + 1) rfl 23 _ _ _ (heap_kp R7.out hK) Try.underlying23 rfl (by kernel_rfl) ?_) | (refine load_row rfl 23 _ rfl (w.heap.size + 2) rfl 23 _ _ _ (heap_kp R8.out hK) Try.underlying23 rfl (by kernel_rfl) ?_) | (refine load_row rfl 43 _ rfl w.heap.size rfl 43 _ _ _ (heap_kp R5.out hK) Try.underlying43 rfl (ca_info.trans (by rw [ch_size])) ?_) | (go_at_call 17; first | ((with_reducible (refine (HS.out _).mono ?_)); rintro e w2 ⟨rfl, hk⟩; replace hK := Kp.trans hK hk; clear hk) | ((with_reducible (refine (HV.out _).mono ?_)); rintro e w2 ⟨rfl, hk⟩; replace hK := Kp.trans hK hk; clear hk)))
              go_meet
              exact ⟨rfl, hK⟩
          case rest =>
            clear hK
            obtain ⟨rfl, hK⟩ := hcut
            have asz := ch_size
            have a50 := ch_at50
            have s50 := ch_set50
            have a51 := ch_at51
            have s51 := ch_set51
            have a52 := ch_at52
            have s52 := ch_set52
            have a53 := ch_at53
            have s53 := ch_set53
            have a54 := ch_at54
            have s54 := ch_set54
            have a55 := ch_at55
            have s55 := ch_set55
            go_upto_region 17 with (first | (refine load_row rfl 23 _ rfl g rfl 23 _ _ _ (heap_kp R12.out (by (repeat (first | assumption | exact Kp.refl _ | with_reducible refine Kp.alloc ?_ _ | with_reducible refine Kp.drewN ?_ _ | with_reducible refine Kp.drew ?_ | (with_reducible refine Kp.setCell ?_ (by simp) _))))) Try.underlying23 rfl (by kernel_rfl) ?_) | (refine load_row rfl 23 _ rfl (w.heap.size + 1) rfl 23 _ _ _ (heap_kp R7.out (by (repeat (first | assumption | exact Kp.refl _ | with_reducible refine Kp.alloc ?_ _ | with_reducible refine Kp.drewN ?_ _ | with_reducible refine Kp.drew ?_ | (with_reducible refine Kp.setCell ?_ (by simp) _))))) Try.underlying23 rfl (by kernel_rfl) ?_) | (refine load_row rfl 23 _ rfl (w.heap.size + 2) rfl 23 _ _ _ (heap_kp R8.out (by (repeat (first | assumption | exact Kp.refl _ | with_reducible refine Kp.alloc ?_ _ | with_reducible refine Kp.drewN ?_ _ | with_reducible refine Kp.drew ?_ | (with_reducible refine Kp.setCell ?_ (by simp) _))))) Try.underlying23 rfl (by kernel_rfl) ?_) | (refine load_row rfl 43 _ rfl w.heap.size rfl 43 _ _ _ (heap_kp R5.out (by (repeat (first | assumption | exact Kp.refl _ | with_reducible refine Kp.alloc ?_ _ | with_reducible refine Kp.drewN ?_ _ | with_reducible refine Kp.drew ?_ | (with_reducible refine Kp.setCell ?_ (by simp) _))))) Try.underlying43 rfl (ca_info.trans (by rw [ch_size])) ?_) | (refine alloc_law rfl 43 CZ rfl cz_alloc ?_; simp only [Act.put, List.setIfInBounds_toArray, List.set_cons_zero, List.set_cons_succ]) | (refine store_new rfl 43 _ _ rfl (by first | rfl | simp [Act.eval]) _ rfl (ca_info.trans (by rw [ch_size])) (by rw [cz_size, ch_size]) (ch_one ..) ?_; simp only [Act.put, List.setIfInBounds_toArray, List.set_cons_zero, List.set_cons_succ]))
            clear a50 s50 a51 s51 a52 s52 a53 s53 a54 s54 a55 s55 asz
            obtain ⟨wd, rfl⟩ : ∃ wd : World, wd = wc := ⟨_, rfl⟩
            have hN := Lib.hid hK
            replace hK := hK.alloc (.cells (Ch.cells ⟨s.x0, s.x1, s.x2, s.x3, s.x4, s.x5, s.x6, s.x7, s.x8, s.x9, s.x10, s.x11, s.x12, s.x13, s.x14, s.x15, s.x16, s.x17, s.x18, s.x19, s.x20, s.x21, s.x22, s.x23, s.x24, s.x25, s.x26, s.x27, s.x28, s.x29, s.x30, s.x31, s.n, s.amt, s.p0, s.p1, s.p2, s.p3, s.p4, s.q0, s.q1, s.q2, s.q3, s.q4, s.d, s.r, s.l, s.c, s.a, s.m, u1, u2, u3, u4, u5, u6, s.op⟩) 43)
            have RN := Lib.hid (heap_alloc_new wd (.cells (Ch.cells ⟨s.x0, s.x1, s.x2, s.x3, s.x4, s.x5, s.x6, s.x7, s.x8, s.x9, s.x10, s.x11, s.x12, s.x13, s.x14, s.x15, s.x16, s.x17, s.x18, s.x19, s.x20, s.x21, s.x22, s.x23, s.x24, s.x25, s.x26, s.x27, s.x28, s.x29, s.x30, s.x31, s.n, s.amt, s.p0, s.p1, s.p2, s.p3, s.p4, s.q0, s.q1, s.q2, s.q3, s.q4, s.d, s.r, s.l, s.c, s.a, s.m, u1, u2, u3, u4, u5, u6, s.op⟩) 43))
            have hKd := Kp.refl (wd.alloc (.cells (Ch.cells ⟨s.x0, s.x1, s.x2, s.x3, s.x4, s.x5, s.x6, s.x7, s.x8, s.x9, s.x10, s.x11, s.x12, s.x13, s.x14, s.x15, s.x16, s.x17, s.x18, s.x19, s.x20, s.x21, s.x22, s.x23, s.x24, s.x25, s.x26, s.x27, s.x28, s.x29, s.x30, s.x31, s.n, s.amt, s.p0, s.p1, s.p2, s.p3, s.p4, s.q0, s.q1, s.q2, s.q3, s.q4, s.d, s.r, s.l, s.c, s.a, s.m, u1, u2, u3, u4, u5, u6, s.op⟩) 43))
            generalize hz : s.fit = z at H0
            by_cases hz0 : z = 0
            · have H1 := Lib.hid (fun w => ch_fit (s.with1 u1 u2 u3 u4 u5 u6) (with1_ok HO.out) w)
              rw [with1_fit (hz.trans hz0) HZ.out] at H1
              subst hz0
              unfold Ch.with1 at H1
              clear hz
              go_wp2_with (first | (go_at_call 15; (with_reducible (refine (HU.out _).mono ?_)); rintro e w2 ⟨rfl, hk⟩; replace hK := Kp.trans hK hk; replace hKd := Kp.trans hKd hk; clear hk) | (refine load_row rfl 43 _ rfl _ rfl 43 _ _ _ (heap_kp RN.out hKd) Try.underlying43 rfl (ca_info.trans (by rw [ch_size])) ?_) | (go_at_call 25; first | ((with_reducible (refine (H0.out _).mono ?_)); rintro e w2 ⟨rfl, hk⟩; replace hK := Kp.trans hK hk; replace hKd := Kp.trans hKd hk; clear hk) | ((with_reducible (refine (H1.out _).mono ?_)); rintro e w2 ⟨rfl, hk⟩; replace hK := Kp.trans hK hk; replace hKd := Kp.trans hKd hk; clear hk)) | (refine load_row rfl 23 _ rfl g rfl 23 _ _ _ (heap_kp R12.out hK) Try.underlying23 rfl (by kernel_rfl) ?_) | (refine load_row rfl 23 _ rfl (w.heap.size + 1) rfl 23 _ _ _ (heap_kp R7.out hK) Try.underlying23 rfl (by kernel_rfl) ?_) | (refine load_row rfl 23 _ rfl (w.heap.size + 2) rfl 23 _ _ _ (heap_kp R8.out hK) Try.underlying23 rfl (by kernel_rfl) ?_) | (refine load_row rfl 43 _ rfl w.heap.size rfl 43 _ _ _ (heap_kp R5.out hK) Try.underlying43 rfl (ca_info.trans (by rw [ch_size])) ?_))
              go_ret
              exact ⟨rfl, HW.out.trans hK⟩
            · have hz' : (z != 0) = true := by simpa using hz0
              clear hz hz0
              go_wp2_with (first | (go_at_call 15; (with_reducible (refine (HU.out _).mono ?_)); rintro e w2 ⟨rfl, hk⟩; replace hK := Kp.trans hK hk; replace hKd := Kp.trans hKd hk; clear hk) | (go_at_call 25; ((with_reducible (refine (H0.out _).mono ?_)); rintro e w2 ⟨rfl, hk⟩; replace hK := Kp.trans hK hk; replace hKd := Kp.trans hKd hk; clear hk)) | (refine load_row rfl 23 _ rfl g rfl 23 _ _ _ (heap_kp R12.out hK) Try.underlying23 rfl (by kernel_rfl) ?_) | (refine load_row rfl 23 _ rfl (w.heap.size + 1) rfl 23 _ _ _ (heap_kp R7.out hK) Try.underlying23 rfl (by kernel_rfl) ?_) | (refine load_row rfl 23 _ rfl (w.heap.size + 2) rfl 23 _ _ _ (heap_kp R8.out hK) Try.underlying23 rfl (by kernel_rfl) ?_) | (refine load_row rfl 43 _ rfl w.heap.size rfl 43 _ _ _ (heap_kp R5.out hK) Try.underlying43 rfl (ca_info.trans (by rw [ch_size])) ?_))
              go_ret
              exact ⟨rfl, HW.out.trans hK⟩
    · generalize cg s.d' s.r' s.l' s.c' s.a' s.m' u1 u2 u3 u4 u5 u6 = e0 at HE he
      have he1 : (e0 == 0) = false := by simpa using he
      have he2 : (e0 != 0) = true := by simpa using he
      clear he
      generalize cg u1 u2 u3 u4 u5 u6 v1 v2 v3 v4 v5 v6 = f at HF
      go_upto_region 7 with (first | (refine load_row rfl 23 _ rfl g rfl 23 _ _ _ (heap_kp R12.out hK) Try.underlying23 rfl (by kernel_rfl) ?_) | (refine load_row rfl 23 _ rfl (w.heap.size + 1) rfl 23 _ _ _ (heap_kp R7.out hK) Try.underlying23 rfl (by kernel_rfl) ?_) | (refine load_row rfl 23 _ rfl (w.heap.size + 2) rfl 23 _ _ _ (heap_kp R8.out hK) Try.underlying23 rfl (by kernel_rfl) ?_) | (refine load_row rfl 43 _ rfl w.heap.size rfl 43 _ _ _ (heap_kp R5.out hK) Try.underlying43 rfl (ca_info.trans (by rw [ch_size])) ?_) | (go_at_call 23; first | ((with_reducible (refine (HE.out _).mono ?_)); rintro e w2 ⟨rfl, hk⟩; replace hK := Kp.trans hK hk; clear hk) | ((with_reducible (refine (HF.out _).mono ?_)); rintro e w2 ⟨rfl, hk⟩; replace hK := Kp.trans hK hk; clear hk)))
      go_upto_region 9 with fail
      go_cut [67] (fun b wx => b = .bool false ∧ Kp wb wx)
      case first =>
        by_cases hR : tright s.d' s.r' s.l' s.c' s.a' s.m' = true
        · rw [hR] at HR
          rw [cg_self hR] at HT
          clear hR
          have Q12 := Lib.hid (heap_kp R12.out hK)
          have Q7 := Lib.hid (heap_kp R7.out hK)
          try simp only [List.append_eq, List.cons_append, List.nil_append]
          refine wp_region_quiet_below (by kernel_rfl) (by kernel_rfl) ?_
          repeat (first | go_big_quiet_skip | (refine quiet_load_row rfl 23 _ rfl g rfl 23 _ _ _ (row_later Q12.out) Try.underlying23 rfl (by kernel_rfl) ?_; simp only [Act.put, List.setIfInBounds_toArray, List.set_cons_zero, List.set_cons_succ]) | (refine quiet_load_row rfl 23 _ rfl (w.heap.size + 1) rfl 23 _ _ _ (row_later Q7.out) Try.underlying23 rfl (by kernel_rfl) ?_; simp only [Act.put, List.setIfInBounds_toArray, List.set_cons_zero, List.set_cons_succ]) | go_big_quiet_step ((first | (go_at_call 15; exact calls_kp (HR.out _)) | (go_at_call 23; first | (with_reducible exact calls_kp (HT.out _))))))
          refine wpQuiet_nil ?_
          intro w9 hw9
          replace hK := Kp.trans hK (kp_later hw9)
          clear hw9
          go_wp2_with fail
          go_meet
          exact ⟨rfl, hK⟩
        · rw [show tright s.d' s.r' s.l' s.c' s.a' s.m' = false by simpa using hR] at HR
          clear hR
          have Q12 := Lib.hid (heap_kp R12.out hK)
          have Q7 := Lib.hid (heap_kp R7.out hK)
          try simp only [List.append_eq, List.cons_append, List.nil_append]
          refine wp_region_quiet_below (by kernel_rfl) (by kernel_rfl) ?_
          repeat (first | go_big_quiet_skip | (refine quiet_load_row rfl 23 _ rfl g rfl 23 _ _ _ (row_later Q12.out) Try.underlying23 rfl (by kernel_rfl) ?_; simp only [Act.put, List.setIfInBounds_toArray, List.set_cons_zero, List.set_cons_succ]) | (refine quiet_load_row rfl 23 _ rfl (w.heap.size + 1) rfl 23 _ _ _ (row_later Q7.out) Try.underlying23 rfl (by kernel_rfl) ?_; simp only [Act.put, List.setIfInBounds_toArray, List.set_cons_zero, List.set_cons_succ]) | go_big_quiet_step ((first | (go_at_call 15; exact calls_kp (HR.out _)))))
          refine wpQuiet_nil ?_
          intro w9 hw9
          replace hK := Kp.trans hK (kp_later hw9)
          clear hw9
          go_wp2_with fail
          go_meet
          exact ⟨rfl, hK⟩
      case rest =>
        clear hK
        obtain ⟨rfl, hK⟩ := hcut
        go_wp2_with fail
        go_ret
        exact ⟨rfl, HW.out.trans hK⟩

theorem changes_else (w : World) (s : Ch) (u1 u2 u3 u4 u5 u6 v1 v2 v3 v4 v5 v6 amount side : Int) (h0 : ¬ side = 0) (h1 : ¬ side = 1) : Calls Try.prog 5 #[.agg s.cells, .int .i64 side, TV u1 u2 u3 u4 u5 u6, TV v1 v2 v3 v4 v5 v6, .int .i64 amount] w fun e w' => e = .returned (.bool true) ∧ Kp w w' := by
  have e0 : (side != 0) = true := by simpa using h0
  have e1 : (side != 1) = true := by simpa using h1
  clear h0 h1
  go_enter Try.func5, Try.ntmps5
  go_wp2_with (go_at_call 14; refine (small19_any _).mono ?_; rintro e w1 ⟨rfl, hK⟩)
  go_ret
  exact ⟨rfl, Kp.trans ((((Kp.refl w).alloc _).alloc _).alloc _) hK⟩
theorem walk_changes19 (w : World) (s : Ch) (hok : s.Ok ∧ -9223372036854775808 ≤ s.amt ∧ s.amt ≤ 9223372036854775807) (side : Int) (u1 u2 u3 u4 u5 u6 v1 v2 v3 v4 v5 v6 amount : Int) : Calls Try.prog 5 #[.agg s.cells, .int .i64 side, TV u1 u2 u3 u4 u5 u6, TV v1 v2 v3 v4 v5 v6, .int .i64 amount] w fun e w' => e = .returned (.bool true) ∧ Kp w w' := by
  by_cases h0 : side = 0
  · subst h0; exact changes_0 w s hok.1 _ _ _ _ _ _ _ _ _ _ _ _ _
  · by_cases h1 : side = 1
    · subst h1; exact changes_1 w s hok.1 _ _ _ _ _ _ _ _ _ _ _ _ _
    · exact changes_else w s _ _ _ _ _ _ _ _ _ _ _ _ _ _ h0 h1
end Go.Proofs.Ytcdmmfelagbpdaa
