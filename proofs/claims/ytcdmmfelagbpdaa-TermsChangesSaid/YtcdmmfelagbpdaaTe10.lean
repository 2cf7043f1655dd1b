/- A channel behind a name; its contracts; the walk of TermsFits (printed by gente10.py). -/
import Derived.Test.YtcdmmfelagbpdaaTe8
import Derived.Test.YtcdmmfelagbpdaaTe5
import Derived.Test.YtcdmmfelagbpdaaTe4
import Derived.Test.YtcdmmfelagbpdaaLeaf
namespace Go.Proofs.Ytcdmmfelagbpdaa
open Go.RowKit Go.Lib Ckp Cfd Cpd Cwl
set_option linter.unusedVariables false
set_option maxRecDepth 100000
set_option linter.unusedSimpArgs false
structure Ch where
  (x0 x1 x2 x3 x4 x5 x6 x7 x8 x9 x10 x11 x12 x13 x14 x15 x16 x17 x18 x19 x20 x21 x22 x23 x24 x25 x26 x27 x28 x29 x30 x31 n amt : Int)
  (p0 p1 p2 p3 p4 q0 q1 q2 q3 q4 : Nat)
  (d r l c a m d' r' l' c' a' m' op : Int)
@[irreducible] def Ch.cells (s : Ch) : Array Value := #[.int .u8 s.x0, .int .u8 s.x1, .int .u8 s.x2, .int .u8 s.x3, .int .u8 s.x4, .int .u8 s.x5, .int .u8 s.x6, .int .u8 s.x7, .int .u8 s.x8, .int .u8 s.x9, .int .u8 s.x10, .int .u8 s.x11, .int .u8 s.x12, .int .u8 s.x13, .int .u8 s.x14, .int .u8 s.x15, .int .u8 s.x16, .int .u8 s.x17, .int .u8 s.x18, .int .u8 s.x19, .int .u8 s.x20, .int .u8 s.x21, .int .u8 s.x22, .int .u8 s.x23, .int .u8 s.x24, .int .u8 s.x25, .int .u8 s.x26, .int .u8 s.x27, .int .u8 s.x28, .int .u8 s.x29, .int .u8 s.x30, .int .u8 s.x31, .int .i64 s.n, .int .i64 s.amt, .int .u64 (s.p0 : Int), .int .u64 (s.p1 : Int), .int .u64 (s.p2 : Int), .int .u64 (s.p3 : Int), .int .u64 (s.p4 : Int), .int .u64 (s.q0 : Int), .int .u64 (s.q1 : Int), .int .u64 (s.q2 : Int), .int .u64 (s.q3 : Int), .int .u64 (s.q4 : Int), .int .i64 s.d, .int .i64 s.r, .int .i64 s.l, .int .i64 s.c, .int .i64 s.a, .int .i64 s.m, .int .i64 s.d', .int .i64 s.r', .int .i64 s.l', .int .i64 s.c', .int .i64 s.a', .int .i64 s.m', .int .i64 s.op]
theorem ch_size (s : Ch) : s.cells.size = 57 := by unfold Ch.cells; rfl
theorem ch_one (s : Ch) : s.cells.all (·.oneCell') = true := by unfold Ch.cells; kernel_rfl
structure Ch.Ok (s : Ch) : Prop where
  (hp0 : s.p0 < 18446744073709551616)
  (hp1 : s.p1 < 18446744073709551616)
  (hp2 : s.p2 < 18446744073709551616)
  (hp3 : s.p3 < 18446744073709551616)
  (hp4 : s.p4 < 18446744073709551616)
  (hq0 : s.q0 < 18446744073709551616)
  (hq1 : s.q1 < 18446744073709551616)
  (hq2 : s.q2 < 18446744073709551616)
  (hq3 : s.q3 < 18446744073709551616)
  (hq4 : s.q4 < 18446744073709551616)
  (hop : -9223372036854775808 ≤ s.op ∧ s.op ≤ 9223372036854775807)
def Ch.fit (s : Ch) : Int := tfit s.amt s.n s.op (tright s.d s.r s.l s.c s.a s.m) ([s.p0, s.p1, s.p2, s.p3, s.p4].all pown) (tright s.d' s.r' s.l' s.c' s.a' s.m') ([s.q0, s.q1, s.q2, s.q3, s.q4].all pown) s.r s.r'
theorem ch_fit (s : Ch) (h : s.Ok) (w : World) : Calls Try.prog 25 #[.agg s.cells] w fun e w' => e = .returned (.int .i64 s.fit) ∧ Kp w w' := by
  unfold Ch.cells Ch.fit
  exact fit_any s.x0 s.x1 s.x2 s.x3 s.x4 s.x5 s.x6 s.x7 s.x8 s.x9 s.x10 s.x11 s.x12 s.x13 s.x14 s.x15 s.x16 s.x17 s.x18 s.x19 s.x20 s.x21 s.x22 s.x23 s.x24 s.x25 s.x26 s.x27 s.x28 s.x29 s.x30 s.x31 s.n s.amt s.d s.r s.l s.c s.a s.m s.d' s.r' s.l' s.c' s.a' s.m' s.op s.p0 s.p1 s.p2 s.p3 s.p4 s.q0 s.q1 s.q2 s.q3 s.q4 h.hp0 h.hp1 h.hp2 h.hp3 h.hp4 h.hq0 h.hq1 h.hq2 h.hq3 h.hq4 h.hop w
theorem ch_rfit (s : Ch) (h : s.Ok) (w : World) : Calls Try.prog 26 #[.agg s.cells] w fun e w' => e = .returned (.int .i64 s.fit) ∧ Kp w w' := by
  unfold Ch.cells Ch.fit
  exact rfit_any s.x0 s.x1 s.x2 s.x3 s.x4 s.x5 s.x6 s.x7 s.x8 s.x9 s.x10 s.x11 s.x12 s.x13 s.x14 s.x15 s.x16 s.x17 s.x18 s.x19 s.x20 s.x21 s.x22 s.x23 s.x24 s.x25 s.x26 s.x27 s.x28 s.x29 s.x30 s.x31 s.n s.amt s.d s.r s.l s.c s.a s.m s.d' s.r' s.l' s.c' s.a' s.m' s.op s.p0 s.p1 s.p2 s.p3 s.p4 s.q0 s.q1 s.q2 s.q3 s.q4 h.hp0 h.hp1 h.hp2 h.hp3 h.hp4 h.hq0 h.hq1 h.hq2 h.hq3 h.hq4 h.hop w
theorem ch_at33 (s : Ch) : s.cells[33]? = some (.int .i64 s.amt) := by unfold Ch.cells; rfl
theorem ch_at34 (s : Ch) : s.cells[34]? = some (.int .u64 (s.p0 : Int)) := by unfold Ch.cells; rfl
theorem ch_at35 (s : Ch) : s.cells[35]? = some (.int .u64 (s.p1 : Int)) := by unfold Ch.cells; rfl
theorem ch_at36 (s : Ch) : s.cells[36]? = some (.int .u64 (s.p2 : Int)) := by unfold Ch.cells; rfl
theorem ch_at37 (s : Ch) : s.cells[37]? = some (.int .u64 (s.p3 : Int)) := by unfold Ch.cells; rfl
theorem ch_at38 (s : Ch) : s.cells[38]? = some (.int .u64 (s.p4 : Int)) := by unfold Ch.cells; rfl
theorem ch_at39 (s : Ch) : s.cells[39]? = some (.int .u64 (s.q0 : Int)) := by unfold Ch.cells; rfl
theorem ch_at40 (s : Ch) : s.cells[40]? = some (.int .u64 (s.q1 : Int)) := by unfold Ch.cells; rfl
theorem ch_at41 (s : Ch) : s.cells[41]? = some (.int .u64 (s.q2 : Int)) := by unfold Ch.cells; rfl
theorem ch_at42 (s : Ch) : s.cells[42]? = some (.int .u64 (s.q3 : Int)) := by unfold Ch.cells; rfl
theorem ch_at43 (s : Ch) : s.cells[43]? = some (.int .u64 (s.q4 : Int)) := by unfold Ch.cells; rfl
theorem ch_at44 (s : Ch) : s.cells[44]? = some (.int .i64 s.d) := by unfold Ch.cells; rfl
theorem ch_at45 (s : Ch) : s.cells[45]? = some (.int .i64 s.r) := by unfold Ch.cells; rfl
theorem ch_at46 (s : Ch) : s.cells[46]? = some (.int .i64 s.l) := by unfold Ch.cells; rfl
theorem ch_at47 (s : Ch) : s.cells[47]? = some (.int .i64 s.c) := by unfold Ch.cells; rfl
theorem ch_at48 (s : Ch) : s.cells[48]? = some (.int .i64 s.a) := by unfold Ch.cells; rfl
theorem ch_at49 (s : Ch) : s.cells[49]? = some (.int .i64 s.m) := by unfold Ch.cells; rfl
theorem ch_at50 (s : Ch) : s.cells[50]? = some (.int .i64 s.d') := by unfold Ch.cells; rfl
theorem ch_at51 (s : Ch) : s.cells[51]? = some (.int .i64 s.r') := by unfold Ch.cells; rfl
theorem ch_at52 (s : Ch) : s.cells[52]? = some (.int .i64 s.l') := by unfold Ch.cells; rfl
theorem ch_at53 (s : Ch) : s.cells[53]? = some (.int .i64 s.c') := by unfold Ch.cells; rfl
theorem ch_at54 (s : Ch) : s.cells[54]? = some (.int .i64 s.a') := by unfold Ch.cells; rfl
theorem ch_at55 (s : Ch) : s.cells[55]? = some (.int .i64 s.m') := by unfold Ch.cells; rfl
theorem ch_at56 (s : Ch) : s.cells[56]? = some (.int .i64 s.op) := by unfold Ch.cells; rfl
theorem ch_alloc (w : World) : (Instr.alloc 43 true (.tuple #[])).run Try.prog w = .ok (.pointer (some ⟨w.heap.size, 0, none⟩)) (w.alloc (.cells CZ 43)) := cz_alloc w
def chKinds : List IntKind := [.u8, .u8, .u8, .u8, .u8, .u8, .u8, .u8, .u8, .u8, .u8, .u8, .u8, .u8, .u8, .u8, .u8, .u8, .u8, .u8, .u8, .u8, .u8, .u8, .u8, .u8, .u8, .u8, .u8, .u8, .u8, .u8, .i64, .i64, .u64, .u64, .u64, .u64, .u64, .u64, .u64, .u64, .u64, .u64, .i64, .i64, .i64, .i64, .i64, .i64, .i64, .i64, .i64, .i64, .i64, .i64, .i64]
theorem ch_open {zs : List Int} (h : zs.length = chKinds.length) (hw : wfs chKinds zs) : ∃ s : Ch, (zipV chKinds zs).toArray = s.cells ∧ s.Ok ∧ -9223372036854775808 ≤ s.amt ∧ s.amt ≤ 9223372036854775807 := by
  unfold chKinds at h hw ⊢
  match zs, h with
  | x0 :: x1 :: x2 :: x3 :: x4 :: x5 :: x6 :: x7 :: x8 :: x9 :: x10 :: x11 :: x12 :: x13 :: x14 :: x15 :: x16 :: x17 :: x18 :: x19 :: x20 :: x21 :: x22 :: x23 :: x24 :: x25 :: x26 :: x27 :: x28 :: x29 :: x30 :: x31 :: n :: amt :: p0 :: p1 :: p2 :: p3 :: p4 :: q0 :: q1 :: q2 :: q3 :: q4 :: d :: r :: l :: c :: a :: m :: d' :: r' :: l' :: c' :: a' :: m' :: op :: [], _ =>
    obtain ⟨w_x0, w_x1, w_x2, w_x3, w_x4, w_x5, w_x6, w_x7, w_x8, w_x9, w_x10, w_x11, w_x12, w_x13, w_x14, w_x15, w_x16, w_x17, w_x18, w_x19, w_x20, w_x21, w_x22, w_x23, w_x24, w_x25, w_x26, w_x27, w_x28, w_x29, w_x30, w_x31, w_n, w_amt, w_p0, w_p1, w_p2, w_p3, w_p4, w_q0, w_q1, w_q2, w_q3, w_q4, w_d, w_r, w_l, w_c, w_a, w_m, w_d', w_r', w_l', w_c', w_a', w_m', w_op, _⟩ := hw
    obtain ⟨p0n, b_p0, rfl⟩ := nat_u64 w_p0
    obtain ⟨p1n, b_p1, rfl⟩ := nat_u64 w_p1
    obtain ⟨p2n, b_p2, rfl⟩ := nat_u64 w_p2
    obtain ⟨p3n, b_p3, rfl⟩ := nat_u64 w_p3
    obtain ⟨p4n, b_p4, rfl⟩ := nat_u64 w_p4
    obtain ⟨q0n, b_q0, rfl⟩ := nat_u64 w_q0
    obtain ⟨q1n, b_q1, rfl⟩ := nat_u64 w_q1
    obtain ⟨q2n, b_q2, rfl⟩ := nat_u64 w_q2
    obtain ⟨q3n, b_q3, rfl⟩ := nat_u64 w_q3
    obtain ⟨q4n, b_q4, rfl⟩ := nat_u64 w_q4
    obtain ⟨h1, h2⟩ := bounds_i64 w_op
    obtain ⟨h3, h4⟩ := bounds_i64 w_amt
    exact ⟨⟨x0, x1, x2, x3, x4, x5, x6, x7, x8, x9, x10, x11, x12, x13, x14, x15, x16, x17, x18, x19, x20, x21, x22, x23, x24, x25, x26, x27, x28, x29, x30, x31, n, amt, p0n, p1n, p2n, p3n, p4n, q0n, q1n, q2n, q3n, q4n, d, r, l, c, a, m, d', r', l', c', a', m', op⟩, by unfold Ch.cells; rfl, ⟨b_p0, b_p1, b_p2, b_p3, b_p4, b_q0, b_q1, b_q2, b_q3, b_q4, ⟨h1, h2⟩⟩, h3, h4⟩
theorem ch_arg {H : Type} {enc : TypeId × Value → H} {w : World} {base b0 : Nat} {spare : Nat → Bool} {held : Bool} {r : Reach} {v : Value} {d : DataW H} {p : List MemPlace}
    (hv : Value.okWide Try.prog w r b0 43 v) (h : DataW.Trod enc Try.prog w base spare held 43 v d p) : ∃ s : Ch, v = .agg s.cells ∧ s.Ok ∧ -9223372036854775808 ≤ s.amt ∧ s.amt ≤ 9223372036854775807 := by
  obtain ⟨zs, hl, rfl, hw⟩ := open_flat (ks := chKinds) (by unfold chKinds; kernel_rfl) (WideShapes.okWide_struct Try.underlying43 hv) h
  obtain ⟨s, e, h1, h2⟩ := ch_open hl hw
  exact ⟨s, by rw [e], h1, h2⟩
theorem walk_fits19 (w : World) (s : Ch) (hok : s.Ok ∧ -9223372036854775808 ≤ s.amt ∧ s.amt ≤ 9223372036854775807) : Calls Try.prog 4 #[.agg s.cells] w fun e w' => e = .returned (.bool true) ∧ Kp w w' := by
  have h := hok.1
  clear hok
  have H0 := Lib.hid (fun w => ch_fit s h w)
  have H1 := Lib.hid (fun w => ch_rfit s h w)
  generalize s.fit = z at *
  have hsz : (Try.prog.info? 43).map (·.size) = some s.cells.size := ca_info.trans (by rw [ch_size])
  have HS := Lib.hid hsz
  clear hsz h
  go_enter Try.func4, Try.ntmps4
  go_wp2_with fail
  refine (small19_any _).mono ?_
  rintro e w1 ⟨rfl, hK⟩
  have R1 := Lib.hid (heap_kp (heap_new_at w (.cells s.cells 43) rfl) hK)
  have HK := Lib.hid (Kp.trans ((Kp.refl w).alloc _) hK)
  clear hK
  go_wp2_with fail
  try simp only [List.append_eq, List.cons_append, List.nil_append]
  refine wp_region_quiet_below (by kernel_rfl) (by kernel_rfl) ?_
  repeat (first
    | (refine quiet_load_row rfl 43 _ rfl w.heap.size rfl 43 _ _ _ (row_later R1.out) Try.underlying43 rfl HS.out ?_; simp only [Act.put, List.setIfInBounds_toArray, List.set_cons_zero, List.set_cons_succ])
    | go_big_quiet_step ((first | (go_at_call 25; exact calls_kp (H0.out _)) | (go_at_call 26; exact calls_kp (H1.out _)))))
  refine wpQuiet_nil ?_
  intro w2 hw2
  replace hw2 := kp_later hw2
  go_wp2
  go_ret
  exact ⟨rfl, HK.out.trans hw2⟩
end Go.Proofs.Ytcdmmfelagbpdaa
