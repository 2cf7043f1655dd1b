/- The walk of FieldTells: the program's answers are the reference's. -/
import Derived.Test.YtndhbckdbobogaaRefF
namespace Go.Proofs.Ytndhbckdbobogaa
open Go.RowKit Go.Lib Cfd Ckp
set_option linter.unusedVariables false

theorem walk_tells5 (a : Nat) (ha : a < 18446744073709551616) (b : Nat) (hb : b < 18446744073709551616) (n : Nat) (hn : n < 18446744073709551616) (l : List Nat) (h32 : l.length = 32) (hl : ∀ i, l.getD i 0 < 256) (w : World) :
    Calls Try.prog 3 #[.int .u64 (a : Int), .int .u64 (b : Int), .int .u64 (n : Int), B8 l] w fun e w' => e = .returned (.bool true) ∧ Kp w w' := by
  have hK0 := (Kp.refl w).alloc (.cells (bcs l) 25)
  have hsz : (Try.prog.info? 25).map (·.size) = some (bcs l).size := by rw [bcs_size, h32]; exact Try.info25
  have HSZ := Lib.hid hsz
  have HB := Lib.hid (And.intro h32 hl)
  have hrow0 := heap_alloc_new w (.cells (bcs l) 25)
  obtain ⟨iv, hiv⟩ : ∃ iv, iv = (if a % 2305843009213688669 = 0 then (0, false) else (fi a, true)) := ⟨_, rfl⟩
  have h1 : ∀ w : World, Calls Try.prog 16 #[.int .u64 a] w fun e w' => e = .returned (.tuple #[.int .u64 (iv.1 : Nat), .bool iv.2]) ∧ ∃ k, w' = w.drewN k := by
    intro w
    rw [hiv]
    by_cases h : a % 2305843009213688669 = 0
    · rw [if_pos h]; exact inv_no a h w
    · rw [if_neg h]; exact inv_yes' a h w
  have h2 : ∀ w : World, Calls Try.prog 17 #[.int .u64 a] w fun e w' => e = .returned (.tuple #[.int .u64 (iv.1 : Nat), .bool iv.2]) ∧ ∃ k, w' = w.drewN k := by
    intro w
    rw [hiv]
    by_cases h : a % 2305843009213688669 = 0
    · rw [if_pos h]; exact rinv_no a h w
    · rw [if_neg h]; exact rinv_yes a h w
  have C1 := Lib.hid h1
  have C2 := Lib.hid h2
  have HN := Lib.hid hn
  obtain ⟨i1, i2⟩ := iv
  clear h1 h2 hiv hsz h32 hl
  go_enter Try.func3, Try.ntmps3
  go_wp2_with fail
  refine (small5 _).mono ?_
  rintro e w1 ⟨rfl, hK⟩
  have hrow := (hK.block (k := w.heap.size) (by simp)).trans hrow0
  have HR := Lib.hid hrow
  replace hK := hK0.trans hK
  have HK := Lib.hid hK
  clear hK0 hrow hrow0 hK
  go_wp2_with (first
    | (go_at_call 16; (with_reducible refine (C1.out _).mono ?_); rintro e w' ⟨rfl, k, rfl⟩)
    | (go_at_call 17; (with_reducible refine (C2.out _).mono ?_); rintro e w' ⟨rfl, k, rfl⟩))
  simp only [List.append_eq, List.cons_append, List.nil_append]
  refine wp_region_quiet_below (by kernel_rfl) (by kernel_rfl) ?_
  repeat (first
    | (refine quiet_load_row rfl 25 _ rfl w.heap.size rfl 25 _ _ _ (row_later HR.out) Try.underlying25 rfl HSZ.out ?_; simp only [Act.put, List.setIfInBounds_toArray, List.set_cons_succ, List.set_cons_zero])
    | go_big_quiet_step ((first | (go_at_call 18; exact calls_same (right_any _ _)) | (go_at_call 19; exact calls_same (rright_any _ _)) | (go_at_call 20; exact calls_same (add_any _ _ _)) | (go_at_call 21; exact calls_same (radd_any _ _ _)) | (go_at_call 22; exact calls_same (sub_any _ _ _)) | (go_at_call 23; exact calls_same (rsub_any _ _ _)) | (go_at_call 26; exact calls_same (neg_any _ _)) | (go_at_call 27; exact calls_same (rneg_any _ _)) | (go_at_call 24; exact calls_drew (mul_any _ _ _)) | (go_at_call 25; exact calls_same (rmul_any _ _ _)) | (go_at_call 28; exact calls_drew (pow_any _ _ HN.out _)) | (go_at_call 29; exact calls_same (rpow_any _ _ HN.out _)) | (go_at_call 30; exact calls_kp (from_any _ HB.out.1 HB.out.2 _)) | (go_at_call 31; exact calls_kp (rfrom_any _ HB.out.1 HB.out.2 _)))))
  refine wpQuiet_nil ?_
  intro w2 hw2
  replace hw2 := kp_later hw2
  go_wp2
  go_ret
  exact ⟨rfl, (HK.out.drewN _).trans hw2⟩
end Go.Proofs.Ytndhbckdbobogaa
