/- The reference's From: bit by bit it comes to the same. -/
import Derived.Test.YtcdmmfelagbpdaaGreatRef05
namespace Go.Proofs.YtcdmmfelagbpdaaGreat
open Go.RowKit Go.Lib Cfd Ckp
set_option linter.unusedVariables false

theorem rfrom_any (l : List Nat) (h32 : l.length = 32) (hb : ∀ i, l.getD i 0 < 256) (w : World) : Calls Tryz.prog 41 #[B8 l] w fun e w' => e = .returned (.int .u64 (ffrom l : Nat)) ∧ Kp w w' := by
 have hcell : ∀ k, k < 32 → (w.alloc (.cells (bcs l) 23)).cell? ⟨w.heap.size, k, none⟩ = some (.int .u8 (l.getD k 0 : Nat)) := by
  intro k hk
  have hg := bcs_get l k (by omega)
  rw [cell_of_row _ _ _ _ _ _ (heap_alloc_new w _), hg, List.getD_eq_getElem?_getD, List.getElem?_eq_getElem (by omega)]
  rfl
 have HB := Lib.hid hb
 have H32 := Lib.hid h32
 have HC := Lib.hid hcell
 clear hb h32 hcell
 go_enter Tryz.func41, Tryz.ntmps41
 go_wp2_with fail
 go_loop [3, 4] (fun nv iv => ∃ k F : Nat, k ≤ 32 ∧ F = ffold (l.take k) ∧ nv = .int .u64 (F : Int) ∧ iv = .int .i64 (k : Int)) (fun _ iv => 32 - (intOf iv).toNat)
 case atStart => exact ⟨0, 0, by omega, rfl, rfl, rfl⟩
 case round =>
  obtain ⟨k, F, hk, hF, rfl, rfl⟩ := hrel
  by_cases hlt : k < 32
  ·have hb := HB.out k
   have hc := HC.out k hlt
   have hl1 : F < 2305843009213688668 := by rw [hF]; exact ffold_lt _
   have hsn := ffold_snoc l k (by rw [H32.out]; exact hlt)
   rw [← hF] at hsn
   obtain ⟨x, hx0⟩ : ∃ x, x = l.getD k 0 := ⟨_, rfl⟩
   rw [← hx0] at hb hsn hc
   have HSn := Lib.hid hsn
   have H8 := Lib.hid (fbit_8 F x hl1 hb)
   clear hsn hx0 hF
   go_wp2_with fail
   go_loop [3, 5] (fun nv jv => ∃ j m : Nat, j ≤ 8 ∧ m < 2305843009213688668 ∧ m = fbit F x j ∧ nv = .int .u64 (m : Int) ∧ jv = .int .i64 ((j : Int) - 1)) (fun _ jv => (intOf jv + 1).toNat)
   case atStart => exact ⟨8, F, by omega, hl1, H8.out.symm, rfl, by go_num⟩
   case round =>
    obtain ⟨j, m, hj, hm, hm2, rfl, rfl⟩ := hrel
    have HM := Lib.hid hm2
    clear hm2
    by_cases hz : j = 0
    ·subst hz
     have hmf : m = ffold (l.take (k + 1)) := by rw [HM.out, fbit_0, HSn.out]
     have HMF := Lib.hid hmf
     clear hmf
     go_wp2_with fail
     go_round
     case rel => exact ⟨k + 1, m, by omega, HMF.out, rfl, by go_num⟩
     case measure => simp [intOf]; omega
    ·obtain ⟨i, rfl⟩ : ∃ i, j = i + 1 := ⟨j - 1, by omega⟩
     have hi : ((i + 1 : Nat) : Int) - 1 = (i : Int) := by omega
     rw [hi]
     have hbit := bit_of x i (by omega)
     obtain ⟨t, ht⟩ : ∃ t, t = x / 2 ^ i % 2 := ⟨_, rfl⟩
     have ht2 : t < 2 := by rw [ht]; omega
     rw [← ht] at hbit
     have hst := fbit_step F x i (by omega)
     rw [← ht, ← HM.out] at hst
     obtain ⟨m2, hm2⟩ : ∃ m2, m2 = (2 * m + t) % 2305843009213688668 := ⟨_, rfl⟩
     have e1 : (2 * (m : Int) + (t : Int)) % 2305843009213688668 = (m2 : Int) := by omega
     have hl2 : m2 < 2305843009213688668 := by omega
     rw [← hm2] at hst
     have HSt := Lib.hid hst
     clear hi hz hst hm2 ht
     go_wp2_with fail
     go_round
     case rel => exact ⟨i, m2, by omega, hl2, HSt.out, congrArg (Value.int .u64) e1, rfl⟩
     case measure => simp [intOf]
  ·have hk32 : k = 32 := by omega
   have hfin : F + 1 = ffrom l := by rw [hF, hk32, List.take_of_length_le (by rw [H32.out]; omega)]; rfl
   have hl1 := ffold_lt (l.take k)
   rw [← hF] at hl1
   have HFin := Lib.hid hfin
   clear hfin hF hk32
   go_wp2_with fail
   go_ret
   exact ⟨ret_int (by rw [← HFin.out]; rfl), (Kp.refl _).alloc _⟩
end Go.Proofs.YtcdmmfelagbpdaaGreat
