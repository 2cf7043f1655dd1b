/- Contracts of package hop and its reference: policies, fees, conditions. -/
import Derived.Test.YtcdmmfelagbpdaaHo2
import Derived.Test.YtcdmmfelagbpdaaTe2
import Derived.Test.YtcdmmfelagbpdaaWild2
namespace Go.Proofs.Ytcdmmfelagbpdaa
open Go.RowKit Go.Lib Ckp Cfd Cpd Cwl
set_option linter.unusedVariables false
set_option linter.unusedSimpArgs false
set_option maxRecDepth 8192
abbrev PV (b p d l m : Int) : Value := .agg #[.int .i64 b, .int .i64 p, .int .i64 d, .int .i64 l, .int .i64 m]
abbrev QV (f i a : Int) (q : Nat) (e : Int) : Value := .agg #[.int .i64 f, .int .i64 i, .int .i64 a, .int .u64 (q : Int), .int .i64 e]
abbrev HvH (n c a e : Int) (q bl : Nat) : Value := .agg #[.int .i64 n, .int .i64 c, .int .i64 a, .int .i64 e, .int .u64 (q : Int), .int .u64 (bl : Int)]
abbrev BV (j b n : Int) : Value := .agg #[.int .i64 j, .int .i64 b, .int .i64 n]
theorem hin_any (n lo hi : Int) (w : World) : Calls Try.prog 54 #[.int .i64 n, .int .i64 lo, .int .i64 hi] w fun e w' => e = .returned (.bool (inn n lo hi)) ∧ w = w' := by
 go_enter Try.func54, Try.ntmps54
 go_wp2
 all_goals go_ret
 all_goals exact ⟨by first | (simp_all [inn]; done) | (simp_all [inn]; intros; omega), rfl⟩
theorem rhin_any (n lo hi : Int) (w : World) : Calls Try.prog 57 #[.int .i64 n, .int .i64 lo, .int .i64 hi] w fun e w' => e = .returned (.bool (inn n lo hi)) ∧ w = w' := by
 go_enter Try.func57, Try.ntmps57
 go_wp2
 all_goals go_ret
 all_goals exact ⟨by first | (simp_all [inn]; done) | (simp_all [inn]; intros; omega), rfl⟩
def hright (b p d l m : Int) : Bool := inn b 0 1125899906842624 && inn l 0 m && inn m 0 1125899906842624 && inn p 0 1000000 && inn d 0 1048576
theorem hright_iff {b p d l m : Int} : hright b p d l m = true ↔ (0 ≤ b ∧ b ≤ 1125899906842624) ∧ (0 ≤ l ∧ l ≤ m) ∧ (0 ≤ m ∧ m ≤ 1125899906842624) ∧ (0 ≤ p ∧ p ≤ 1000000) ∧ (0 ≤ d ∧ d ≤ 1048576) := by
 simp [hright, inn]; omega
theorem hright_ref (b p d l m : Int) : (inn b 0 1125899906842624 && inn l 0 1125899906842624 && inn m l 1125899906842624 && inn p 0 1000000 && inn d 0 1048576) = hright b p d l m := by
 rw [Bool.eq_iff_iff, hright_iff]; simp [inn]; omega
set_option maxHeartbeats 1000000 in
theorem hRight_any (b p d l m : Int) (w : World) : Calls Try.prog 32 #[PV b p d l m] w fun e w' => e = .returned (.bool (hright b p d l m)) ∧ Kp w w' := by
 have K1 := Lib.hid (fun w => hin_any b 0 1125899906842624 w)
 have K2 := Lib.hid (fun w => hin_any l 0 m w)
 have K3 := Lib.hid (fun w => hin_any m 0 1125899906842624 w)
 have K4 := Lib.hid (fun w => hin_any p 0 1000000 w)
 have K5 := Lib.hid (fun w => hin_any d 0 1048576 w)
 unfold hright
 generalize inn b 0 1125899906842624 = x1 at *
 generalize inn l 0 m = x2 at *
 generalize inn m 0 1125899906842624 = x3 at *
 generalize inn p 0 1000000 = x4 at *
 generalize inn d 0 1048576 = x5 at *
 go_enter Try.func32, Try.ntmps32
 go_wp2_with (go_at_call 54; first | ((with_reducible (refine (K1.out _).mono ?_)); rintro e w' ⟨rfl, rfl⟩) | ((with_reducible (refine (K2.out _).mono ?_)); rintro e w' ⟨rfl, rfl⟩) | ((with_reducible (refine (K3.out _).mono ?_)); rintro e w' ⟨rfl, rfl⟩) | ((with_reducible (refine (K4.out _).mono ?_)); rintro e w' ⟨rfl, rfl⟩) | ((with_reducible (refine (K5.out _).mono ?_)); rintro e w' ⟨rfl, rfl⟩))
 all_goals go_ret
 all_goals exact ⟨by simp_all, (Kp.refl w).alloc _⟩
set_option maxHeartbeats 1000000 in
theorem rhRight_any (b p d l m : Int) (w : World) : Calls Try.prog 33 #[PV b p d l m] w fun e w' => e = .returned (.bool (hright b p d l m)) ∧ Kp w w' := by
 have K1 := Lib.hid (fun w => rhin_any b 0 1125899906842624 w)
 have K2 := Lib.hid (fun w => rhin_any l 0 1125899906842624 w)
 have K3 := Lib.hid (fun w => rhin_any m l 1125899906842624 w)
 have K4 := Lib.hid (fun w => rhin_any p 0 1000000 w)
 have K5 := Lib.hid (fun w => rhin_any d 0 1048576 w)
 rw [← hright_ref]
 generalize inn b 0 1125899906842624 = x1 at *
 generalize inn l 0 1125899906842624 = x2 at *
 generalize inn m l 1125899906842624 = x3 at *
 generalize inn p 0 1000000 = x4 at *
 generalize inn d 0 1048576 = x5 at *
 go_enter Try.func33, Try.ntmps33
 go_wp2_with (go_at_call 57; first | ((with_reducible (refine (K1.out _).mono ?_)); rintro e w' ⟨rfl, rfl⟩) | ((with_reducible (refine (K2.out _).mono ?_)); rintro e w' ⟨rfl, rfl⟩) | ((with_reducible (refine (K3.out _).mono ?_)); rintro e w' ⟨rfl, rfl⟩) | ((with_reducible (refine (K4.out _).mono ?_)); rintro e w' ⟨rfl, rfl⟩) | ((with_reducible (refine (K5.out _).mono ?_)); rintro e w' ⟨rfl, rfl⟩))
 all_goals go_ret
 all_goals exact ⟨by simp_all, (Kp.refl w).alloc _⟩
/-- What a party takes. -/
def hfee (b p d l m a : Int) : Int × Bool := if (hpart a p).2 = true ∧ hright b p d l m = true then tadd b (hpart a p).1 else (0, false)
theorem hFee_any (b p d l m a : Int) (hp : p ≤ 9223372036854775807) (w : World) : Calls Try.prog 28 #[PV b p d l m, .int .i64 a] w fun e w' => e = .returned (.tuple #[.int .i64 (hfee b p d l m a).1, .bool (hfee b p d l m a).2]) ∧ Kp w w' := by
 have H1 := Lib.hid (fun w => nPart_any a p hp w)
 have H2 := Lib.hid (fun w => hRight_any b p d l m w)
 have H3 := Lib.hid (fun w => tadd_any b (hpart a p).1 w)
 unfold hfee
 generalize hpart a p = P at *
 generalize hright b p d l m = R at *
 obtain ⟨P1, P2⟩ := P
 simp only at H1 H3 ⊢
 generalize tadd b P1 = F at *
 cases P2
 ·rw [if_neg (by simp)]
  go_enter Try.func28, Try.ntmps28
  go_wp2_with (go_at_call 50; (with_reducible (refine (H1.out _).mono ?_)); rintro e w' ⟨rfl, k, rfl⟩)
  go_ret2
  exact ⟨rfl, by (repeat (first | assumption | exact Kp.refl _ | with_reducible refine Kp.alloc ?_ _ | with_reducible refine Kp.drewN ?_ _ | with_reducible refine Kp.drew ?_ | (with_reducible refine Kp.setCell ?_ (by simp) _)))⟩
 ·cases R
  ·rw [if_neg (by simp)]
   go_enter Try.func28, Try.ntmps28
   go_wp2_with (first | (go_at_call 50; (with_reducible (refine (H1.out _).mono ?_)); rintro e w' ⟨rfl, k, rfl⟩) | (go_at_call 32; (with_reducible (refine (H2.out _).mono ?_)); rintro e w' ⟨rfl, hK⟩))
   go_ret2
   exact ⟨rfl, Kp.trans (((Kp.refl w).alloc _).drewN _) hK⟩
  ·rw [if_pos (by simp)]
   go_enter Try.func28, Try.ntmps28
   go_wp2_with (first | (go_at_call 50; (with_reducible (refine (H1.out _).mono ?_)); rintro e w1 ⟨rfl, k, rfl⟩) | (go_at_call 32; (with_reducible (refine (H2.out _).mono ?_)); rintro e w2 ⟨rfl, hK⟩; have hc := (bcell hK).1; have hz : w.heap.size < w2.heap.size := (by have := hK.size; simp at this; omega)) | (go_at_call 38; (with_reducible (refine (H3.out _).mono ?_)); rintro e w' ⟨rfl, rfl⟩))
   go_ret2
   exact ⟨rfl, Kp.trans (((Kp.refl w).alloc _).drewN _) hK⟩
theorem rhFee_any (b p d l m a : Int) (hp : p ≤ 9223372036854775807) (w : World) : Calls Try.prog 29 #[PV b p d l m, .int .i64 a] w fun e w' => e = .returned (.tuple #[.int .i64 (hfee b p d l m a).1, .bool (hfee b p d l m a).2]) ∧ Kp w w' := by
 have H1 := Lib.hid (fun w => rPart_any a p hp w)
 have H2 := Lib.hid (fun w => rhRight_any b p d l m w)
 have H3 := Lib.hid (fun w => radd01_any b (hpart a p).1 w)
 unfold hfee
 generalize hpart a p = P at *
 generalize hright b p d l m = R at *
 obtain ⟨P1, P2⟩ := P
 simp only at H1 H3 ⊢
 generalize tadd b P1 = F at *
 cases R
 ·rw [if_neg (by simp)]
  go_enter Try.func29, Try.ntmps29
  go_wp2_with (first | (go_at_call 51; (with_reducible (refine (H1.out _).mono ?_)); rintro e w' ⟨rfl, rfl⟩) | (go_at_call 33; (with_reducible (refine (H2.out _).mono ?_)); rintro e w' ⟨rfl, hK⟩))
  go_ret2
  exact ⟨rfl, Kp.trans ((Kp.refl w).alloc _) hK⟩
 ·cases P2
  ·rw [if_neg (by simp)]
   go_enter Try.func29, Try.ntmps29
   go_wp2_with (first | (go_at_call 51; (with_reducible (refine (H1.out _).mono ?_)); rintro e w' ⟨rfl, rfl⟩) | (go_at_call 33; (with_reducible (refine (H2.out _).mono ?_)); rintro e w' ⟨rfl, hK⟩))
   go_ret2
   exact ⟨rfl, Kp.trans ((Kp.refl w).alloc _) hK⟩
  ·rw [if_pos (by simp)]
   go_enter Try.func29, Try.ntmps29
   go_wp2_with (first | (go_at_call 51; (with_reducible (refine (H1.out _).mono ?_)); rintro e w' ⟨rfl, rfl⟩) | (go_at_call 33; (with_reducible (refine (H2.out _).mono ?_)); rintro e w2 ⟨rfl, hK⟩; have hc := (bcell hK).1; have hz : w.heap.size < w2.heap.size := (by have := hK.size; simp at this; omega)) | (go_at_call 52; (with_reducible (refine (H3.out _).mono ?_)); rintro e w' ⟨rfl, rfl⟩))
   go_ret2
   exact ⟨rfl, Kp.trans ((Kp.refl w).alloc _) hK⟩
end Go.Proofs.Ytcdmmfelagbpdaa
