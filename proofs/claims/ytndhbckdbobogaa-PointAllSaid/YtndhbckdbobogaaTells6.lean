/- The walk of PointTells: the program's answers are the reference's. -/
import Derived.Test.YtndhbckdbobogaaRef06
import Derived.Test.YtndhbckdbobogaaLawP
import Derived.Test.YtndhbckdbobogaaArgs
namespace Go.Proofs.Ytndhbckdbobogaa
open Go.RowKit Go.Lib Cfd Cpd Ckp
set_option linter.unusedVariables false

theorem lt64' {a : Nat} (h : a < 4611686018427377339) : a < 18446744073709551616 := Nat.lt_trans h (by decide)
theorem natsOf_len {zs : List Int} {len : Nat} (h : len ≤ zs.length) : (natsOf zs len).length = len := by unfold natsOf; simp; omega
theorem natsOf_get {zs : List Int} {len j : Nat} (h : len ≤ zs.length) (hj : j < len) : (natsOf zs len).getD j 0 = (zs.getD j 0).toNat := by
  unfold natsOf
  rw [List.getD_eq_getElem?_getD, List.getElem?_eq_getElem (by simp; omega), List.getD_eq_getElem?_getD, List.getElem?_eq_getElem (by omega)]
  simp
theorem row_pts {w : World} {a : Option Addr} {len cap : Nat} {zs : List Int} (h : IsRow .u64 w a len cap zs) :
    (natsOf zs len).length = len ∧ len ≤ 9223372036854775807 ∧ (∀ i, (natsOf zs len).getD i 0 < 18446744073709551616) ∧ Pts w a (natsOf zs len) := by
  rcases h with ⟨rfl, rfl, rfl, rfl⟩ | ⟨x, rfl, hl, hm, hz, hcell, hwf⟩
  · exact ⟨rfl, by decide, by intro i; simp [natsOf], fun h => absurd h (by simp [natsOf])⟩
  · have hle : len ≤ zs.length := by omega
    have hn := natsOf_len hle
    have hb : ∀ j, j < len → 0 ≤ zs.getD j 0 ∧ zs.getD j 0 < 18446744073709551616 := by
      intro j hj
      have h1 := hwf (zs[j]'(by omega)) (List.getElem_mem _)
      obtain ⟨m, hm2, e⟩ := nat_u64 h1
      rw [List.getD_eq_getElem?_getD, List.getElem?_eq_getElem (by omega)]
      simp only [Option.getD_some]
      omega
    refine ⟨hn, by unfold maxLen at hm; omega, ?_, ?_⟩
    · intro i
      by_cases hi : i < len
      · rw [natsOf_get hle hi]; have := hb i hi; omega
      · rw [List.getD_eq_getElem?_getD, List.getElem?_eq_none (by omega)]; decide
    · intro h0
      rw [hn] at h0
      have hc0 := hcell 0 (by omega)
      have hx0 : x.add 0 = x := by unfold Addr.add; simp
      rw [hx0] at hc0
      refine ⟨x, rfl, block_lt_of_cell hc0, fun j hj => ?_⟩
      rw [hn] at hj
      rw [hcell j (by omega), natsOf_get hle hj]
      have := hb j hj
      rw [Int.toNat_of_nonneg this.1]

theorem walk_tells6 (w : World) (p : Nat) (hp : p < 18446744073709551616) (q : Nat) (hq : q < 18446744073709551616) (k : Nat) (hk : k < 18446744073709551616) (a : Option Addr) (len cap : Nat) (zs : List Int) (hrow : IsRow .u64 w a len cap zs) :
    Calls Try.prog 8 #[.int .u64 (p : Int), .int .u64 (q : Int), .int .u64 (k : Int), .slice a len cap] w fun e w' => e = .returned (.bool true) ∧ Kp w w' := by
  obtain ⟨h1, h2, h3, h4⟩ := row_pts hrow
  have HL := Lib.hid h1
  have HM := Lib.hid h2
  have HB := Lib.hid h3
  have HP := Lib.hid h4
  clear hrow h1 h3 h4
  by_cases h20 : 20 < len
  · go_enter Try.func8, Try.ntmps8
    go_wp2_with (go_at_call 32; refine (small6 _).mono ?_; rintro e w1 ⟨rfl, hK⟩)
    go_ret
    exact ⟨rfl, hK⟩
  · go_enter Try.func8, Try.ntmps8
    go_wp2_with (first
    | (go_at_call 32; first | (refine (small6 _).mono ?_; rintro e w1 ⟨rfl, hK⟩))
    | (go_at_call 33; first | ((with_reducible refine (pright_any _ (by first | assumption | omega | exact lt64 (padd_lt _ _) | exact lt64 (pneg_lt _) | exact lt64 (pscale_lt _ _) | exact lt64 (pbase_lt _)) _).mono ?_); rintro e w' ⟨rfl, k, rfl⟩))
    | (go_at_call 34; first | ((with_reducible refine (rpright_any _ _).mono ?_); rintro e w' ⟨rfl, rfl⟩))
    | (go_at_call 35; first | ((with_reducible refine (padd_any _ _ (by first | assumption | omega | exact lt64 (padd_lt _ _) | exact lt64 (pneg_lt _) | exact lt64 (pscale_lt _ _) | exact lt64 (pbase_lt _)) (by first | assumption | omega | exact lt64 (padd_lt _ _) | exact lt64 (pneg_lt _) | exact lt64 (pscale_lt _ _) | exact lt64 (pbase_lt _)) _).mono ?_); rintro e w1 ⟨rfl, hK1⟩; replace hK : Kp w w1 := (by first | exact Kp.trans' hK hK1 | exact Kp.trans hK hK1); clear hK1))
    | (go_at_call 36; first | ((with_reducible refine (rpadd_any _ _ _).mono ?_); rintro e w' ⟨rfl, rfl⟩))
    | (go_at_call 37; first | ((with_reducible refine (psub_any _ _ (by first | assumption | omega | exact lt64 (padd_lt _ _) | exact lt64 (pneg_lt _) | exact lt64 (pscale_lt _ _) | exact lt64 (pbase_lt _)) (by first | assumption | omega | exact lt64 (padd_lt _ _) | exact lt64 (pneg_lt _) | exact lt64 (pscale_lt _ _) | exact lt64 (pbase_lt _)) _).mono ?_); rintro e w1 ⟨rfl, hK1⟩; replace hK : Kp w w1 := (by first | exact Kp.trans' hK hK1 | exact Kp.trans hK hK1); clear hK1))
    | (go_at_call 38; first | ((with_reducible refine (rpsub_any _ _ _).mono ?_); rintro e w' ⟨rfl, rfl⟩))
    | (go_at_call 39; first | ((with_reducible refine (pneg_any _ (by first | assumption | omega | exact lt64 (padd_lt _ _) | exact lt64 (pneg_lt _) | exact lt64 (pscale_lt _ _) | exact lt64 (pbase_lt _)) _).mono ?_); rintro e w' ⟨rfl, k, rfl⟩))
    | (go_at_call 40; first | ((with_reducible refine (rpneg_any _ _).mono ?_); rintro e w' ⟨rfl, rfl⟩))
    | (go_at_call 43; first | ((with_reducible refine (pscale_any _ _ (by first | assumption | omega | exact lt64 (padd_lt _ _) | exact lt64 (pneg_lt _) | exact lt64 (pscale_lt _ _) | exact lt64 (pbase_lt _)) _).mono ?_); rintro e w' ⟨rfl, k, rfl⟩))
    | (go_at_call 44; first | ((with_reducible refine (rpscale_any _ _ _).mono ?_); rintro e w' ⟨rfl, rfl⟩))
    | (go_at_call 41; first | ((with_reducible refine (pbase_any _ _).mono ?_); rintro e w' ⟨rfl, k, rfl⟩))
    | (go_at_call 42; first | ((with_reducible refine (rpbase_any _ _).mono ?_); rintro e w' ⟨rfl, rfl⟩))
    | (go_at_call 45; first | ((refine (pall_any a len cap _ HL.out HM.out HB.out _ (by first | exact HP.out.keep hK | exact HP.out.keep (hK.drewN _))).mono ?_); rintro e w' ⟨rfl, k, rfl⟩))
    | (go_at_call 46; first | ((refine (rpall_any a len cap _ HL.out HM.out HB.out _ (by first | exact HP.out.keep hK | exact HP.out.keep (hK.drewN _))).mono ?_); rintro e w' ⟨rfl, rfl⟩)))
    go_ret
    exact ⟨rfl, by first | exact hK | exact hK.drewN _⟩
end Go.Proofs.Ytndhbckdbobogaa
