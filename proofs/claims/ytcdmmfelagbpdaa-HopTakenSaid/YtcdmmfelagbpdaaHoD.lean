/- The plain law of HopEnd, HopSafe and HopRow. -/
import Derived.Test.YtcdmmfelagbpdaaHo8
import Derived.Test.YtcdmmfelagbpdaaHoC
namespace Go.Proofs.Ytcdmmfelagbpdaa
open Go.RowKit Go.Lib Ckp Cfd Cpd Cwl
set_option linter.unusedVariables false
set_option linter.unusedSimpArgs false
set_option maxRecDepth 8192
theorem base_two (t b : Nat) : pbase (psum [t, b]) = padd (pbase t) (pbase b) := by
 show pbase (fadd (fadd 0 t) b) = _
 rw [base_add, base_add, base_0, one_add, taken_add]
/-- The secret of what comes in, with the blind, shows what comes in. -/
theorem shows_back (t b : Nat) : (pright (padd (pbase t) (pbase b)) && decide (pbase (psum [t, b]) = padd (pbase t) (pbase b))) = true := by
 rw [base_two, right_add]; simp
theorem last_cases (n a e : Int) (q bl : Nat) (xa xe : Int) (xq : Nat) (h j r nap : Int) :
  (last n a e q bl xa xe xq h j r nap = 1 ∨ last n a e q bl xa xe xq h j r nap = 23 ∨ last n a e q bl xa xe xq h j r nap = 13 ∨ last n a e q bl xa xe xq h j r nap = 16) ∨
  (last n a e q bl xa xe xq h j r nap = 0 ∧ xq = padd q (pbase bl) ∧ a ≤ xa ∧ e ≤ xe ∧ nap < xe - h ∧ (0 ≤ h ∧ h ≤ 1048576) ∧ (0 ≤ nap ∧ nap ≤ 1000)) := by
 unfold last hlast
 split
 ·exact .inl (.inl rfl)
 ·rename_i h1
  split
  ·exact .inl (.inr (.inl rfl))
  ·rename_i h2
   split
   ·exact .inl (.inr (.inr (.inl rfl)))
   ·rename_i h3
    split
    ·exact .inl (.inr (.inr (.inr rfl)))
    ·rename_i h4
     simp only [not_or, Bool.not_eq_false, Bool.and_eq_true] at h1
     have := hworld_iff h1.2.2
     refine .inr ⟨rfl, by simpa using h2, by omega, by omega, by omega, this.1, this.2⟩
theorem may_ok {xa xe : Int} {xq : Nat} {ya ye : Int} {yq : Nat} {b p d l m h j r n : Int} (k : may xa xe xq ya ye yq b p d l m h j r n = 0) :
  (hfee b p d l m ya).2 = true ∧ (hfee b p d l m ya).1 ≤ xa - ya ∧ 0 ≤ (hfee b p d l m ya).1 ∧ d ≤ xe - ye ∧ n < ye - h ∧ (0 ≤ d ∧ d ≤ 1048576) ∧ (1 ≤ xa ∧ xa ≤ 1125899906842624) ∧ (1 ≤ xe ∧ xe ≤ 1048576) ∧ (1 ≤ ya ∧ ya ≤ 1125899906842624) ∧ (1 ≤ ye ∧ ye ≤ 1048576) ∧ (0 ≤ h ∧ h ≤ 1048576) ∧ (0 ≤ n ∧ n ≤ 1000) := by
 unfold may hmay at k
 split at k
 ·cases k
 ·rename_i h1
  split at k
  ·cases k
  ·rename_i h2
   split at k
   ·cases k
   ·rename_i h3
    split at k
    ·cases k
    ·rename_i h4
     simp only [Bool.not_eq_false, Bool.and_eq_true] at h1
     have hf : (hfee b p d l m ya).2 = true := by
      cases hh : (hfee b p d l m ya).2
      ·exact absurd (.inl hh) h3
      ·rfl
     have hr := hright_iff.mp h1.1.1.1
     have hx := hpassed_iff h1.1.1.2
     have hy := hpassed_iff h1.1.2
     have hw := hworld_iff h1.2
     have hp := fee_pos hf
     refine ⟨hf, by omega, hp.1, by omega, by omega, hr.2.2.2.2, hx.1, hx.2.1, hy.1, hy.2.1, hw.1, hw.2⟩
theorem next_no {n c a e : Int} {q bl : Nat} {xa xe : Int} {xq : Nat} {b p d l m h j r nap : Int} (k : ¬ (next n c a e q bl xa xe xq b p d l m h j r nap).2 = 0) :
  (next n c a e q bl xa xe xq b p d l m h j r nap).1 = false := by
 unfold next hnext at k ⊢
 split
 ·rfl
 ·split
  ·rfl
  ·split
   ·rfl
   ·rename_i h1 h2 h3
    rw [if_neg h1, if_neg h2, if_neg h3] at k
    exact absurd rfl k
theorem next_yes {n c a e : Int} {q bl : Nat} {xa xe : Int} {xq : Nat} {b p d l m h j r nap : Int} (k : (next n c a e q bl xa xe xq b p d l m h j r nap).2 = 0) :
  (next n c a e q bl xa xe xq b p d l m h j r nap).1 = true ∧ xq = padd q (pbase bl) ∧ may xa xe xq a e q b p d l m h j r nap = 0 := by
 unfold next hnext at k ⊢
 split at k
 ·cases k
 ·rename_i h1
  split at k
  ·cases k
  ·rename_i h2
   split at k
   ·rename_i h3; exact absurd k h3
   ·rename_i h3
    rw [if_neg h1, if_neg h2, if_neg h3]
    exact ⟨rfl, by simpa using h2, by simpa using h3⟩
end Go.Proofs.Ytcdmmfelagbpdaa
