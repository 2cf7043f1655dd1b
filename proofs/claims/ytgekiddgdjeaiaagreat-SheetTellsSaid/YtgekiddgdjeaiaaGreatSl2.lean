/- Sheet, plain: right states under the changes. -/
import Derived.Test.YtgekiddgdjeaiaaGreatSh6
namespace Go.Proofs.YtgekiddgdjeaiaaGreat
open Go.RowKit Go.Lib Ckp Cfd Cpd Sx
set_option linter.unusedVariables false
set_option linter.unusedSimpArgs false
theorem a2x (q x : Cnd) : isC q x = true ↔ fr x = fr q ∧ idn x = idn q := bjw x q
theorem ash {f i : Int} {x : Cnd} : aj f i x = true ↔ fr x = f ∧ idn x = i := by
 unfold aj fr idn
 cases h1 : ax (x.getD 0 0) f with
 | false =>
  rw [akg] at h1
  simp only [cond_false]
  exact ⟨fun h => by (cases h), fun h => absurd h.1 h1⟩
 | true =>
  rw [ab9] at h1
  simp only [cond_true, ab9]
  exact ⟨fun h => ⟨h1, h⟩, fun h => h.2⟩
theorem bkd {f i : Int} {l : List Cnd} : iLt (ed (aj f i) l) 0 = true ↔ ∀ x ∈ l, ¬ (fr x = f ∧ idn x = i) := by
 unfold ed
 cases hf : l.findIdx? (aj f i) with
 | none =>
  rw [List.findIdx?_eq_none_iff] at hf
  exact ⟨fun _ x hx h => (by have := hf x hx; rw [ash.2 h] at this; cases this), fun _ => rfl⟩
 | some k =>
  rw [List.findIdx?_eq_some_iff_getElem] at hf
  obtain ⟨hk, h1, _⟩ := hf
  constructor
  ·intro h; rw [air] at h; simp only at h; omega
  ·intro h; exact absurd (ash.1 h1) (h _ (List.getElem_mem hk))
theorem bie (q : Cnd) (A B : List Cnd) : mg q (A ++ B) = mg q A ++ mg q B := by unfold mg; rw [List.filter_append]
theorem ba2 {q : Cnd} {A : List Cnd} (h : ∀ x ∈ A, ¬ (fr x = fr q ∧ idn x = idn q)) : mg q A = A := by
 unfold mg
 rw [List.filter_eq_self]
 intro x hx
 cases hc : isC q x with
 | false => rfl
 | true => exact absurd ((a2x q x).1 hc) (h x hx)
theorem blr {x y : Cnd} (h : lt2 x y) : ¬ (fr x = fr y ∧ idn x = idn y) := by unfold lt2 at h; omega
theorem bft {x y : Cnd} (h : lt2 y x) : ¬ (fr x = fr y ∧ idn x = idn y) := by unfold lt2 at h; omega
theorem az7 {q y : Cnd} {B : List Cnd} (e : fr y = fr q ∧ idn y = idn q) : mg q (y :: B) = mg q B := by
 unfold mg
 rw [List.filter_cons, (a2x q y).2 e]
 rfl
theorem bj5 {rt : Int} {n : Nat} (h : 0 ≤ rt ∧ rt ≤ 1000) (hn : n ≤ 16) : 0 ≤ rt * (68 + 8 * (n : Int)) ∧ rt * (68 + 8 * (n : Int)) ≤ 196000 := by
 have hb : rt * (68 + 8 * (n : Int)) ≤ 1000 * 196 := Int.mul_le_mul h.2 (by omega) (by omega) (by omega)
 exact ⟨Int.mul_nonneg h.1 (by omega), by omega⟩
theorem have_le {h0 h1 side : Int} (a : 0 ≤ h0 ∧ h0 ≤ 1125899906842624) (b : 0 ≤ h1 ∧ h1 ≤ 1125899906842624) : 0 ≤ jf h0 h1 side ∧ jf h0 h1 side ≤ 1125899906842624 := by
 unfold jf
 cases ax side 0
 ·exact b
 ·exact a
structure bq4 (O : OO) (c : Nat → Int) (no h0 h1 rt : Int) (l : List Cnd) (f i a q e : Int) : Prop where
 side : f = 0 ∨ f = 1
 was : avn O c no h0 h1 rt l
 fine : aok O [f, i, a, q, e]
 new : ∀ x ∈ l, ¬ (fr x = f ∧ idn x = i)
 e0 : hsub f h0 a 0 = if f = 0 then h0 - a else h0
 e1 : hsub f h1 a 1 = if f = 1 then h1 - a else h1
 right : avn O c no (hsub f h0 a 0) (hsub f h1 a 1) rt (bn [f, i, a, q, e] l)
 left : c (jr f 1) ≤ jm c (hsub f h0 a 0) (hsub f h1 a 1) rt ((bn [f, i, a, q, e] l).length : Int) f
theorem bp8 {O : OO} {c : Nat → Int} {no h0 h1 rt : Int} {l : List Cnd} {f i : Int} (hR : avn O c no h0 h1 rt l) (hf : iLt (ed (aj f i) l) 0 = false) : (f = 0 ∨ f = 1) ∧ ∃ y ∈ l, fr y = f ∧ idn y = i ∧ ∀ j, ak f i l j = y.getD j 0 := by
 obtain ⟨h1, k, hk, e1, e2, e3⟩ := agl (qo.2 hR) hf
 exact ⟨h1, l.getD k [], by rw [getD_at hk]; exact List.getElem_mem hk, e1, e2, e3⟩
end Go.Proofs.YtgekiddgdjeaiaaGreat
