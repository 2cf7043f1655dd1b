/- Sheet, plain: right states under the changes. -/
import Derived.Test.YtcdmmfelagbpdaaGreatSh6
namespace Go.Proofs.YtcdmmfelagbpdaaGreat
open Go.RowKit Go.Lib Ckp Cfd Cpd Sx
set_option linter.unusedVariables false
set_option linter.unusedSimpArgs false
theorem bz {b : Bool} {k x : Int} (h : (bif b then k else x) = 0) (hk : k ≠ 0) : b = false ∧ x = 0 := by
 cases b
 ·exact ⟨rfl, h⟩
 ·exact absurd h hk
theorem bor {a b : Bool} (h : (bif a then true else b) = false) : a = false ∧ b = false := by
 cases a
 ·exact ⟨rfl, h⟩
 ·cases h
theorem notf {a : Bool} (h : (!a) = false) : a = true := by cases a; cases h; rfl
theorem match_iff {f i : Int} {x : Cnd} : matchF f i x = true ↔ fr x = f ∧ idn x = i := by
 unfold matchF fr idn
 cases h1 : iBeq (x.getD 0 0) f with
 | false =>
  rw [iBeq_f] at h1
  simp only [cond_false]
  exact ⟨fun h => by (cases h), fun h => absurd h.1 h1⟩
 | true =>
  rw [iBeq_t] at h1
  simp only [cond_true, iBeq_t]
  exact ⟨fun h => ⟨h1, h⟩, fun h => h.2⟩
theorem idx_neg {f i : Int} {l : List Cnd} : iLt (idxS (matchF f i) l) 0 = true ↔ ∀ x ∈ l, ¬ (fr x = f ∧ idn x = i) := by
 unfold idxS
 cases hf : l.findIdx? (matchF f i) with
 | none =>
  rw [List.findIdx?_eq_none_iff] at hf
  exact ⟨fun _ x hx h => (by have := hf x hx; rw [match_iff.2 h] at this; cases this), fun _ => rfl⟩
 | some k =>
  rw [List.findIdx?_eq_some_iff_getElem] at hf
  obtain ⟨hk, h1, _⟩ := hf
  constructor
  ·intro h; rw [iLt_t] at h; simp only at h; omega
  ·intro h; exact absurd (match_iff.1 h1) (h _ (List.getElem_mem hk))
theorem ins_split {l : List Cnd} (h : l.Pairwise lt2) (q : Cnd) (hn : ∀ x ∈ l, ¬ (fr x = fr q ∧ idn x = idn q)) : ∃ A B, l = A ++ B ∧ insC q l = A ++ q :: B ∧ (∀ x ∈ A, lt2 x q) ∧ (∀ x ∈ B, lt2 q x) := by
 have hb := bs_sorted h q
 refine ⟨l.take (cntA q l), l.drop (cntA q l), (List.take_append_drop _ _).symm, ?_, ?_, ?_⟩
 ·unfold insC; rw [List.append_assoc]; rfl
 ·intro x hx
  obtain ⟨k, hk, rfl⟩ := List.getElem_of_mem hx
  simp only [List.length_take] at hk
  rw [List.getElem_take, ← getD_at (by omega)]
  exact (cmpX_lt _ _).1 ((bs_at hb (by omega)).2 (by omega))
 ·intro x hx
  obtain ⟨k, hk, rfl⟩ := List.getElem_of_mem hx
  simp only [List.length_drop] at hk
  rw [List.getElem_drop]
  have h1 : ¬ lt2 l[cntA q l + k] q := fun h' => by
   have := (bs_at hb (k := cntA q l + k) (by omega)).1 (by rw [getD_at (by omega)]; exact (cmpX_lt _ _).2 h')
   omega
  have h2 := hn _ (List.getElem_mem (show cntA q l + k < l.length by omega))
  unfold lt2 at h1 ⊢
  omega
theorem sumF_cons (k : Int) (x : Cnd) (l : List Cnd) : sumF k (x :: l) = (if fr x = k then amt x else 0) + sumF k l := by
 unfold sumF
 rw [List.filter_cons]
 by_cases h : fr x = k
 ·rw [if_pos h, if_pos (by simp [h]), sumA_cons]
 ·rw [if_neg h, if_neg (by simp [h])]; omega
theorem cntF_cons (k : Int) (x : Cnd) (l : List Cnd) : cntF k (x :: l) = (if fr x = k then 1 else 0) + cntF k l := by
 unfold cntF
 rw [List.filter_cons]
 by_cases h : fr x = k
 ·rw [if_pos h, if_pos (by simp [h]), List.length_cons]; omega
 ·rw [if_neg h, if_neg (by simp [h])]; omega
theorem fit_amt {O : OO} {c : Nat → Int} (h : iBne (fitO O c) 0 = false) : 1 ≤ c 33 ∧ c 33 ≤ 1125899906842624 := by
 have h : fitO O c = 0 := by simpa only [iBne_f] using h
 unfold fitO at h
 obtain ⟨h1, _⟩ := bz h (by decide)
 obtain ⟨h1, _⟩ := bor h1
 obtain ⟨h1, _⟩ := bor h1
 obtain ⟨h1, _⟩ := bor h1
 obtain ⟨h1, h2⟩ := bor h1
 rw [iLt_f] at h1 h2
 omega
theorem cost_bd {rt : Int} {n : Nat} (h : 0 ≤ rt ∧ rt ≤ 1000) (hn : n ≤ 16) : 0 ≤ rt * (68 + 8 * (n : Int)) ∧ rt * (68 + 8 * (n : Int)) ≤ 196000 := by
 have hb : rt * (68 + 8 * (n : Int)) ≤ 1000 * 196 := Int.mul_le_mul h.2 (by omega) (by omega) (by omega)
 exact ⟨Int.mul_nonneg h.1 (by omega), by omega⟩
theorem free_eq {c : Nat → Int} {h0 h1 rt side : Int} {n : Nat} (hh : 0 ≤ haveO h0 h1 side ∧ haveO h0 h1 side ≤ 1125899906842624) (hr : 0 ≤ rt ∧ rt ≤ 1000) (hn : n ≤ 16) : freeO c h0 h1 rt (n : Int) side = haveO h0 h1 side - (if side = c 56 then rt * (68 + 8 * n) + 660 else 0) := by
 have hb := cost_bd hr hn
 unfold freeO
 rw [cost_eq hr hn]
 by_cases h : side = c 56
 ·rw [show iBeq side (c 56) = true by rw [iBeq_t]; exact h, if_pos h, cond_true, wrap_in (by omega) (by omega)]
 ·rw [show iBeq side (c 56) = false by rw [iBeq_f]; exact h, if_neg h, cond_false]; omega
theorem have_le {h0 h1 side : Int} (a : 0 ≤ h0 ∧ h0 ≤ 1125899906842624) (b : 0 ≤ h1 ∧ h1 ≤ 1125899906842624) : 0 ≤ haveO h0 h1 side ∧ haveO h0 h1 side ≤ 1125899906842624 := by
 unfold haveO
 cases iBeq side 0
 ·exact b
 ·exact a
structure AddP (O : OO) (c : Nat → Int) (no h0 h1 rt : Int) (l : List Cnd) (f i a q e : Int) : Prop where
 side : f = 0 ∨ f = 1
 was : RightP O c no h0 h1 rt l
 fine : fineL O [f, i, a, q, e]
 new : ∀ x ∈ l, ¬ (fr x = f ∧ idn x = i)
 e0 : hsub f h0 a 0 = if f = 0 then h0 - a else h0
 e1 : hsub f h1 a 1 = if f = 1 then h1 - a else h1
 right : RightP O c no (hsub f h0 a 0) (hsub f h1 a 1) rt (insC [f, i, a, q, e] l)
 left : c (askI f 1) ≤ freeO c (hsub f h0 a 0) (hsub f h1 a 1) rt ((insC [f, i, a, q, e] l).length : Int) f
theorem add_right {O : OO} {c : Nat → Int} {no h0 h1 rt : Int} {l : List Cnd} {f i a q e : Int} (hE : addE O c no h0 h1 rt l f i a q e = 0) : AddP O c no h0 h1 rt l f i a q e := by
 unfold addE at hE
 obtain ⟨t1, hE⟩ := bz hE (by decide)
 obtain ⟨t1, t2⟩ := bor t1
 obtain ⟨t3, hE⟩ := bz hE (by decide)
 obtain ⟨t4, hE⟩ := bz hE (by decide)
 obtain ⟨t5, hE⟩ := bz hE (by decide)
 obtain ⟨t5, t6⟩ := bor t5
 obtain ⟨t7, hE⟩ := bz hE (by decide)
 obtain ⟨t8, hE⟩ := bz hE (by decide)
 obtain ⟨t9, hE⟩ := bz hE (by decide)
 obtain ⟨t10, hE⟩ := bz hE (by decide)
 have hR := right_iff'.1 (notf t1)
 have hF : fineL O [f, i, a, q, e] := (fineL_iff [f, i, a, q, e]).1 (notf t2)
 have hn := idx_neg.1 (notf t3)
 have hco := fine_coins hR.fine
 have hlen : l.length ≤ 15 := by rw [iLe_f] at t5; omega
 obtain ⟨A, B, eAB, eI, hA, hB⟩ := ins_split hR.sorted [f, i, a, q, e] hn
 have hf := hF.1
 have ha : 1 ≤ a ∧ a ≤ 1125899906842624 := hF.2.2.1
 have hf2 : f = 0 ∨ f = 1 := by have : fr [f, i, a, q, e] = f := rfl; omega
 have hle2 : (insC [f, i, a, q, e] l).length ≤ 16 := by rw [ins_len]; omega
 have sA := sumA_le hco
 have hsort : (insC [f, i, a, q, e] l).Pairwise lt2 := by
  have hs := hR.sorted
  rw [eI]
  rw [eAB, List.pairwise_append] at hs
  rw [List.pairwise_append, List.pairwise_cons]
  refine ⟨hs.1, ⟨hB, hs.2.1⟩, fun x hx y hy => ?_⟩
  rcases List.mem_cons.1 hy with rfl | hy
  ·exact hA x hx
  ·exact hs.2.2 x hx y hy
 have hmem : ∀ x ∈ insC [f, i, a, q, e] l, x = [f, i, a, q, e] ∨ x ∈ l := by
  intro x hx
  rw [eI] at hx
  rw [eAB]
  simp only [List.mem_append, List.mem_cons] at hx ⊢
  rcases hx with h | h | h
  ·exact .inr (.inl h)
  ·exact .inl h
  ·exact .inr (.inr h)
 have hsum : sumA (insC [f, i, a, q, e] l) = sumA l + a := by rw [eI, eAB, sumA_append, sumA_append, sumA_cons]; show sumA A + (a + sumA B) = _; omega
 have hsF : ∀ k, sumF k (insC [f, i, a, q, e] l) = sumF k l + (if f = k then a else 0) := fun k => by
  rw [eI, eAB, sumF_append, sumF_append, sumF_cons]
  show sumF k A + ((if f = k then a else 0) + sumF k B) = _; omega
 have hcF : ∀ k, cntF k (insC [f, i, a, q, e] l) = cntF k l + (if f = k then 1 else 0) := fun k => by
  rw [eI, eAB, cntF_append, cntF_append, cntF_cons]
  show cntF k A + ((if f = k then 1 else 0) + cntF k B) = _; omega
 have b0 := hR.bh0
 have b1 := hR.bh1
 have c33 := fit_amt hR.fit
 have htot := hR.tot
 rw [iLt_f] at t4 t7 t8 t9 t10
 rw [iLe_f] at t6
 have fin : ∀ x ∈ insC [f, i, a, q, e] l, leastF c f ≤ a → fineL O x ∧ leastF c (fr x) ≤ amt x := fun x hx h => by
  rcases hmem x hx with rfl | hx
  ·exact ⟨hF, h⟩
  ·exact hR.fine x hx
 have sl0 := sumF_le 0 hco
 have sl1 := sumF_le 1 hco
 rcases hf2 with rfl | rfl
 ·have w1 : IntKind.i64.wrap (1 - 0) = 1 := by decide
  rw [w1, offN_eq (.inr rfl) (by omega)] at t6
  rw [w1, offM_eq (.inr rfl) hco (by omega), wrap_in (by rw [show (1 - 1 : Int) = 0 from rfl]; omega) (by rw [show (1 - 1 : Int) = 0 from rfl]; omega)] at t7
  have t8 : ¬ h0 < a := t8
  have x0 : hsub 0 h0 a 0 = h0 - a := wrap_in (n := h0 - a) (by omega) (by omega)
  have x1 : hsub 0 h1 a 1 = h1 := rfl
  rw [x0, x1] at t9 t10
  have hh : ∀ s, 0 ≤ haveO (h0 - a) h1 s ∧ haveO (h0 - a) h1 s ≤ 1125899906842624 := fun s => have_le (by omega) b1
  refine ⟨.inl rfl, hR, hF, hn, by rw [x0, if_pos rfl], by rw [x1, if_neg (by decide)], ?_, by rw [x0, x1]; omega⟩
  rw [x0, x1]
  rw [free_eq (hh _) hR.brt hle2, if_pos rfl] at t9
  have s1 := hR.s1
  have n1 := hR.n1
  refine ⟨hR.fit, hR.bno, by omega, b1, hR.brt, hle2, fun x hx => fin x hx (by show c 54 ≤ a; have t4 : ¬ a < c 54 := t4; omega), hsort, ?_, ?_, ?_, ?_, ?_, by omega⟩
  ·rw [hcF, if_neg (by decide)]; omega
  ·rw [hsF, if_neg (by decide)]; omega
  ·rw [hcF, if_pos rfl]; have t6 : ¬ c 53 ≤ (cntF (1 - 1) l : Int) := t6; rw [show (1 - 1 : Int) = 0 from rfl] at t6; omega
  ·rw [hsF, if_pos rfl]; have t7 : ¬ c 55 < sumF (1 - 1) l + a := t7; rw [show (1 - 1 : Int) = 0 from rfl] at t7; omega
  ·rw [hsum]; omega
 ·have w1 : IntKind.i64.wrap (1 - 1) = 0 := by decide
  rw [w1, offN_eq (.inl rfl) (by omega)] at t6
  rw [w1, offM_eq (.inl rfl) hco (by omega), wrap_in (by rw [show (1 - 0 : Int) = 1 from rfl]; omega) (by rw [show (1 - 0 : Int) = 1 from rfl]; omega)] at t7
  have t8 : ¬ h1 < a := t8
  have x0 : hsub 1 h0 a 0 = h0 := rfl
  have x1 : hsub 1 h1 a 1 = h1 - a := wrap_in (n := h1 - a) (by omega) (by omega)
  rw [x0, x1] at t9 t10
  have hh : ∀ s, 0 ≤ haveO h0 (h1 - a) s ∧ haveO h0 (h1 - a) s ≤ 1125899906842624 := fun s => have_le b0 (by omega)
  refine ⟨.inr rfl, hR, hF, hn, by rw [x0, if_neg (by decide)], by rw [x1, if_pos rfl], ?_, by rw [x0, x1]; omega⟩
  rw [x0, x1]
  rw [free_eq (hh _) hR.brt hle2, if_pos rfl] at t9
  have s0 := hR.s0
  have n0 := hR.n0
  refine ⟨hR.fit, hR.bno, b0, by omega, hR.brt, hle2, fun x hx => fin x hx (by show c 48 ≤ a; have t4 : ¬ a < c 48 := t4; omega), hsort, ?_, ?_, ?_, ?_, ?_, by omega⟩
  ·rw [hcF, if_pos rfl]; have t6 : ¬ c 47 ≤ (cntF (1 - 0) l : Int) := t6; rw [show (1 - 0 : Int) = 1 from rfl] at t6; omega
  ·rw [hsF, if_pos rfl]; have t7 : ¬ c 49 < sumF (1 - 0) l + a := t7; rw [show (1 - 0 : Int) = 1 from rfl] at t7; omega
  ·rw [hcF, if_neg (by decide)]; omega
  ·rw [hsF, if_neg (by decide)]; omega
  ·rw [hsum]; omega
theorem found_y {O : OO} {c : Nat → Int} {no h0 h1 rt : Int} {l : List Cnd} {f i : Int} (hR : RightP O c no h0 h1 rt l) (hf : iLt (idxS (matchF f i) l) 0 = false) : (f = 0 ∨ f = 1) ∧ ∃ y ∈ l, fr y = f ∧ idn y = i ∧ ∀ j, findC f i l j = y.getD j 0 := by
 obtain ⟨h1, k, hk, e1, e2, e3⟩ := found_fr (right_iff'.2 hR) hf
 exact ⟨h1, l.getD k [], by rw [getD_at hk]; exact List.getElem_mem hk, e1, e2, e3⟩
end Go.Proofs.YtcdmmfelagbpdaaGreat
