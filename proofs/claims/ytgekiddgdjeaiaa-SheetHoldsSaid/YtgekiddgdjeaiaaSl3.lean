/- Sheet, plain: what the laws say of the changes. -/
import Derived.Test.YtgekiddgdjeaiaaSl2
import Derived.Test.YtgekiddgdjeaiaaSh7
namespace Go.Proofs.Ytgekiddgdjeaiaa
open Go.RowKit Go.Lib Ckp Cfd Cpd Sx
set_option linter.unusedVariables false
set_option linter.unusedSimpArgs false
theorem few_len {h0 h1 rt : Int} {l : List Cnd} (h : (!fewB h0 h1 rt l) = false) : l.length ≤ 20 := by
 have h := notf h
 unfold fewB at h
 rcases Nat.lt_or_ge 20 l.length with hl | hl
 ·rw [show iLt 20 (l.length : Int) = true by rw [iLt_t]; omega] at h
  simp at h
 ·exact hl
theorem cnd_iff {l : List Cnd} : cnd l = true ↔ ∀ x ∈ l, (inU (x.getD 3 0) 18446744073709551616 && Nat.beq x.length 5) = true := by unfold cnd; exact List.all_eq_true
theorem cnd_ins {f i a q e : Int} {l : List Cnd} (g1 : cnd l = true) (hq : inU q 18446744073709551616 = true) : cnd (insC [f, i, a, q, e] l) = true := by
 rw [cnd_iff] at g1 ⊢
 intro x hx
 unfold insC at hx
 rw [List.append_assoc] at hx
 rcases List.mem_append.1 hx with h | h
 ·exact g1 x (List.mem_of_mem_take h)
 ·rcases List.mem_append.1 h with h | h
  ·rw [List.mem_singleton] at h
   subst h
   show (inU q _ && true) = true
   rw [hq]; rfl
  ·exact g1 x (List.mem_of_mem_drop h)
theorem cnd_rem {q : Cnd} {l : List Cnd} (g1 : cnd l = true) : cnd (remC q l) = true := by
 rw [cnd_iff] at g1 ⊢
 exact fun x hx => g1 x (List.mem_filter.1 hx).1
theorem add_found {O : OO} {c : Nat → Int} {no h0 h1 rt : Int} {l : List Cnd} {f i a q e : Int} (A : AddP O c no h0 h1 rt l f i a q e) : iLt (idxS (matchF f i) (insC [f, i, a, q, e] l)) 0 = false ∧ (∀ j, findC f i (insC [f, i, a, q, e] l) j = ([f, i, a, q, e] : Cnd).getD j 0) ∧ remC [f, i, a, q, e] (insC [f, i, a, q, e] l) = l := by
 obtain ⟨X, Y, e1, e2, hX, hY⟩ := ins_split A.was.sorted [f, i, a, q, e] A.new
 have hq : ([f, i, a, q, e] : Cnd) ∈ insC [f, i, a, q, e] l := by rw [e2]; simp
 have hi : iLt (idxS (matchF f i) (insC [f, i, a, q, e] l)) 0 = false := by
  cases h : iLt (idxS (matchF f i) (insC [f, i, a, q, e] l)) 0 with
  | false => rfl
  | true => exact absurd ⟨rfl, rfl⟩ (idx_neg.1 h _ hq)
 refine ⟨hi, ?_, ?_⟩
 ·obtain ⟨_, y, hy, k1, k2, k3⟩ := found_y A.right hi
  have : y = [f, i, a, q, e] := sorted_key A.right.sorted hy hq k1 k2
  intro j
  rw [k3 j, this]
 ·rw [e2, rem_app, rem_cons_t ⟨rfl, rfl⟩, rem_id, rem_id]
  ·exact e1.symm
  ·exact fun x hx => A.new x (by rw [e1]; exact List.mem_append_right _ hx)
  ·exact fun x hx => A.new x (by rw [e1]; exact List.mem_append_left _ hx)
theorem ins_sumF {l : List Cnd} (h : l.Pairwise lt2) (q : Cnd) (hn : ∀ x ∈ l, ¬ (fr x = fr q ∧ idn x = idn q)) (k : Int) : sumF k (insC q l) = sumF k l + if fr q = k then amt q else 0 := by
 obtain ⟨X, Y, e1, e2, hX, hY⟩ := ins_split h q hn
 rw [e2]; rw [e1]; rw [sumF_append, sumF_append, sumF_cons]; omega
theorem rem_sumF {l : List Cnd} (h : l.Pairwise lt2) {y q : Cnd} (hy : y ∈ l) (e : fr y = fr q ∧ idn y = idn q) (k : Int) : sumF k l = sumF k (remC q l) + if fr y = k then amt y else 0 := by
 obtain ⟨X, Y, e1, e2, hX, hY⟩ := rem_key h hy e
 rw [e2]; rw [e1]; rw [sumF_append, sumF_append, sumF_cons]; omega
theorem worth_0 {O : OO} {c : Nat → Int} {no h0 h1 rt : Int} {l : List Cnd} (hR : RightP O c no h0 h1 rt l) : (bif !(allW 0 1 [0]) then 0 else IntKind.i64.wrap (haveO h0 h1 0 + offM (IntKind.i64.wrap (1 - 0)) l)) = h0 + sumF 0 l := by
 have hc := fine_coins hR.fine
 have hl := hR.len
 have s1 := sumF_le 0 hc
 have s2 := (sumA_le hc).2
 have b := hR.bh0
 rw [show allW 0 1 [0] = true from rfl, show IntKind.i64.wrap (1 - 0) = 1 by decide, offM_eq (.inr rfl) hc (by omega), show haveO h0 h1 0 = h0 from rfl]
 simp only [Bool.not_true, cond_false]
 rw [show (1 - 1 : Int) = 0 from rfl, wrap_in (by omega) (by omega)]
theorem worth_1 {O : OO} {c : Nat → Int} {no h0 h1 rt : Int} {l : List Cnd} (hR : RightP O c no h0 h1 rt l) : (bif !(allW 0 1 [1]) then 0 else IntKind.i64.wrap (haveO h0 h1 1 + offM (IntKind.i64.wrap (1 - 1)) l)) = h1 + sumF 1 l := by
 have hc := fine_coins hR.fine
 have hl := hR.len
 have s1 := sumF_le 1 hc
 have s2 := (sumA_le hc).2
 have b := hR.bh1
 rw [show allW 0 1 [1] = true from rfl, show IntKind.i64.wrap (1 - 1) = 0 by decide, offM_eq (.inl rfl) hc (by omega), show haveO h0 h1 1 = h1 from rfl]
 simp only [Bool.not_true, cond_false]
 rw [show (1 - 0 : Int) = 1 from rfl, wrap_in (by omega) (by omega)]
/-- A settled condition. -/
structure GoneP (O : OO) (c : Nat → Int) (no h0 h1 rt : Int) (l : List Cnd) (f i : Int) (y : Cnd) : Prop where
 side : f = 0 ∨ f = 1
 was : RightP O c no h0 h1 rt l
 mem : y ∈ l
 kf : fr y = f
 ki : idn y = i
 fd : ∀ j, findC f i l j = y.getD j 0
 idx : iLt (idxS (matchF f i) l) 0 = false
 key : fr y = fr [findC f i l 0, findC f i l 1, findC f i l 2, findC f i l 3, findC f i l 4] ∧ idn y = idn [findC f i l 0, findC f i l 1, findC f i l 2, findC f i l 3, findC f i l 4]
 s0 : ∀ n, 0 ≤ n → n ≤ 1125899906842624 → IntKind.i64.wrap (n + amt y) = n + amt y
theorem fail_gone {O : OO} {c : Nat → Int} {no h0 h1 rt : Int} {l : List Cnd} {f i : Int} (hR : rightO O c no h0 h1 rt l = true) (hi : iLt (idxS (matchF f i) l) 0 = false) : ∃ y, GoneP O c no h0 h1 rt l f i y := by
 have hR := right_iff'.1 hR
 obtain ⟨hs, y, hy, k1, k2, k3⟩ := found_y hR hi
 have ha := fine_coins hR.fine y hy
 refine ⟨y, hs, hR, hy, k1, k2, k3, hi, ?_, fun n h1 h2 => wrap_in (by omega) (by omega)⟩
 rw [k3, k3, k3, k3, k3]
 exact ⟨rfl, rfl⟩
/-- An act that went well. -/
structure DoneQ (O : OO) (c : Nat → Int) (no h0 h1 rt : Int) (l : List Cnd) (d f i k : Int) (H0 H1 RT : Int) (L : List Cnd) : Prop where
 was : RightP O c no h0 h1 rt l
 now : RightP O c no H0 H1 RT L
 moved : iBne (actK d) 1 = true → H0 + sumF 0 L = h0 + sumF 0 l ∧ H1 + sumF 1 L = h1 + sumF 1 l
 set : iBne (actK d) 1 = false → (f = 0 ∨ f = 1) ∧ iLt (idxS (matchF f i) l) 0 = false ∧ iLt (idxS (matchF f i) L) 0 = true ∧ O.pbase k = findC f i l 3 ∧ findC f i l 0 = f ∧ (1 ≤ findC f i l 2 ∧ findC f i l 2 ≤ 1125899906842624) ∧
  (f = 0 → H0 + sumF 0 L = h0 + sumF 0 l - findC f i l 2 ∧ H1 + sumF 1 L = h1 + sumF 1 l + findC f i l 2) ∧
  (f = 1 → H0 + sumF 0 L = h0 + sumF 0 l + findC f i l 2 ∧ H1 + sumF 1 L = h1 + sumF 1 l - findC f i l 2)
theorem done_right {O : OO} {c : Nat → Int} {no h0 h1 rt : Int} {l : List Cnd} {d f i a q e k r : Int} (hc : chB (chA c) = true) (hE : dE O c no h0 h1 rt l d f i a q e k r = 0) : DoneQ O c no h0 h1 rt l d f i k (dH0 h0 l d f i a) (dH1 h1 l d f i a) (dRt rt d r) (dL l d f i a q e) := by
 unfold dE at hE
 cases a0 : iBeq (actK d) 0 with
 | true =>
  rw [a0, cond_true] at hE
  have A := add_right hE
  have d0 : dH0 h0 l d f i a = hsub f h0 a 0 := by unfold dH0; rw [a0]; rfl
  have d1 : dH1 h1 l d f i a = hsub f h1 a 1 := by unfold dH1; rw [a0]; rfl
  have d2 : dRt rt d r = rt := by unfold dRt; rw [a0]; rfl
  have d3 : dL l d f i a q e = insC [f, i, a, q, e] l := by unfold dL; rw [a0]; rfl
  have n1 : iBne (actK d) 1 = true := by rw [iBeq_t] at a0; rw [iBne_t, a0]; decide
  have s0 := ins_sumF A.was.sorted [f, i, a, q, e] A.new 0
  have s1 := ins_sumF A.was.sorted [f, i, a, q, e] A.new 1
  have e0 := A.e0
  have e1 := A.e1
  have hfr : fr [f, i, a, q, e] = f := rfl
  have ham : amt [f, i, a, q, e] = a := rfl
  rw [hfr, ham] at s0 s1
  rw [d0, d1, d2, d3]
  refine ⟨A.was, A.right, fun _ => ?_, fun h => (by rw [n1] at h; cases h)⟩
  rcases A.side with rfl | rfl
  ·rw [if_pos rfl] at e0 s0; rw [if_neg (by decide)] at e1 s1; omega
  ·rw [if_neg (by decide)] at e0 s0; rw [if_pos rfl] at e1 s1; omega
 | false =>
  rw [a0, cond_false] at hE
  cases a1 : iBeq (actK d) 1 with
  | true =>
   rw [a1, cond_true] at hE
   unfold setE at hE
   obtain ⟨t1, hE⟩ := bz hE (by decide)
   obtain ⟨t2, hE⟩ := bz hE (by decide)
   obtain ⟨t3, _⟩ := bz hE (by decide)
   obtain ⟨y, G⟩ := fail_gone (notf t1) t2
   have d0 : dH0 h0 l d f i a = hadd f h0 (findC f i l 2) 1 := by unfold dH0; rw [a0, a1]; rfl
   have d1 : dH1 h1 l d f i a = hadd f h1 (findC f i l 2) 0 := by unfold dH1; rw [a0, a1]; rfl
   have d2 : dRt rt d r = rt := by unfold dRt; rw [a0, a1]; rfl
   have d3 : dL l d f i a q e = remC [findC f i l 0, findC f i l 1, findC f i l 2, findC f i l 3, findC f i l 4] l := by unfold dL; rw [a0, a1]; rfl
   have n1 : iBne (actK d) 1 = false := by rw [iBeq_t] at a1; rw [iBne_f]; exact a1
   have s0 := rem_sumF G.was.sorted G.mem G.key 0
   have s1 := rem_sumF G.was.sorted G.mem G.key 1
   have hy := fine_coins G.was.fine y G.mem
   have f2 : findC f i l 2 = amt y := G.fd 2
   have b0 := G.was.bh0
   have b1 := G.was.bh1
   rw [G.kf] at s0 s1
   have hneg : iLt (idxS (matchF f i) (remC [findC f i l 0, findC f i l 1, findC f i l 2, findC f i l 3, findC f i l 4] l)) 0 = true := by
    rw [idx_neg]
    intro x hx hk
    have hm := List.mem_filter.1 hx
    have : isC [findC f i l 0, findC f i l 1, findC f i l 2, findC f i l 3, findC f i l 4] x = true := by
     rw [isC_iff, ← G.key.1, ← G.key.2, G.kf, G.ki]; exact hk
    rw [this] at hm
    exact absurd hm.2 (by decide)
   have hp : O.pbase k = findC f i l 3 := by simpa only [iBne_f] using t3
   rw [d0, d1, d2, d3]
   have side := G.side
   rcases side with rfl | rfl
   ·have x0 : hadd 0 h0 (findC 0 i l 2) 1 = h0 := rfl
    have x1 : hadd 0 h1 (findC 0 i l 2) 0 = h1 + amt y := by rw [f2]; exact G.s0 h1 b1.1 b1.2
    rw [x0, x1]
    rw [if_pos rfl] at s0; rw [if_neg (by decide)] at s1
    refine ⟨G.was, rem_right G.was G.mem G.key (.inr ⟨rfl, rfl⟩), fun h => (by rw [n1] at h; cases h), fun _ => ⟨.inl rfl, t2, hneg, hp, (G.fd 0).trans G.kf, by rw [f2]; exact hy, fun _ => ?_, fun h => absurd h (by decide)⟩⟩
    omega
   ·have x0 : hadd 1 h0 (findC 1 i l 2) 1 = h0 + amt y := by rw [f2]; exact G.s0 h0 b0.1 b0.2
    have x1 : hadd 1 h1 (findC 1 i l 2) 0 = h1 := rfl
    rw [x0, x1]
    rw [if_neg (by decide)] at s0; rw [if_pos rfl] at s1
    refine ⟨G.was, rem_right G.was G.mem G.key (.inl ⟨rfl, rfl⟩), fun h => (by rw [n1] at h; cases h), fun _ => ⟨.inr rfl, t2, hneg, hp, (G.fd 0).trans G.kf, by rw [f2]; exact hy, fun h => absurd h (by decide), fun _ => ?_⟩⟩
    omega
  | false =>
   rw [a1, cond_false] at hE
   have n1 : iBne (actK d) 1 = true := by rw [iBeq_f] at a1; rw [iBne_t]; exact a1
   cases a2 : iBeq (actK d) 2 with
   | true =>
    rw [a2, cond_true] at hE
    unfold failE at hE
    obtain ⟨t1, hE⟩ := bz hE (by decide)
    obtain ⟨t2, hE⟩ := bz hE (by decide)
    obtain ⟨y, G⟩ := fail_gone (notf t1) t2
    have d0 : dH0 h0 l d f i a = hadd f h0 (findC f i l 2) 0 := by unfold dH0; rw [a0, a1, a2]; rfl
    have d1 : dH1 h1 l d f i a = hadd f h1 (findC f i l 2) 1 := by unfold dH1; rw [a0, a1, a2]; rfl
    have d2 : dRt rt d r = rt := by unfold dRt; rw [a0, a1, a2]; rfl
    have d3 : dL l d f i a q e = remC [findC f i l 0, findC f i l 1, findC f i l 2, findC f i l 3, findC f i l 4] l := by unfold dL; rw [a0, a1, a2]; rfl
    have s0 := rem_sumF G.was.sorted G.mem G.key 0
    have s1 := rem_sumF G.was.sorted G.mem G.key 1
    have f2 : findC f i l 2 = amt y := G.fd 2
    have b0 := G.was.bh0
    have b1 := G.was.bh1
    rw [G.kf] at s0 s1
    rw [d0, d1, d2, d3]
    have side := G.side
    rcases side with rfl | rfl
    ·have x1 : hadd 0 h1 (findC 0 i l 2) 1 = h1 := rfl
     have x0 : hadd 0 h0 (findC 0 i l 2) 0 = h0 + amt y := by rw [f2]; exact G.s0 h0 b0.1 b0.2
     rw [x0, x1]
     rw [if_pos rfl] at s0; rw [if_neg (by decide)] at s1
     exact ⟨G.was, rem_right G.was G.mem G.key (.inl ⟨rfl, rfl⟩), fun h => (by omega), fun h => (by rw [n1] at h; cases h)⟩
    ·have x1 : hadd 1 h1 (findC 1 i l 2) 1 = h1 + amt y := by rw [f2]; exact G.s0 h1 b1.1 b1.2
     have x0 : hadd 1 h0 (findC 1 i l 2) 0 = h0 := rfl
     rw [x0, x1]
     rw [if_neg (by decide)] at s0; rw [if_pos rfl] at s1
     exact ⟨G.was, rem_right G.was G.mem G.key (.inr ⟨rfl, rfl⟩), fun h => (by omega), fun h => (by rw [n1] at h; cases h)⟩
   | false =>
    rw [a2, cond_false] at hE
    unfold rateE at hE
    obtain ⟨t1, hE⟩ := bz hE (by decide)
    obtain ⟨t1, t2⟩ := bor t1
    obtain ⟨t3, hE⟩ := bz hE (by decide)
    have hR := right_iff'.1 (notf t1)
    have hr := allW_one.1 (notf t2)
    have d0 : dH0 h0 l d f i a = h0 := by unfold dH0; rw [a0, a1, a2]; rfl
    have d1 : dH1 h1 l d f i a = h1 := by unfold dH1; rw [a0, a1, a2]; rfl
    have d2 : dRt rt d r = r := by unfold dRt; rw [a0, a1, a2]; rfl
    have d3 : dL l d f i a q e = l := by unfold dL; rw [a0, a1, a2]; rfl
    rw [iLt_f, free_eq (have_le hR.bh0 hR.bh1) hr hR.len, if_pos rfl] at t3
    rw [d0, d1, d2, d3]
    exact ⟨hR, ⟨hR.fit, hR.bno, hR.bh0, hR.bh1, hr, hR.len, hR.fine, hR.sorted, hR.n1, hR.s1, hR.n0, hR.s0, hR.tot, by omega⟩, fun _ => ⟨rfl, rfl⟩, fun h => (by rw [n1] at h; cases h)⟩
end Go.Proofs.Ytgekiddgdjeaiaa
