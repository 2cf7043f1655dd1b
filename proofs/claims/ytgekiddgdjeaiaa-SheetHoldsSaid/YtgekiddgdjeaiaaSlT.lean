/- Sheet, plain: two acts on unlike conditions. -/
import Derived.Test.YtgekiddgdjeaiaaSl3
namespace Go.Proofs.Ytgekiddgdjeaiaa
open Go.RowKit Go.Lib Ckp Cfd Cpd Sx
set_option linter.unusedVariables false
set_option linter.unusedSimpArgs false
theorem lt2_irr {x y : Cnd} (h : lt2 x y) (k : lt2 y x) : False := by unfold lt2 at *; omega
/-- Sorted lists of the same members are the same. -/
theorem sorted_ext : ∀ {l m : List Cnd}, l.Pairwise lt2 → m.Pairwise lt2 → (∀ x, x ∈ l ↔ x ∈ m) → l = m
 | [], [], _, _, _ => rfl
 | [], y :: m, _, _, h => by have := (h y).2 (List.mem_cons_self ..); cases this
 | x :: l, [], _, _, h => by have := (h x).1 (List.mem_cons_self ..); cases this
 | x :: l, y :: m, hl, hm, h => by
  rw [List.pairwise_cons] at hl hm
  have e : x = y := by
   rcases List.mem_cons.1 ((h x).1 (List.mem_cons_self ..)) with h1 | h1
   ·exact h1
   ·rcases List.mem_cons.1 ((h y).2 (List.mem_cons_self ..)) with h2 | h2
    ·exact h2.symm
    ·exact (lt2_irr (hm.1 x h1) (hl.1 y h2)).elim
  subst e
  rw [sorted_ext hl.2 hm.2 fun z => ?_]
  constructor
  ·intro hz
   rcases List.mem_cons.1 ((h z).1 (List.mem_cons_of_mem _ hz)) with rfl | h1
   ·exact (lt2_irr (hl.1 z hz) (hl.1 z hz)).elim
   ·exact h1
  ·intro hz
   rcases List.mem_cons.1 ((h z).2 (List.mem_cons_of_mem _ hz)) with rfl | h1
   ·exact (lt2_irr (hm.1 z hz) (hm.1 z hz)).elim
   ·exact h1
def mv0 (t f m : Int) : Int := if t = 0 then (if f = 0 then -m else 0) else if t = 1 then (if f = 0 then 0 else m) else (if f = 0 then m else 0)
def mv1 (t f m : Int) : Int := if t = 0 then (if f = 0 then 0 else -m) else if t = 1 then (if f = 0 then m else 0) else (if f = 0 then 0 else m)
theorem mem_ins {l : List Cnd} (h : l.Pairwise lt2) {q : Cnd} (hn : ∀ x ∈ l, ¬ (fr x = fr q ∧ idn x = idn q)) (x : Cnd) : x ∈ insC q l ↔ x = q ∨ x ∈ l := by
 obtain ⟨A, B, e1, e2, _, _⟩ := ins_split h q hn
 rw [e2]; rw [e1]
 simp only [List.mem_append, List.mem_cons]
 constructor
 ·rintro (h | h | h)
  ·exact .inr (.inl h)
  ·exact .inl h
  ·exact .inr (.inr h)
 ·rintro (h | h | h)
  ·exact .inr (.inl h)
  ·exact .inl h
  ·exact .inr (.inr h)
theorem mem_rem {l : List Cnd} {q : Cnd} (x : Cnd) : x ∈ remC q l ↔ x ∈ l ∧ ¬ (fr x = fr q ∧ idn x = idn q) := by
 unfold remC
 rw [List.mem_filter, ← isC_iff]
 cases isC q x <;> simp
theorem actK_bd (d : Int) : 0 ≤ actK d ∧ actK d ≤ 3 := by
 unfold actK
 have h : (BitVec.ofInt 64 d &&& BitVec.ofNat 64 3).toNat ≤ 3 := by
  rw [BitVec.toNat_and]
  exact Nat.and_le_right
 generalize (BitVec.ofInt 64 d &&& BitVec.ofNat 64 3).toNat = n at *
 rw [wrap_in (by omega) (by omega)]
 omega
/-- An act that adds, settles or fails. -/
structure ActP (O : OO) (c : Nat → Int) (no h0 h1 rt : Int) (l : List Cnd) (d f i a q e k : Int) (H0 H1 RT : Int) (L : List Cnd) : Prop where
 was : RightP O c no h0 h1 rt l
 now : RightP O c no H0 H1 RT L
 ert : RT = rt
 how : ∃ m, H0 = h0 + mv0 (actK d) f m ∧ H1 = h1 + mv1 (actK d) f m ∧ ((actK d = 0 ∧ m = a ∧ ∀ x, x ∈ L ↔ x = [f, i, a, q, e] ∨ x ∈ l) ∨ (actK d ≠ 0 ∧ ∃ y ∈ l, fr y = f ∧ idn y = i ∧ m = amt y ∧ ∀ x, x ∈ L ↔ x ∈ l ∧ ¬ (fr x = f ∧ idn x = i)))
theorem done_act {O : OO} {c : Nat → Int} {no h0 h1 rt : Int} {l : List Cnd} {d f i a q e k r : Int} (hc : chB (chA c) = true) (hE : dE O c no h0 h1 rt l d f i a q e k r = 0) (h3 : actK d ≠ 3) : ActP O c no h0 h1 rt l d f i a q e k (dH0 h0 l d f i a) (dH1 h1 l d f i a) (dRt rt d r) (dL l d f i a q e) := by
 have D := done_right hc hE
 have hw := D.was
 have b0 := hw.bh0
 have b1 := hw.bh1
 have hk := actK_bd d
 unfold dE at hE
 by_cases a0 : actK d = 0
 ·have z0 : iBeq (actK d) 0 = true := by rw [iBeq_t]; exact a0
  rw [z0, cond_true] at hE
  have A := add_right hE
  have d0 : dH0 h0 l d f i a = hsub f h0 a 0 := by unfold dH0; rw [z0]; rfl
  have d1 : dH1 h1 l d f i a = hsub f h1 a 1 := by unfold dH1; rw [z0]; rfl
  have d2 : dRt rt d r = rt := by unfold dRt; rw [z0]; rfl
  have d3 : dL l d f i a q e = insC [f, i, a, q, e] l := by unfold dL; rw [z0]; rfl
  refine ⟨D.was, D.now, d2, a, ?_, ?_, .inl ⟨a0, rfl, ?_⟩⟩
  ·rw [d0, A.e0, a0]; unfold mv0; rcases A.side with rfl | rfl <;> simp <;> omega
  ·rw [d1, A.e1, a0]; unfold mv1; rcases A.side with rfl | rfl <;> simp <;> omega
  ·rw [d3]; exact mem_ins D.was.sorted A.new
 ·have z0 : iBeq (actK d) 0 = false := by rw [iBeq_f]; exact a0
  rw [z0, cond_false] at hE
  by_cases a1 : actK d = 1
  ·have z1 : iBeq (actK d) 1 = true := by rw [iBeq_t]; exact a1
   rw [z1, cond_true] at hE
   unfold setE at hE
   obtain ⟨t1, hE⟩ := bz hE (by decide)
   obtain ⟨t2, hE⟩ := bz hE (by decide)
   obtain ⟨t3, _⟩ := bz hE (by decide)
   obtain ⟨y, G⟩ := fail_gone (notf t1) t2
   have d0 : dH0 h0 l d f i a = hadd f h0 (findC f i l 2) 1 := by unfold dH0; rw [z0, z1]; rfl
   have d1 : dH1 h1 l d f i a = hadd f h1 (findC f i l 2) 0 := by unfold dH1; rw [z0, z1]; rfl
   have d2 : dRt rt d r = rt := by unfold dRt; rw [z0, z1]; rfl
   have d3 : dL l d f i a q e = remC [findC f i l 0, findC f i l 1, findC f i l 2, findC f i l 3, findC f i l 4] l := by unfold dL; rw [z0, z1]; rfl
   have f2 : findC f i l 2 = amt y := G.fd 2
   refine ⟨D.was, D.now, d2, amt y, ?_, ?_, .inr ⟨a0, y, G.mem, G.kf, G.ki, rfl, fun x => ?_⟩⟩
   ·rw [d0, a1, f2]
    rcases G.side with rfl | rfl
    ·show h0 = h0 + 0; omega
    ·exact G.s0 h0 b0.1 b0.2
   ·rw [d1, a1, f2]
    rcases G.side with rfl | rfl
    ·exact G.s0 h1 b1.1 b1.2
    ·show h1 = h1 + 0; omega
   ·rw [d3, mem_rem, ← G.key.1, ← G.key.2, G.kf, G.ki]
  ·have z1 : iBeq (actK d) 1 = false := by rw [iBeq_f]; exact a1
   have a2 : actK d = 2 := by omega
   have z2 : iBeq (actK d) 2 = true := by rw [iBeq_t]; exact a2
   rw [z1, cond_false, z2, cond_true] at hE
   unfold failE at hE
   obtain ⟨t1, hE⟩ := bz hE (by decide)
   obtain ⟨t2, hE⟩ := bz hE (by decide)
   obtain ⟨y, G⟩ := fail_gone (notf t1) t2
   have d0 : dH0 h0 l d f i a = hadd f h0 (findC f i l 2) 0 := by unfold dH0; rw [z0, z1, z2]; rfl
   have d1 : dH1 h1 l d f i a = hadd f h1 (findC f i l 2) 1 := by unfold dH1; rw [z0, z1, z2]; rfl
   have d2 : dRt rt d r = rt := by unfold dRt; rw [z0, z1, z2]; rfl
   have d3 : dL l d f i a q e = remC [findC f i l 0, findC f i l 1, findC f i l 2, findC f i l 3, findC f i l 4] l := by unfold dL; rw [z0, z1, z2]; rfl
   have f2 : findC f i l 2 = amt y := G.fd 2
   refine ⟨D.was, D.now, d2, amt y, ?_, ?_, .inr ⟨a0, y, G.mem, G.kf, G.ki, rfl, fun x => ?_⟩⟩
   ·rw [d0, a2, f2]
    rcases G.side with rfl | rfl
    ·exact G.s0 h0 b0.1 b0.2
    ·show h0 = h0 + 0; omega
   ·rw [d1, a2, f2]
    rcases G.side with rfl | rfl
    ·show h1 = h1 + 0; omega
    ·exact G.s0 h1 b1.1 b1.2
   ·rw [d3, mem_rem, ← G.key.1, ← G.key.2, G.kf, G.ki]
theorem cnd_dL {l : List Cnd} {d f i a q e : Int} (g1 : cnd l = true) (hq : inU q 18446744073709551616 = true) : cnd (dL l d f i a q e) = true := by
 unfold dL
 cases iBeq (actK d) 0
 ·cases iBeq (actK d) 1
  ·cases iBeq (actK d) 2
   ·exact g1
   ·exact cnd_rem g1
  ·exact cnd_rem g1
 ·exact cnd_ins g1 hq
section
variable {O : OO} {c : Nat → Int} {no h0 h1 rt : Int} {l : List Cnd} {d f i a q e k d' f' i' a' q' e' k' H0 H1 RT H0' H1' RT' : Int} {L L' : List Cnd}
/-- What is found of an unlike condition is the same. -/
theorem act_mem (A : ActP O c no h0 h1 rt l d f i a q e k H0 H1 RT L) {f' i' : Int} (hne : ¬ (f = f' ∧ i = i')) {y : Cnd} (hy : fr y = f' ∧ idn y = i') : y ∈ L ↔ y ∈ l := by
 obtain ⟨m, _, _, h | h⟩ := A.how
 ·rw [h.2.2]
  refine ⟨fun h => h.resolve_left fun e => ?_, .inr⟩
  subst e
  exact hne hy
 ·obtain ⟨_, z, _, _, _, _, hx⟩ := h
  rw [hx]
  refine ⟨fun h => h.1, fun h => ⟨h, fun e => hne ?_⟩⟩
  omega
/-- What is taken is there still, behind an act on an unlike condition. -/
theorem act_again {r' : Int} (A : ActP O c no h0 h1 rt l d f i a q e k H0 H1 RT L) (hE : dE O c no h0 h1 rt l d' f' i' a' q' e' k' r' = 0) (hne : ¬ (f = f' ∧ i = i')) (n0 : actK d' ≠ 0) (n3 : actK d' ≠ 3) : dE O c no H0 H1 RT L d' f' i' a' q' e' k' r' = 0 := by
 have hk := actK_bd d'
 have key : ∀ {y : Cnd}, y ∈ l → fr y = f' → idn y = i' → (∀ j, findC f' i' l j = y.getD j 0) → iLt (idxS (matchF f' i') L) 0 = false ∧ findC f' i' L 3 = findC f' i' l 3 := fun {y} hy k1 k2 k3 => by
  have hyL := (act_mem A hne ⟨k1, k2⟩).2 hy
  have hi : iLt (idxS (matchF f' i') L) 0 = false := by
   cases h : iLt (idxS (matchF f' i') L) 0 with
   | false => rfl
   | true => exact absurd ⟨k1, k2⟩ (idx_neg.1 h _ hyL)
  obtain ⟨_, z, hz, z1, z2, z3⟩ := found_y A.now hi
  have : z = y := sorted_key A.now.sorted hz hyL (z1.trans k1.symm) (z2.trans k2.symm)
  exact ⟨hi, by rw [z3, k3, this]⟩
 unfold dE at hE ⊢
 have z0 : iBeq (actK d') 0 = false := by rw [iBeq_f]; exact n0
 rw [z0, cond_false] at hE ⊢
 by_cases a1 : actK d' = 1
 ·have z1 : iBeq (actK d') 1 = true := by rw [iBeq_t]; exact a1
  rw [z1, cond_true] at hE ⊢
  unfold setE at hE ⊢
  obtain ⟨t1, hE⟩ := bz hE (by decide)
  obtain ⟨t2, hE⟩ := bz hE (by decide)
  obtain ⟨t3, _⟩ := bz hE (by decide)
  obtain ⟨y, G⟩ := fail_gone (notf t1) t2
  obtain ⟨k1, k2⟩ := key G.mem G.kf G.ki G.fd
  rw [right_iff'.2 A.now, k1, k2, t3]; rfl
 ·have z1 : iBeq (actK d') 1 = false := by rw [iBeq_f]; exact a1
  have z2 : iBeq (actK d') 2 = true := by rw [iBeq_t]; omega
  rw [z1, cond_false, z2, cond_true] at hE ⊢
  unfold failE at hE ⊢
  obtain ⟨t1, hE⟩ := bz hE (by decide)
  obtain ⟨t2, hE⟩ := bz hE (by decide)
  obtain ⟨y, G⟩ := fail_gone (notf t1) t2
  obtain ⟨k1, k2⟩ := key G.mem G.kf G.ki G.fd
  rw [right_iff'.2 A.now, k1]; rfl
theorem act_m {V0 V1 VT : Int} {V : List Cnd} (A : ActP O c no h0 h1 rt l d f i a q e k H0 H1 RT L) (B : ActP O c no h0 h1 rt l d' f' i' a' q' e' k' H0' H1' RT' L') (W : ActP O c no H0 H1 RT L d' f' i' a' q' e' k' V0 V1 VT V) (hne : ¬ (f = f' ∧ i = i')) : V0 = H0 + (H0' - h0) ∧ V1 = H1 + (H1' - h1) ∧ ∀ x, x ∈ V ↔ (if actK d' = 0 then x = [f', i', a', q', e'] ∨ x ∈ L else x ∈ L ∧ ¬ (fr x = f' ∧ idn x = i')) := by
 obtain ⟨m, b0, b1, h⟩ := B.how
 obtain ⟨n, w0, w1, g⟩ := W.how
 have e : n = m ∧ ∀ x, x ∈ V ↔ (if actK d' = 0 then x = [f', i', a', q', e'] ∨ x ∈ L else x ∈ L ∧ ¬ (fr x = f' ∧ idn x = i')) := by
  rcases h with h | ⟨h, y, hy, y1, y2, y3, y4⟩
  ·rcases g with g | g
   ·exact ⟨g.2.1.trans h.2.1.symm, fun x => by rw [if_pos h.1]; exact g.2.2 x⟩
   ·exact absurd h.1 g.1
  ·rcases g with g | ⟨g, z, hz, z1, z2, z3, z4⟩
   ·exact absurd g.1 h
   ·have hyL := (act_mem A hne ⟨y1, y2⟩).2 hy
    have : z = y := sorted_key A.now.sorted hz hyL (z1.trans y1.symm) (z2.trans y2.symm)
    exact ⟨by rw [z3, y3, this], fun x => by rw [if_neg h]; exact z4 x⟩
 obtain ⟨e1, e2⟩ := e
 subst e1
 exact ⟨by omega, by omega, e2⟩
/-- Of two acts it does not matter which one comes first. -/
theorem act_turn {V0 V1 VT : Int} {V : List Cnd} {W0 W1 WT : Int} {W : List Cnd} (A : ActP O c no h0 h1 rt l d f i a q e k H0 H1 RT L) (B : ActP O c no h0 h1 rt l d' f' i' a' q' e' k' H0' H1' RT' L') (AB : ActP O c no H0 H1 RT L d' f' i' a' q' e' k' V0 V1 VT V) (BA : ActP O c no H0' H1' RT' L' d f i a q e k W0 W1 WT W) (hne : ¬ (f = f' ∧ i = i')) : V0 = W0 ∧ V1 = W1 ∧ VT = WT ∧ V = W := by
 obtain ⟨x0, x1, hx⟩ := act_m A B AB hne
 have hne' : ¬ (f' = f ∧ i' = i) := by omega
 obtain ⟨y0, y1, hy⟩ := act_m B A BA hne'
 refine ⟨by omega, by omega, by rw [AB.ert, A.ert, BA.ert, B.ert], sorted_ext AB.now.sorted BA.now.sorted fun z => ?_⟩
 rw [hx, hy]
 obtain ⟨m, _, _, hA⟩ := A.how
 obtain ⟨n, _, _, hB⟩ := B.how
 have kq : ∀ {a q e : Int}, fr [f, i, a, q, e] = f ∧ idn [f, i, a, q, e] = i := ⟨rfl, rfl⟩
 have kq' : ∀ {a q e : Int}, fr [f', i', a, q, e] = f' ∧ idn [f', i', a, q, e] = i' := ⟨rfl, rfl⟩
 rcases hA with ⟨a0, _, hA⟩ | ⟨a0, _, _, _, _, _, hA⟩ <;> rcases hB with ⟨b0, _, hB⟩ | ⟨b0, _, _, _, _, _, hB⟩
 ·rw [if_pos a0, if_pos b0, hA, hB]
  constructor
  ·rintro (h | h | h)
   ·exact .inr (.inl h)
   ·exact .inl h
   ·exact .inr (.inr h)
  ·rintro (h | h | h)
   ·exact .inr (.inl h)
   ·exact .inl h
   ·exact .inr (.inr h)
 ·rw [if_pos a0, if_neg b0, hA, hB]
  constructor
  ·rintro ⟨h | h, h2⟩
   ·exact .inl h
   ·exact .inr ⟨h, h2⟩
  ·rintro (h | ⟨h, h2⟩)
   ·exact ⟨.inl h, by subst h; exact fun h => hne h⟩
   ·exact ⟨.inr h, h2⟩
 ·rw [if_neg a0, if_pos b0, hA, hB]
  constructor
  ·rintro (h | ⟨h, h2⟩)
   ·exact ⟨.inl h, by subst h; exact fun h => hne' h⟩
   ·exact ⟨.inr h, h2⟩
  ·rintro ⟨h | h, h2⟩
   ·exact .inl h
   ·exact .inr ⟨h, h2⟩
 ·rw [if_neg a0, if_neg b0, hA, hB]
  constructor
  ·rintro ⟨⟨h, h2⟩, h3⟩; exact ⟨⟨h, h3⟩, h2⟩
  ·rintro ⟨⟨h, h2⟩, h3⟩; exact ⟨⟨h, h3⟩, h2⟩
end
end Go.Proofs.Ytgekiddgdjeaiaa
