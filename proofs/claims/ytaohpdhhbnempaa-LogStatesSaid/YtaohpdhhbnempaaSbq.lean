/- A channel's state as bytes, plainly: what was laid is read, and what is read was laid so. No program in sight. -/
import Derived.Test.YtaohpdhhbnempaaSb
namespace Go.Proofs.Ytaohpdhhbnempaa
open Go Go.RowKit Go.Lib Ckp Cfd Cpd Sx
set_option linter.unusedVariables false
set_option linter.unusedSimpArgs false
theorem num_fwd {R : OB} (hr : R = bO) {n : Int} (h0 : 0 ≤ n) (h1 : n ≤ 9223372036854775807) (t : List Int) : R.nOk (R.row n ++ t) = true ∧ R.nV (R.row n ++ t) = n ∧ R.nR (R.row n ++ t) = t := by
 subst hr
 have h := num_row t h0 (by omega : n < 9223372036854775808)
 refine ⟨congrArg Prod.fst h, congrArg (fun x => x.2.1) h, ?_⟩
 show (bif (numG (rowI n ++ t) 10 0 0).1 then (rowI n ++ t).drop (numG (rowI n ++ t) 10 0 0).2.2 else []) = t
 rw [h]
 show (rowI n ++ t).drop (rowI n).length = t
 rw [List.drop_left]
theorem num_bwd {R : OB} (hr : R = bO) {l : List Int} (hb : byB l = true) (h : R.nOk l = true) : l = R.row (R.nV l) ++ R.nR l ∧ 0 ≤ R.nV l ∧ R.nV l ≤ 9223372036854775807 ∧ byB (R.nR l) = true := by
 subst hr
 have h : (numG l 10 0 0).1 = true := h
 have nb := num_back hb (v := (numG l 10 0 0).2.1) (m := (numG l 10 0 0).2.2) (Prod.ext h rfl)
 have e : bO.nR l = l.drop (numG l 10 0 0).2.2 := by
  show (bif (numG l 10 0 0).1 then _ else _) = _
  rw [h]; rfl
 rw [e]
 refine ⟨nb.2.2.1, nb.1, by have := nb.2.1; show (numG l 10 0 0).2.1 ≤ _; omega, ?_⟩
 rw [byB_iff] at hb ⊢
 exact fun x hx => hb x (List.mem_of_mem_drop hx)
def u64f (n b : Int) : Int := IntKind.u64.wrap (((BitVec.ofInt 64 (IntKind.u64.wrap (n * 2 ^ 8)) ||| BitVec.ofInt 64 b).toNat : Nat) : Int)
theorem u64f_eq {a d : Int} (ha : 0 ≤ a ∧ a < 72057594037927936) (hd : 0 ≤ d ∧ d < 256) : u64f a d = 256 * a + d := by
 obtain ⟨x, rfl⟩ : ∃ x : Nat, a = x := ⟨a.toNat, by omega⟩
 obtain ⟨y, rfl⟩ : ∃ y : Nat, d = y := ⟨d.toNat, by omega⟩
 have e1 : (BitVec.ofInt 64 (IntKind.u64.wrap ((x : Int) * 2 ^ 8))).toNat = 2 ^ 8 * x := by
  rw [ofInt_wrap, BitVec.toNat_ofInt]
  simp only [Nat.reducePow, Int.reducePow] at *
  omega
 have e2 : (BitVec.ofInt 64 (y : Int)).toNat = y := by
  rw [BitVec.toNat_ofInt]
  simp only [Nat.reducePow] at *
  omega
 unfold u64f
 rw [BitVec.toNat_or, e1, e2, ← Nat.two_pow_add_eq_or_of_lt (i := 8) (by omega), IntKind.wrap_u64]
 simp only [Nat.reducePow]
 omega
theorem u64_horner {a b c d e f g h : Int} (ha : 0 ≤ a ∧ a < 256) (hb : 0 ≤ b ∧ b < 256) (hc : 0 ≤ c ∧ c < 256) (hd : 0 ≤ d ∧ d < 256) (he : 0 ≤ e ∧ e < 256) (hf : 0 ≤ f ∧ f < 256) (hg : 0 ≤ g ∧ g < 256) (hh : 0 ≤ h ∧ h < 256) :
  u64F [a, b, c, d, e, f, g, h] = 256 * (256 * (256 * (256 * (256 * (256 * (256 * a + b) + c) + d) + e) + f) + g) + h := by
 show u64f (u64f (u64f (u64f (u64f (u64f (u64f (u64f 0 a) b) c) d) e) f) g) h = _
 rw [u64f_eq (a := 0) (by omega) ha, u64f_eq (a := 256 * 0 + a) (by omega) hb]
 simp only [Int.mul_zero, Int.zero_add]
 rw [u64f_eq (a := 256 * a + b) (by omega) hc, u64f_eq (a := 256 * (256 * a + b) + c) (by omega) hd, u64f_eq (a := 256 * (256 * (256 * a + b) + c) + d) (by omega) he,
  u64f_eq (a := 256 * (256 * (256 * (256 * a + b) + c) + d) + e) (by omega) hf, u64f_eq (a := 256 * (256 * (256 * (256 * (256 * a + b) + c) + d) + e) + f) (by omega) hg,
  u64f_eq (a := 256 * (256 * (256 * (256 * (256 * (256 * a + b) + c) + d) + e) + f) + g) (by omega) hh]
theorem u64A_eq (n : Int) (i : Nat) : u64A n i = n / 2 ^ (56 - 8 * i) % 256 := by
 unfold u64A
 rw [IntKind.wrap_u8, Int.fdiv_eq_ediv_of_nonneg _ (Int.pow_nonneg (by decide))]
theorem u64_fwd {R : OB} (hr : R = bO) {q : Int} (h : inU q 18446744073709551616 = true) (t : List Int) : u64N (u64B q ++ t) false = false ∧ u64V R (u64B q ++ t) false = q ∧ u64R (u64B q ++ t) false = t := by
 subst hr
 have h : 0 ≤ q ∧ q < 18446744073709551616 := by
  unfold inU at h
  simp only [Bool.and_eq_true, decide_eq_true_eq] at h
  simpa using h
 have hk : u64K (u64B q ++ t) false = false := by
  unfold u64K
  show iLt ((u64B q ++ t).length : Int) 8 = false
  simp only [Sx.Bz, Sx.Cont.n, u64B, List.length_append, List.length_cons, List.length_nil]; omega
 refine ⟨by unfold u64N; rw [hk]; rfl, ?_, by unfold u64R; rw [hk]; rfl⟩
 unfold u64V u64S
 rw [hk, cond_false, show (u64B q ++ t).take 8 = u64B q from rfl]
 show u64F (u64B q) = q
 unfold u64B
 simp only [u64A_eq]
 rw [u64_horner (by omega) (by omega) (by omega) (by omega) (by omega) (by omega) (by omega) (by omega)]
 simp only [Nat.reduceMul, Nat.reduceSub, Int.reducePow]
 have d1 : q / 65536 = q / 256 / 256 := by omega
 have d2 : q / 16777216 = q / 256 / 256 / 256 := by omega
 have d3 : q / 4294967296 = q / 256 / 256 / 256 / 256 := by omega
 have d4 : q / 1099511627776 = q / 256 / 256 / 256 / 256 / 256 := by omega
 have d5 : q / 281474976710656 = q / 256 / 256 / 256 / 256 / 256 / 256 := by omega
 have d6 : q / 72057594037927936 = q / 256 / 256 / 256 / 256 / 256 / 256 / 256 := by omega
 rw [d1, d2, d3, d4, d5, d6]
 omega
theorem u64_bwd {R : OB} (hr : R = bO) {l : List Int} (hb : byB l = true) (h : u64N l false = false) : l = u64B (u64V R l false) ++ u64R l false ∧ inU (u64V R l false) 18446744073709551616 = true ∧ byB (u64R l false) = true := by
 subst hr
 have hk : u64K l false = false := by
  unfold u64N at h
  cases c : u64K l false
  ·rfl
  ·rw [c] at h; cases h
 have hlen : 8 ≤ l.length := by
  have h2 : iLt (l.length : Int) 8 = false := hk
  simp only [Sx.Bz, Sx.Cont.n] at h2; omega
 have eR : u64R l false = l.drop 8 := by unfold u64R; rw [hk]; rfl
 have eV : u64V bO l false = u64F (l.take 8) := by unfold u64V u64S; rw [hk]; rfl
 rw [byB_iff] at hb
 have hl8 : (l.take 8).length = 8 := by rw [List.length_take]; omega
 have hm : ∀ x ∈ l.take 8, 0 ≤ x ∧ x < 256 := fun x hx => hb x (List.mem_of_mem_take hx)
 rw [eR, eV]
 have hsp : l = l.take 8 ++ l.drop 8 := (List.take_append_drop 8 l).symm
 revert hl8 hm
 generalize l.take 8 = s at hsp ⊢
 intro hl8 hm
 match s, hl8 with
 | [a, b, c, d, e, f, g, k], _ =>
  have ha := hm a (by simp)
  have hb' := hm b (by simp)
  have hc := hm c (by simp)
  have hd := hm d (by simp)
  have he := hm e (by simp)
  have hf := hm f (by simp)
  have hg := hm g (by simp)
  have hk' := hm k (by simp)
  rw [u64_horner ha hb' hc hd he hf hg hk']
  obtain ⟨v, hv⟩ : ∃ v, 256 * (256 * (256 * (256 * (256 * (256 * (256 * a + b) + c) + d) + e) + f) + g) + k = v := ⟨_, rfl⟩
  rw [hv]
  refine ⟨?_, ?_, ?_⟩
  ·have z : u64B v = [a, b, c, d, e, f, g, k] := by
    unfold u64B
    simp only [u64A_eq, Nat.reduceMul, Nat.reduceSub, Int.reducePow]
    refine List.cons_eq_cons.2 ⟨by omega, List.cons_eq_cons.2 ⟨by omega, List.cons_eq_cons.2 ⟨by omega, List.cons_eq_cons.2 ⟨by omega, List.cons_eq_cons.2 ⟨by omega, List.cons_eq_cons.2 ⟨by omega, List.cons_eq_cons.2 ⟨by omega, List.cons_eq_cons.2 ⟨by omega, rfl⟩⟩⟩⟩⟩⟩⟩⟩
   rw [z]; exact hsp
  ·unfold inU
   simp only [Bool.and_eq_true, decide_eq_true_eq]
   omega
  ·rw [byB_iff]
   exact fun x hx => hb x (List.mem_of_mem_drop hx)
theorem five' {x : List Int} (h : x.length = 5) : x = [x.getD 0 0, x.getD 1 0, x.getD 2 0, x.getD 3 0, x.getD 4 0] := by
 match x, h with
 | [a, b, c, d, e], _ => rfl
/-- A condition that was laid is read. -/
theorem cd_fwd {R : OB} (hr : R = bO) {x : List Int} (h5 : x.length = 5) (hk : cdOk x = true) (hq : inU (x.getD 3 0) 18446744073709551616 = true) (t : List Int) :
  cdX R (cdRow R x ++ t) false = x ∧ u64R (cdL R (cdRow R x ++ t)) (cdO R (cdRow R x ++ t) false) = t ∧ u64N (cdL R (cdRow R x ++ t)) (cdO R (cdRow R x ++ t) false) = false := by
 unfold cdOk at hk
 rw [allQ_mem] at hk
 have k0 := hk (x.getD 0 0) (by simp)
 have k1 := hk (x.getD 1 0) (by simp)
 have k2 := hk (x.getD 2 0) (by simp)
 have k4 := hk (x.getD 4 0) (by simp)
 obtain ⟨a, ha⟩ : ∃ a, R.row (x.getD 4 0) ++ (u64B (x.getD 3 0) ++ t) = a := ⟨_, rfl⟩
 obtain ⟨b, hb⟩ : ∃ b, R.row (x.getD 2 0) ++ a = b := ⟨_, rfl⟩
 obtain ⟨c, hc⟩ : ∃ c, R.row (x.getD 1 0) ++ b = c := ⟨_, rfl⟩
 obtain ⟨d, hd⟩ : ∃ d, R.row (x.getD 0 0) ++ c = d := ⟨_, rfl⟩
 have e0 : cdRow R x ++ t = d := by
  rw [← hd, ← hc, ← hb, ← ha]
  unfold cdRow rowsF
  simp only [List.flatMap_cons, List.flatMap_nil, List.append_nil, List.append_assoc]
 obtain ⟨n0, n1, n2⟩ := num_fwd hr k0.1 k0.2 c
 obtain ⟨m0, m1, m2⟩ := num_fwd hr k1.1 k1.2 b
 obtain ⟨p0, p1, p2⟩ := num_fwd hr k2.1 k2.2 a
 obtain ⟨q0, q1, q2⟩ := num_fwd hr k4.1 k4.2 (u64B (x.getD 3 0) ++ t)
 rw [hd] at n0 n1 n2
 rw [hc] at m0 m1 m2
 rw [hb] at p0 p1 p2
 rw [ha] at q0 q1 q2
 obtain ⟨u0, u1, u2⟩ := u64_fwd hr hq t
 have eL : cdL R d = u64B (x.getD 3 0) ++ t := by unfold cdL; rw [n2, m2, p2, q2]
 have eO : cdO R d false = false := by unfold cdO nxO; rw [n2, m2, p2, q0, p0, m0, n0]; rfl
 rw [e0]
 unfold cdX
 rw [eL, eO, u0, u1, u2, n1, n2, m1, m2, p1, p2, q1]
 exact ⟨(five' h5).symm, rfl, rfl⟩
theorem sd_fwd {R : OB} (hr : R = bO) : ∀ (l : List (List Int)) (t : List Int) (L : List (List Int)), cdsOk l = true → pqB l = true → sdF R l.length (cdsF R l ++ t) false L = (t, false, L ++ l)
 | [], t, L, _, _ => by simp [sdF, cdsF]
 | x :: l, t, L, hk, hp => by
  unfold cdsOk at hk
  unfold pqB at hp
  rw [List.all_cons, Bool.and_eq_true] at hk hp
  obtain ⟨hx, hp⟩ := hp
  rw [Bool.and_eq_true, Nat.beq_eq] at hx
  obtain ⟨f1, f2, f3⟩ := cd_fwd hr hx.2 hk.1 hx.1 (cdsF R l ++ t)
  have e : cdsF R (x :: l) ++ t = cdRow R x ++ (cdsF R l ++ t) := by
   unfold cdsF; rw [List.flatMap_cons, List.append_assoc]
  rw [e, List.length_cons]
  show (bif false then _ else sdF R l.length (u64R _ _) (u64N _ _) (L ++ [cdX R _ false])) = _
  rw [f1, f2, f3, cond_false, sd_fwd hr l t _ hk.2 hp, List.append_assoc]; rfl
theorem cd_bwd {R : OB} (hr : R = bO) {l : List Int} (hb : byB l = true) {no : Bool} (h : u64N (cdL R l) (cdO R l no) = false) :
  no = false ∧ l = cdRow R (cdX R l no) ++ u64R (cdL R l) (cdO R l no) ∧ cdOk (cdX R l no) = true ∧ inU ((cdX R l no).getD 3 0) 18446744073709551616 = true ∧ byB (u64R (cdL R l) (cdO R l no)) = true := by
 have hO : cdO R l no = false := by
  unfold u64N at h
  cases c : u64K (cdL R l) (cdO R l no)
  ·rw [c] at h; exact h
  ·rw [c] at h; cases h
 have hall : R.nOk (R.nR (R.nR (R.nR l))) = true ∧ R.nOk (R.nR (R.nR l)) = true ∧ R.nOk (R.nR l) = true ∧ R.nOk l = true ∧ no = false := by
  unfold cdO nxO at hO
  revert hO
  cases R.nOk (R.nR (R.nR (R.nR l))) <;> cases R.nOk (R.nR (R.nR l)) <;> cases R.nOk (R.nR l) <;> cases R.nOk l <;> cases no <;> simp
 obtain ⟨o3, o2, o1, o0, rfl⟩ := hall
 obtain ⟨a1, a2, a3, a4⟩ := num_bwd hr hb o0
 obtain ⟨b1, b2, b3, b4⟩ := num_bwd hr a4 o1
 obtain ⟨c1, c2, c3, c4⟩ := num_bwd hr b4 o2
 obtain ⟨d1, d2, d3, d4⟩ := num_bwd hr c4 o3
 rw [hO] at h ⊢
 have d4 : byB (cdL R l) = true := d4
 obtain ⟨e1, e2, e3⟩ := u64_bwd hr d4 h
 have d1 : R.nR (R.nR (R.nR l)) = R.row (R.nV (R.nR (R.nR (R.nR l)))) ++ cdL R l := d1
 refine ⟨rfl, ?_, ?_, ?_, e3⟩
 ·unfold cdRow cdX
  rw [hO]
  show l = rowsF R [R.nV l, R.nV (R.nR l), R.nV (R.nR (R.nR l)), R.nV (R.nR (R.nR (R.nR l)))] ++ u64B (u64V R (cdL R l) false) ++ _
  unfold rowsF
  simp only [List.flatMap_cons, List.flatMap_nil, List.append_nil, List.append_assoc]
  rw [← e1, ← d1, ← c1, ← b1, ← a1]
 ·unfold cdOk cdX
  rw [allQ_mem]
  intro x hx
  simp only [List.getD_cons_zero, List.getD_cons_succ, List.mem_cons, List.not_mem_nil, or_false] at hx
  rcases hx with rfl | rfl | rfl | rfl
  ·exact ⟨a2, a3⟩
  ·exact ⟨b2, b3⟩
  ·exact ⟨c2, c3⟩
  ·exact ⟨d2, d3⟩
 ·unfold cdX
  rw [hO]
  exact e2
theorem sd_bwd {R : OB} (hr : R = bO) : ∀ (k : Nat) (l : List Int) (no : Bool) (L : List (List Int)) (l' : List Int) (L' : List (List Int)), byB l = true → sdF R k l no L = (l', false, L') →
  no = false ∧ ∃ M, L' = L ++ M ∧ M.length = k ∧ l = cdsF R M ++ l' ∧ cdsOk M = true ∧ pqB M = true
 | 0, l, no, L, l', L', hb, h => by
  simp only [sdF, Prod.mk.injEq] at h
  obtain ⟨rfl, rfl, rfl⟩ := h
  exact ⟨rfl, [], by simp, rfl, by simp [cdsF], rfl, rfl⟩
 | k + 1, l, no, L, l', L', hb, h => by
  cases no with
  | true =>
   simp only [sdF, cond_true, Prod.mk.injEq] at h
   exact absurd h.2.1 (by decide)
  | false =>
   have h : sdF R k (u64R (cdL R l) (cdO R l false)) (u64N (cdL R l) (cdO R l false)) (L ++ [cdX R l false]) = (l', false, L') := h
   have hN : u64N (cdL R l) (cdO R l false) = false := by
    cases c : u64N (cdL R l) (cdO R l false)
    ·rfl
    ·rw [c] at h
     cases k with
     | zero => simp [sdF] at h
     | succ k => simp [sdF] at h
   obtain ⟨_, f1, f2, f3, f4⟩ := cd_bwd hr hb hN
   obtain ⟨_, M, g1, g2, g3, g4, g5⟩ := sd_bwd hr k _ _ _ l' L' f4 h
   refine ⟨rfl, cdX R l false :: M, by rw [g1, List.append_assoc]; rfl, by rw [List.length_cons, g2], ?_, ?_, ?_⟩
   ·have e : cdsF R (cdX R l false :: M) = cdRow R (cdX R l false) ++ cdsF R M := by unfold cdsF; rw [List.flatMap_cons]
    rw [e, List.append_assoc, ← g3]; exact f1
   ·unfold cdsOk at g4 ⊢
    rw [List.all_cons, f2, g4]; rfl
   ·unfold pqB at g5 ⊢
    rw [List.all_cons, f3, g5]; rfl
theorem cdsF_ge {R : OB} (hr : R = bO) : ∀ l : List (List Int), l.length ≤ (cdsF R l).length
 | [] => Nat.le_refl _
 | x :: l => by
  have := cdsF_ge hr l
  have e : cdsF R (x :: l) = cdRow R x ++ cdsF R l := by unfold cdsF; rw [List.flatMap_cons]
  rw [e, List.length_append, List.length_cons]
  unfold cdRow
  rw [List.length_append]
  simp only [u64B, List.length_cons, List.length_nil]
  omega
/-- What is left behind a state's four numbers, and how many conditions follow. -/
theorem hd_fwd {R : OB} (hr : R = bO) {no h0 h1 rt n : Int} (h : allQ 0 9223372036854775807 [no, h0, h1, rt, n] = true) (t : List Int) :
  ∀ b, b = rowsF R [no, h0, h1, rt, n] ++ t → R.nV b = no ∧ R.nV (R.nR b) = h0 ∧ R.nV (R.nR (R.nR b)) = h1 ∧ R.nV (R.nR (R.nR (R.nR b))) = rt ∧ hdN R b = n ∧ hdL R b = t ∧ hdO R b = false := by
 rw [allQ_mem] at h
 have k0 := h no (by simp)
 have k1 := h h0 (by simp)
 have k2 := h h1 (by simp)
 have k3 := h rt (by simp)
 have k4 := h n (by simp)
 obtain ⟨a, ha⟩ : ∃ a, R.row n ++ t = a := ⟨_, rfl⟩
 obtain ⟨b, hb⟩ : ∃ b, R.row rt ++ a = b := ⟨_, rfl⟩
 obtain ⟨c, hc⟩ : ∃ c, R.row h1 ++ b = c := ⟨_, rfl⟩
 obtain ⟨d, hd⟩ : ∃ d, R.row h0 ++ c = d := ⟨_, rfl⟩
 obtain ⟨e, he⟩ : ∃ e, R.row no ++ d = e := ⟨_, rfl⟩
 have e0 : rowsF R [no, h0, h1, rt, n] ++ t = e := by
  rw [← he, ← hd, ← hc, ← hb, ← ha]
  unfold rowsF
  simp only [List.flatMap_cons, List.flatMap_nil, List.append_nil, List.append_assoc]
 obtain ⟨n0, n1, n2⟩ := num_fwd hr k0.1 k0.2 d
 obtain ⟨m0, m1, m2⟩ := num_fwd hr k1.1 k1.2 c
 obtain ⟨p0, p1, p2⟩ := num_fwd hr k2.1 k2.2 b
 obtain ⟨q0, q1, q2⟩ := num_fwd hr k3.1 k3.2 a
 obtain ⟨r0, r1, r2⟩ := num_fwd hr k4.1 k4.2 t
 rw [he] at n0 n1 n2
 rw [hd] at m0 m1 m2
 rw [hc] at p0 p1 p2
 rw [hb] at q0 q1 q2
 rw [ha] at r0 r1 r2
 intro b' eb
 rw [eb, e0]
 have eL : cdL R e = a := by unfold cdL; rw [n2, m2, p2, q2]
 have eO : cdO R e false = false := by unfold cdO nxO; rw [n2, m2, p2, q0, p0, m0, n0]; rfl
 refine ⟨n1, by rw [n2, m1], by rw [n2, m2, p1], by rw [n2, m2, p2, q1], ?_, ?_, ?_⟩
 ·unfold hdN; rw [eL, r1]
 ·unfold hdL; rw [eL, r2]
 ·unfold hdO nxO; rw [eL, r0, eO]; rfl
/-- What was laid is read. -/
theorem st_fwd {R : OB} (hr : R = bO) {no h0 h1 rt : Int} {l : List (List Int)} (h : allQ 0 9223372036854775807 [no, h0, h1, rt, (l.length : Int)] = true) (hk : cdsOk l = true) (hp : pqB l = true) :
  ∀ b, b = stB R no h0 h1 rt l → stOk R b = true ∧ stNo R b = no ∧ stH0 R b = h0 ∧ stH1 R b = h1 ∧ stRt R b = rt ∧ snC R b = l := by
 intro b' eb
 have e : b' = rowsF R [no, h0, h1, rt, (l.length : Int)] ++ cdsF R l := by
  rw [eb]
  unfold stB; rw [h, hk]; rfl
 obtain ⟨f0, f1, f2, f3, f4, f5, f6⟩ := hd_fwd hr h (cdsF R l) b' e
 have g := sd_fwd hr l [] [] hk hp
 rw [List.append_nil] at g
 have eE : snE R b' = ([], false, l) := by
  unfold snE; rw [f4, f5, f6, Int.toNat_natCast, g]; rfl
 have ok : stOk R b' = true := by unfold stOk; rw [eE]; rfl
 refine ⟨ok, ?_, ?_, ?_, ?_, ?_⟩
 ·unfold stNo; rw [ok, f0]; rfl
 ·unfold stH0; rw [ok, f1]; rfl
 ·unfold stH1; rw [ok, f2]; rfl
 ·unfold stRt; rw [ok, f3]; rfl
 ·unfold snC; rw [ok, eE]; rfl
/-- What is read was laid so. -/
theorem st_bwd {R : OB} (hr : R = bO) {b : List Int} (hb : byB b = true) (h : stOk R b = true) :
  stB R (stNo R b) (stH0 R b) (stH1 R b) (stRt R b) (snC R b) = b ∧ pqB (snC R b) = true ∧ (snC R b).length ≤ b.length := by
 obtain ⟨⟨l', no, L'⟩, hE⟩ : ∃ x, snE R b = x := ⟨_, rfl⟩
 have h1 : no = false ∧ l' = [] := by
  unfold stOk at h
  rw [hE] at h
  cases no
  ·have h : Nat.beq l'.length 0 = true := h
   rw [Nat.beq_eq] at h
   exact ⟨rfl, List.eq_nil_of_length_eq_zero h⟩
  ·cases h
 obtain ⟨rfl, rfl⟩ := h1
 have hO : hdO R b = false := by
  cases c : hdO R b
  ·rfl
  ·unfold snE at hE
   rw [c] at hE
   revert hE
   cases (hdN R b).toNat <;> simp [sdF]
 have hall : R.nOk (cdL R b) = true ∧ R.nOk (R.nR (R.nR (R.nR b))) = true ∧ R.nOk (R.nR (R.nR b)) = true ∧ R.nOk (R.nR b) = true ∧ R.nOk b = true := by
  unfold hdO cdO nxO at hO
  revert hO
  cases R.nOk (cdL R b) <;> cases R.nOk (R.nR (R.nR (R.nR b))) <;> cases R.nOk (R.nR (R.nR b)) <;> cases R.nOk (R.nR b) <;> cases R.nOk b <;> simp
 obtain ⟨o4, o3, o2, o1, o0⟩ := hall
 obtain ⟨a1, a2, a3, a4⟩ := num_bwd hr hb o0
 obtain ⟨b1, b2, b3, b4⟩ := num_bwd hr a4 o1
 obtain ⟨c1, c2, c3, c4⟩ := num_bwd hr b4 o2
 obtain ⟨d1, d2, d3, d4⟩ := num_bwd hr c4 o3
 have d1 : R.nR (R.nR (R.nR b)) = R.row (R.nV (R.nR (R.nR (R.nR b)))) ++ cdL R b := d1
 have d4 : byB (cdL R b) = true := d4
 obtain ⟨e1, e2, e3, e4⟩ := num_bwd hr d4 o4
 have e1 : cdL R b = R.row (hdN R b) ++ hdL R b := e1
 have e4 : byB (hdL R b) = true := e4
 have e2 : 0 ≤ hdN R b := e2
 have e3 : hdN R b ≤ 9223372036854775807 := e3
 have hE' := hE
 unfold snE at hE'
 rw [hO] at hE'
 obtain ⟨_, M, g1, g2, g3, g4, g5⟩ := sd_bwd hr _ _ _ _ _ _ e4 hE'
 have g1 : L' = M := g1
 subst g1
 have eC : snC R b = L' := by unfold snC; rw [h, hE]; rfl
 have eN : (L'.length : Int) = hdN R b := by rw [g2]; omega
 rw [List.append_nil] at g3
 have whole : b = rowsF R [R.nV b, R.nV (R.nR b), R.nV (R.nR (R.nR b)), R.nV (R.nR (R.nR (R.nR b))), (L'.length : Int)] ++ cdsF R L' := by
  unfold rowsF
  simp only [List.flatMap_cons, List.flatMap_nil, List.append_nil, List.append_assoc]
  rw [eN, ← g3, ← e1, ← d1, ← c1, ← b1, ← a1]
 have hq : allQ 0 9223372036854775807 [R.nV b, R.nV (R.nR b), R.nV (R.nR (R.nR b)), R.nV (R.nR (R.nR (R.nR b))), (L'.length : Int)] = true := by
  rw [allQ_mem]
  intro x hx
  simp only [List.mem_cons, List.not_mem_nil, or_false] at hx
  rcases hx with rfl | rfl | rfl | rfl | rfl
  ·exact ⟨a2, a3⟩
  ·exact ⟨b2, b3⟩
  ·exact ⟨c2, c3⟩
  ·exact ⟨d2, d3⟩
  ·rw [eN]; exact ⟨e2, e3⟩
 refine ⟨?_, by rw [eC]; exact g5, ?_⟩
 ·unfold stB stNo stH0 stH1 stRt
  rw [h, eC]
  show (bif allQ 0 9223372036854775807 [R.nV b, R.nV (R.nR b), R.nV (R.nR (R.nR b)), R.nV (R.nR (R.nR (R.nR b))), (L'.length : Int)] then _ else _) = b
  rw [hq, g4]
  exact whole.symm
 ·rw [eC]
  have : L'.length ≤ (cdsF R L').length := cdsF_ge hr L'
  have e : b.length = (rowsF R [R.nV b, R.nV (R.nR b), R.nV (R.nR (R.nR b)), R.nV (R.nR (R.nR (R.nR b))), (L'.length : Int)] ++ cdsF R L').length := congrArg List.length whole
  rw [List.length_append] at e
  omega
/-- Of nothing no state is read. -/
theorem st_nil {R : OB} (hr : R = bO) : stOk R [] = false := by
 have ok : R.nOk [] = false := by subst hr; rfl
 have nr : R.nR [] = [] := by subst hr; rfl
 have hO : hdO R [] = true := by
  unfold hdO cdO nxO cdL; rw [nr, nr, nr, nr, ok]; rfl
 unfold stOk snE
 rw [hO]
 cases (hdN R []).toNat <;> rfl
end Go.Proofs.Ytaohpdhhbnempaa
