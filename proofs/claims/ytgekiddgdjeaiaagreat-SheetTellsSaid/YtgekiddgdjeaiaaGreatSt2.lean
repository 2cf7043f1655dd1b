/- The document's sheet: with and without a condition, added, settled, failed, another rate (printed by genSt.py; VCs by VcTool). -/
import Derived.Test.YtgekiddgdjeaiaaGreatSt1
import Derived.Test.YtgekiddgdjeaiaaGreatSl2
namespace Go.Proofs.YtgekiddgdjeaiaaGreat
open Go.RowKit Go.Lib Ckp Cfd Cpd Sx
open IntKind (i64 u64 u8 i32 u32)
set_option linter.unusedVariables false
set_option linter.unusedSimpArgs false
set_option maxRecDepth 1000000
set_option maxHeartbeats 4000000
def wS (q : List Int) (l : List (List Int)) (j : Nat) : List (List Int) := bif Nat.ble j (qy q l) then l.take j else l.take (qy q l) ++ [q] ++ (l.take j).drop (qy q l)
def wD (q : List Int) (l : List (List Int)) (j : Nat) : Bool := Nat.blt (qy q l) j

theorem bci {l : List (List Int)} (hs : l.Pairwise lt2) {f i : Int} (hf : iLt (ed (aj f i) l) 0 = false) : l.take (ed (aj f i) l).toNat ++ l.drop ((ed (aj f i) l).toNat + 1) = mg [ak f i l 0, ak f i l 1, ak f i l 2, ak f i l 3, ak f i l 4] l := by
 have hK := ((ahc (aj f i) l).2 hf).1
 have eC : ∀ j, ak f i l j = (l.getD (ed (aj f i) l).toNat []).getD j 0 := fun j => by unfold ak; rw [hf]; rfl
 have key : ∀ K, K < l.length → ∀ q : List Int, fr (l.getD K []) = fr q ∧ idn (l.getD K []) = idn q → l.take K ++ l.drop (K + 1) = mg q l := fun K hK q e => by
  have hl : l = l.take K ++ l.getD K [] :: l.drop (K + 1) := by
   rw [getD_at hK, List.getElem_cons_drop, List.take_append_drop]
  have hp := hs
  rw [hl] at hp
  obtain ⟨_, pB, pC⟩ := List.pairwise_append.1 hp
  have pD := (List.pairwise_cons.1 pB).1
  rw [show mg q l = mg q (l.take K ++ l.getD K [] :: l.drop (K + 1)) from congrArg (mg q) hl, bie, az7 e, ba2, ba2]
  ·exact fun x hx h => bft (pD x hx) (by rw [e.1, e.2]; exact h)
  ·exact fun x hx h => blr (pC x hx _ List.mem_cons_self) (by rw [e.1, e.2]; exact h)
 exact key _ hK _ ⟨(eC 0).symm, (eC 1).symm⟩
theorem aca {E no h0 h1 rt a b : Int} {l l2 : List (List Int)} (hE : E = 0) (e1 : a = h0) (e2 : b = h1) (e3 : l2 = l) : lfP E no h0 h1 rt l no a b rt 0 l2 := by
 subst e3
 exact aht hE e1 e2
theorem sub_lt {x y : Int} (hx : 0 ≤ x ∧ x ≤ 1125899906842624) (hy : 0 ≤ y ∧ y ≤ 1125899906842624) : iLt (i64.wrap (x - y)) 0 = iLt x y := by
 rw [wrap_in (by omega) (by omega)]
 cases h : iLt x y
 ·simp only [Bz, Sx.af.n] at h ⊢; omega
 ·simp only [Bz, Sx.af.n] at h ⊢; omega
theorem af9 {x : Int} : (!(iLt x 0)) = iLe 0 x := by
 cases h : iLt x 0
 ·simp only [Bz, Sx.af.n] at h
  show true = iLe 0 x
  exact (by simp only [Bz, Sx.af.n]; omega : iLe 0 x = true).symm
 ·simp only [Bz, Sx.af.n] at h
  show false = iLe 0 x
  exact (by simp only [Bz, Sx.af.n]; omega : iLe 0 x = false).symm
theorem e16 {n : Nat} (h : n ≤ 16) : iLe 16 (n : Int) = ax (n : Int) 16 := by
 cases h2 : ax (n : Int) 16
 ·simp only [Bz, Sx.af.n] at h2 ⊢; omega
 ·simp only [Bz, Sx.af.n] at h2 ⊢; omega
theorem ab5 {rt : Int} {n : Nat} (h : 0 ≤ rt ∧ rt ≤ 1000) (hn : n ≤ 16) : 0 ≤ jg rt (n : Int) ∧ jg rt (n : Int) ≤ 1125899906842624 := by
 have := bj5 h hn
 rw [avj h hn]; omega
theorem addZ {O : OO} {c : Nat → Int} {no h0 h1 rt : Int} {l : List (List Int)} {f i a q e : Int} (hr : jh O c no h0 h1 rt l = true) (hfi : yg O f i a q e = true) (hf : f = 0 ∨ f = 1) : gm O c no h0 h1 rt l f i a q e =
  bif iLe 0 (ed (aj f i) l) then 4 else bif iLt a (c (jr f 4)) then 9 else bif (bif ax (l.length : Int) 16 then true else iLe (c (jr f 3)) (o7 (i64.wrap (1 - f)) l)) then 3 else bif iLt (c (jr f 5)) (i64.wrap (og (i64.wrap (1 - f)) l + a)) then 6 else
  bif iLt (i64.wrap (jf h0 h1 f - a)) 0 then 8 else bif iLt (jf (hsub f h0 a 0) (hsub f h1 a 1) (c 56)) (jg rt ((bn [f, i, a, q, e] l).length : Int)) then 8 else bif iLt (jm c (hsub f h0 a 0) (hsub f h1 a 1) rt ((bn [f, i, a, q, e] l).length : Int) f) (c (jr f 1)) then 10 else 0 := by
 have P := qo.1 hr
 have bA : 0 ≤ a ∧ a ≤ 1125899906842624 := by have := (aba.1 hfi).2.2.1; omega
 have bh := have_le (side := f) P.bh0 P.bh1
 unfold gm
 rw [hr, hfi, af9, e16 P.len, sub_lt bh bA]
 cases h2 : ax (l.length : Int) 16
 ·cases h5 : iLt (jf h0 h1 f) a
  ·have hl15 : l.length ≤ 15 := by
    have := P.len
    simp only [Bz, Sx.af.n] at h2; omega
   have hN : (bn [f, i, a, q, e] l).length ≤ 16 := by rw [ae7]; omega
   rw [aeo] at h5
   have b0 := P.bh0
   have b1 := P.bh1
   have BX : 0 ≤ jf (hsub f h0 a 0) (hsub f h1 a 1) (c 56) ∧ jf (hsub f h0 a 0) (hsub f h1 a 1) (c 56) ≤ 1125899906842624 := by
    rcases hf with rfl | rfl
    ·have z : hsub 0 h0 a 0 = i64.wrap (h0 - a) := rfl
     have w : ¬ h0 < a := h5
     exact have_le (by rw [z, wrap_in (by omega) (by omega)]; omega) b1
    ·have z : hsub 1 h1 a 1 = i64.wrap (h1 - a) := rfl
     have w : ¬ h1 < a := h5
     exact have_le b0 (by rw [z, wrap_in (by omega) (by omega)]; omega)
   have ef : jm c (hsub f h0 a 0) (hsub f h1 a 1) rt ((bn [f, i, a, q, e] l).length : Int) (c 56) = i64.wrap (jf (hsub f h0 a 0) (hsub f h1 a 1) (c 56) - jg rt ((bn [f, i, a, q, e] l).length : Int)) := by
    unfold jm
    rw [show ax (c 56) (c 56) = true by simp only [Bz, Sx.af.n]]; rfl
   rw [ef, sub_lt BX (ab5 P.brt hN)]; rfl
  ·rfl
 ·rfl
theorem addW {E : Int} {P : Int → Prop} {K : Prop} {G H W V b0 b1 b2 b3 b4 b5 b6 b7 : Bool} (hE : E = bif b0 then 4 else bif b1 then 9 else bif (bif b2 then true else b3) then 3 else bif b4 then 6 else bif b5 then 8 else bif b6 then 8 else bif b7 then 10 else 0) (hP : ∀ k, ax k 0 = false → E = k → P k) (hK : E = 0 → K) (hG : G = true) (hH : H = true) (hW : b0 = false → W = true) (hV : V = true) :
  Sx.If G (Sx.If b0 (P 4) (Sx.If H (Sx.If b1 (P 9) (Sx.If b2 (P 3) (Sx.If b3 (P 3) (Sx.If b4 (P 6) (Sx.If W (Sx.If V (Sx.If b5 (P 8) (Sx.If b6 (P 8) (Sx.If b7 (P 10) K))) False) False))))) False)) False :=
 ziT hG (ae (fun b => hP 4 rfl (by rw [hE, b]; rfl)) (fun b => ziT hH (by
  have w := hW b
  subst b hV w
  have x := addS (G := true) (H := true) (W := true) (V := true) (V2 := true) hE hP hK rfl rfl rfl (fun _ => rfl) (fun _ => rfl)
  revert x
  cases b1 <;> cases b2 <;> cases b3 <;> cases b4 <;> cases b5 <;> cases b6 <;> exact id)))
theorem alb {q : List Int} {l : List (List Int)} {j : Nat} (h : j ≤ qy q l) : wS q l j = l.take j ∧ wD q l j = false := by
 unfold wS wD
 rw [show Nat.ble j (qy q l) = true by rw [Nat.ble_eq]; exact h]
 refine ⟨rfl, ?_⟩
 cases h2 : Nat.blt (qy q l) j
 ·rfl
 ·rw [Nat.blt_eq] at h2; omega
theorem aq0 {q : List Int} {l : List (List Int)} {j : Nat} (h : qy q l < j) : wS q l j = l.take (qy q l) ++ [q] ++ (l.take j).drop (qy q l) ∧ wD q l j = true := by
 unfold wS wD
 have e : Nat.ble j (qy q l) = false := by
  cases h2 : Nat.ble j (qy q l)
  ·rfl
  ·rw [Nat.ble_eq] at h2; omega
 rw [e]
 exact ⟨rfl, by rw [Nat.blt_eq]; exact h⟩
theorem atr {l : List (List Int)} {j : Nat} (h : j < l.length) : l.take (j + 1) = l.take j ++ [l.getD j []] := by
 rw [List.take_add_one, List.getElem?_eq_getElem h, getD_at h]; rfl
theorem a9z (q : List Int) (l : List (List Int)) (j : Nat) : (wS q l j).length ≤ l.length + 1 := by
 have hc := cnt_le q l
 rcases Nat.lt_or_ge (qy q l) j with h | h
 ·rw [(aq0 h).1]
  simp only [zlA, List.length_take, List.length_drop, List.length_cons, List.length_nil]; omega
 ·rw [(alb h).1, List.length_take]; omega
theorem boa {q : List Int} {l : List (List Int)} {j : Nat} (hj : j < l.length) (h : j < qy q l) : wS q l (j + 1) = wS q l j ++ [l.getD j []] ∧ wD q l (j + 1) = wD q l j := by
 have a := alb (q := q) (l := l) (j := j) (by omega)
 have b := alb (q := q) (l := l) (j := j + 1) (by omega)
 rw [a.1, a.2, b.1, b.2, atr hj]
 exact ⟨rfl, rfl⟩
theorem bku {q : List Int} {l : List (List Int)} {j : Nat} (hj : j < l.length) (h : j = qy q l) : wS q l (j + 1) = wS q l j ++ [q] ++ [l.getD j []] ∧ wD q l (j + 1) = true := by
 have a := alb (q := q) (l := l) (j := j) (by omega)
 have b := aq0 (q := q) (l := l) (j := j + 1) (by omega)
 rw [a.1, b.1, b.2, ← h, atr hj]
 refine ⟨?_, rfl⟩
 rw [List.drop_append_of_le_length (by rw [List.length_take]; omega), List.drop_of_length_le (by rw [List.length_take]; omega)]; rfl
theorem beo {q : List Int} {l : List (List Int)} {j : Nat} (hj : j < l.length) (h : qy q l < j) : wS q l (j + 1) = wS q l j ++ [l.getD j []] ∧ wD q l (j + 1) = wD q l j := by
 have a := aq0 (q := q) (l := l) (j := j) (by omega)
 have b := aq0 (q := q) (l := l) (j := j + 1) (by omega)
 rw [a.1, a.2, b.1, b.2, atr hj]
 refine ⟨?_, rfl⟩
 rw [List.drop_append_of_le_length (by rw [List.length_take]; omega), ← List.append_assoc]
theorem bk9 (q : List Int) (l : List (List Int)) : (wD q l l.length = false → wS q l l.length ++ [q] = bn q l) ∧ (wD q l l.length = true → wS q l l.length = bn q l) := by
 have hc := cnt_le q l
 unfold bn
 rcases Nat.lt_or_ge (qy q l) l.length with h | h
 ·have a := aq0 (q := q) (l := l) h
  rw [a.1, a.2, List.take_of_length_le (Nat.le_refl _)]
  exact ⟨fun h => (by cases h), fun _ => rfl⟩
 ·have a := alb (q := q) (l := l) h
  have e : qy q l = l.length := by omega
  rw [a.1, a.2, e, List.drop_of_length_le (Nat.le_refl _), List.append_nil]
  exact ⟨fun _ => rfl, fun h => (by cases h)⟩
def amw (O : OO) (Y : OY) (ds : List Dt) : zG := match ds with
 | [.node [.v (.int .i64 no), .v (.int .i64 h0), .v (.int .i64 h1), .structs l, .v (.int .i64 rt)], .v (.agg ⟨[.int .i64 f, .int .i64 i, .int .i64 a, .int .u64 q, .int .i64 e]⟩)] => some ((Nat.ble l.length 1000) && (cnd l) && (inU q 18446744073709551616) && (bsB [f, i, a, q, e] l) && (iLt (ed (aj f i) l) 0) && (jy 0 1 [f]), [], fun _ => ⟨[.agg [.v (.int .i64 no), .v (.int .i64 (hsub f h0 a 0)), .v (.int .i64 (hsub f h1 a 1)), .row 1, .v (.int .i64 rt)]], [(1, .own 41 (.structs [.i64, .i64, .i64, .u64, .i64] (bn [f, i, a, q, e] l)))]⟩)
 | _ => none
theorem bcy (O : OO) (Y : OY) (no h0 h1 rt : Int) (l : List (List Int)) (f i a q e : Int) (F : FO O) (hy : Y = yO O) (g0 : Nat.ble l.length 1000 = true) (g1 : cnd l = true) (g2 : inU q 18446744073709551616 = true) (g3 : bsB [f, i, a, q, e] l = true) (g4 : iLt (ed (aj f i) l) 0 = true) (g5 : jy 0 1 [f] = true) :
 let T1 := vI no = vI no ∧ vI h0 = vI h0 ∧ vI h1 = vI h1 ∧ vI rt = vI rt; let T2 := vI no = vI no ∧ vI (i64.wrap (di h0 a)) = vI (hsub f h0 a 0) ∧ vI h1 = vI (hsub f h1 a 1) ∧ vI rt = vI rt;
  let T3 := vI no = vI no ∧ vI h0 = vI (hsub f h0 a 0) ∧ vI (i64.wrap (di h0 a)) = vI (hsub f h1 a 1) ∧ vI rt = vI rt; let T4 := vI no = vI no ∧ vI (i64.wrap (di h1 a)) = vI (hsub f h0 a 0) ∧ vI h1 = vI (hsub f h1 a 1) ∧ vI rt = vI rt;
  let T5 := vI no = vI no ∧ vI h0 = vI (hsub f h0 a 0) ∧ vI (i64.wrap (di h1 a)) = vI (hsub f h1 a 1) ∧ vI rt = vI rt; (∃ (x : Nat), x ≤ l.length ∧ (vB false = vB (wD [f, i,
  a, q, e] l x) ∧ vI 0 = vI (iOf x) ∧ True) ∧ T1 ∧ cS [] = cS (wS [f, i, a, q, e] l x) ∧ Array.mk [vI 0, vI 0, vI 0, Value.slice none 0 0, vI 0] = Array.mk [vI 0, vI 0, vI 0,
  Value.slice none 0 0, vI 0] ∧ Array.mk [vI f, vI i, vI a, Value.int .u64 q, vI e] = Array.mk [vI f, vI i, vI a, Value.int .u64 q, vI e] ∧ T1 ∧ cS l = cS l ∧ True) ∧ ∀ (x : Nat), let T6 := app (wS [f, i, a, q, e] l x) [[f, i, a, q, e]];
  let T7 := ay (wS [f, i, a, q, e] l x).length 1; let T8 := app (wS [f, i, a, q, e] l x) [[(l.getD (iOf x).toNat []).getD 0 0, (l.getD (iOf x).toNat []).getD 1 0, (l.getD (iOf x).toNat []).getD 2 0, (l.getD (iOf x).toNat []).getD 3 0, (l.getD (iOf x).toNat []).getD 4 0]];
  let T9 := true && Nat.beq 5 5 && (iOf x).toNat.blt l.length; let T10 := iLe 0 (iOf x) && (iOf x).toNat.blt l.length; x ≤ l.length → If (iLt (iOf x) (iOf (cS l).n)) (If (!wD [f, i,
  a, q, e] l x) (If T10 (If T9 (If (inU q 18446744073709551616 && inU ((l.getD (iOf x).toNat []).getD 3 0) 18446744073709551616) (If (iLt (orZ (qx f ((l.getD (iOf x).toNat []).getD
  0 0)) (qx i ((l.getD (iOf x).toNat []).getD (ay 0 1) 0))) 0) (If ((jd T7 40).ble 140737488355328 && T7.ble 9223372036854775807) (If T10 (If T9 (If ((jd (ay T6.length 1)
  40).ble 140737488355328 && (ay T6.length 1).ble 9223372036854775807) (∃ (x' : Nat), x' ≤ l.length ∧ (iy l.length x').succ ≤ iy l.length x ∧ (vB true = vB (wD [f, i, a, q, e] l
  x') ∧ vI (i64.wrap (dh (iOf x) 1)) = vI (iOf x') ∧ True) ∧ T1 ∧ cS (app T6 [[(l.getD (iOf x).toNat []).getD 0 0, (l.getD (iOf x).toNat []).getD 1 0, (l.getD (iOf x).toNat
  []).getD 2 0, (l.getD (iOf x).toNat []).getD 3 0, (l.getD (iOf x).toNat []).getD 4 0]]) = cS (wS [f, i, a, q, e] l x') ∧ Array.mk [vI 0, vI 0, vI 0, Value.slice none 0 0, vI 0] =
  Array.mk [vI 0, vI 0, vI 0, Value.slice none 0 0, vI 0] ∧ Array.mk [vI f, vI i, vI a, Value.int .u64 q, vI e] = Array.mk [vI f, vI i, vI a, Value.int .u64 q, vI e] ∧ T1 ∧ cS l = cS
  l ∧ True) False) False) False) False) (If T10 (If T9 (If ((jd T7 40).ble 140737488355328 && T7.ble 9223372036854775807) (∃ (x' : Nat), x' ≤ l.length ∧ (iy l.length x').succ ≤
  iy l.length x ∧ (vB (wD [f, i, a, q, e] l x) = vB (wD [f, i, a, q, e] l x') ∧ vI (i64.wrap (dh (iOf x) 1)) = vI (iOf x') ∧ True) ∧ T1 ∧ cS T8 = cS (wS [f, i, a, q, e] l
  x') ∧ Array.mk [vI 0, vI 0, vI 0, Value.slice none 0 0, vI 0] = Array.mk [vI 0, vI 0, vI 0, Value.slice none 0 0, vI 0] ∧ Array.mk [vI f, vI i, vI a, Value.int .u64 q, vI e] =
  Array.mk [vI f, vI i, vI a, Value.int .u64 q, vI e] ∧ T1 ∧ cS l = cS l ∧ True) False) False) False)) False) False) False) (If T10 (If T9 (If ((jd T7 40).ble 140737488355328 &&
  T7.ble 9223372036854775807) (∃ (x' : Nat), x' ≤ l.length ∧ (iy l.length x').succ ≤ iy l.length x ∧ (vB (wD [f, i, a, q, e] l x) = vB (wD [f, i, a, q, e] l x') ∧ vI
  (i64.wrap (dh (iOf x) 1)) = vI (iOf x') ∧ True) ∧ T1 ∧ cS T8 = cS (wS [f, i, a, q, e] l x') ∧ Array.mk [vI 0, vI 0, vI 0, Value.slice none 0 0, vI 0] = Array.mk [vI 0, vI
  0, vI 0, Value.slice none 0 0, vI 0] ∧ Array.mk [vI f, vI i, vI a, Value.int .u64 q, vI e] = Array.mk [vI f, vI i, vI a, Value.int .u64 q, vI e] ∧ T1 ∧ cS l = cS l ∧ True) False)
  False) False)) (If (!wD [f, i, a, q, e] l x) (If ((jd T7 40).ble 140737488355328 && T7.ble 9223372036854775807) (If (iEq f (iOf 0)) (If (iEq f (iOf 0)) (T2 ∧ True ∧ cS T6 = cS
  (bn [f, i, a, q, e] l) ∧ True) (If (iEq f (iOf (ay 0 1))) (T3 ∧ True ∧ cS T6 = cS (bn [f, i, a, q, e] l) ∧ True) False)) (If (iEq f (iOf (ay 0 1))) (If (iEq f (iOf 0)) (T4 ∧
  True ∧ cS T6 = cS (bn [f, i, a, q, e] l) ∧ True) (If (iEq f (iOf (ay 0 1))) (T5 ∧ True ∧ cS T6 = cS (bn [f, i, a, q, e] l) ∧ True) False)) False)) False) (If (iEq f (iOf 0))
  (If (iEq f (iOf 0)) (T2 ∧ True ∧ cS (wS [f, i, a, q, e] l x) = cS (bn [f, i, a, q, e] l) ∧ True) (If (iEq f (iOf (ay 0 1))) (T3 ∧ True ∧ cS (wS [f, i, a, q, e] l x) = cS (bn
  [f, i, a, q, e] l) ∧ True) False)) (If (iEq f (iOf (ay 0 1))) (If (iEq f (iOf 0)) (T4 ∧ True ∧ cS (wS [f, i, a, q, e] l x) = cS (bn [f, i, a, q, e] l) ∧ True) (If (iEq f (iOf
  (ay 0 1))) (T5 ∧ True ∧ cS (wS [f, i, a, q, e] l x) = cS (bn [f, i, a, q, e] l) ∧ True) False)) False))) := by
 conv => zeta
 simp only [iOf, dh, di, Sx.af.n, ztN]
 have hm := zbL g0
 have hf : f = 0 ∨ f = 1 := by
  rw [ww] at g5; omega
 have hwl : ∀ x, ((jd (ay (wS [f, i, a, q, e] l x).length 1) 40).ble 140737488355328 && (ay (wS [f, i, a, q, e] l x).length 1).ble 9223372036854775807) = true := fun x => by
  have := a9z [f, i, a, q, e] l x
  simp only [ay, jd, zaT, Nat.ble_eq]; omega
 have hwl2 : ∀ x, ((jd (ay (app (wS [f, i, a, q, e] l x) [[f, i, a, q, e]]).length 1) 40).ble 140737488355328 && (ay (app (wS [f, i, a, q, e] l x) [[f, i, a, q, e]]).length 1).ble 9223372036854775807) = true := fun x => by
  have := a9z [f, i, a, q, e] l x
  simp only [Sx.app, ay, jd, zaT, Nat.ble_eq, zlA, List.length_cons, List.length_nil]; omega
 refine ⟨⟨0, Nat.zero_le _, ⟨by rw [(alb (Nat.zero_le _)).2], (by repeat' (first | exact True.intro | exact rfl | refine ⟨?_, ?_⟩))⟩, (by repeat' (first | exact True.intro | exact rfl | refine ⟨?_, ?_⟩)), by rw [(alb (Nat.zero_le _)).1]; rfl, (by repeat' (first | exact True.intro | exact rfl | refine ⟨?_, ?_⟩))⟩, fun x hx => ae (fun h => ?_) (fun h => ?_)⟩
 ·simp only [Bz, Sx.af.n] at h
  have hlt : x < l.length := by omega
  have hbl : x.blt l.length = true := by rw [Nat.blt_eq]; exact hlt
  have b1 : (iLe 0 (x : Int) && x.blt l.length) = true := by simp only [Bz, Sx.af.n, hbl, and_true]; omega
  have b2 : (true && Nat.beq 5 5 && x.blt l.length) = true := by rw [hbl]; rfl
  have h5 := aea g1 hlt
  simp only [ay, Nat.zero_add] at *
  rw [h5]
  refine ae (fun d => ziT b1 (ziT b2 (ziT (by rw [g2, aaz g1 hlt]; rfl) (ae (fun w => ?_) (fun w => ?_))))) (fun d => ?_)
  ·have w' : lt2 [f, i, a, q, e] (l.getD x []) := (aex _ _).1 w
   have hn : ¬ x < qy [f, i, a, q, e] l := fun hh => by
    have := (aex _ _).1 ((a3a g3 hlt).2 hh)
    unfold lt2 at w' this; omega
   have hd : wD [f, i, a, q, e] l x = false := by simpa using d
   have he : x = qy [f, i, a, q, e] l := by
    rcases Nat.lt_or_ge (qy [f, i, a, q, e] l) x with h' | h'
    ·rw [(aq0 h').2] at hd; cases hd
    ·omega
   have st := bku hlt he
   exact ziT (hwl x) (ziT b1 (ziT b2 (ziT (hwl2 x) ⟨x + 1, hlt, by simp only [iy]; omega, ⟨by rw [st.2], by rw [wrap_succ (by omega)], trivial⟩, (by repeat' (first | exact True.intro | exact rfl | refine ⟨?_, ?_⟩)), by rw [st.1]; rfl, (by repeat' (first | exact True.intro | exact rfl | refine ⟨?_, ?_⟩))⟩)))
  ·have hn : x < qy [f, i, a, q, e] l := by
    have w' : ¬ lt2 [f, i, a, q, e] (l.getD x []) := fun c => by
     have := (aex _ _).2 c
     rw [show iLt (auf [f, i, a, q, e] (l.getD x [])) 0 = false from w] at this; cases this
    have ne := bkd.1 g4 (l.getD x []) (by rw [getD_at hlt]; exact List.getElem_mem hlt)
    refine (a3a g3 hlt).1 ((aex _ _).2 ?_)
    have q1 : fr [f, i, a, q, e] = f := rfl
    have q2 : idn [f, i, a, q, e] = i := rfl
    unfold lt2 at w' ⊢
    simp only [q1, q2] at w' ⊢
    omega
   have st := boa hlt hn
   exact ziT b1 (ziT b2 (ziT (hwl x) ⟨x + 1, hlt, by simp only [iy]; omega, ⟨by rw [st.2], by rw [wrap_succ (by omega)], trivial⟩, (by repeat' (first | exact True.intro | exact rfl | refine ⟨?_, ?_⟩)), by rw [st.1]; rfl, (by repeat' (first | exact True.intro | exact rfl | refine ⟨?_, ?_⟩))⟩))
  ·have hd : wD [f, i, a, q, e] l x = true := by simpa using d
   have hn : qy [f, i, a, q, e] l < x := by
    rcases Nat.lt_or_ge (qy [f, i, a, q, e] l) x with h' | h'
    ·exact h'
    ·rw [(alb h').2] at hd; cases hd
   have st := beo hlt hn
   exact ziT b1 (ziT b2 (ziT (hwl x) ⟨x + 1, hlt, by simp only [iy]; omega, ⟨by rw [st.2], by rw [wrap_succ (by omega)], trivial⟩, (by repeat' (first | exact True.intro | exact rfl | refine ⟨?_, ?_⟩)), by rw [st.1]; rfl, (by repeat' (first | exact True.intro | exact rfl | refine ⟨?_, ?_⟩))⟩))
 ·simp only [Bz, Sx.af.n] at h
  have hx2 : x = l.length := by omega
  subst hx2
  have en := bk9 [f, i, a, q, e] l
  refine ae (fun d => ziT (hwl _) ?_) (fun d => ?_)
  ·have hd : wD [f, i, a, q, e] l l.length = false := by simpa using d
   have en := en.1 hd
   rcases hf with rfl | rfl
   ·exact ⟨(by repeat' (first | exact True.intro | exact rfl | refine ⟨?_, ?_⟩)), trivial, congrArg _ en, trivial⟩
   ·exact ⟨(by repeat' (first | exact True.intro | exact rfl | refine ⟨?_, ?_⟩)), trivial, congrArg _ en, trivial⟩
  ·have hd : wD [f, i, a, q, e] l l.length = true := by simpa using d
   have en := en.2 hd
   rcases hf with rfl | rfl
   ·exact ⟨(by repeat' (first | exact True.intro | exact rfl | refine ⟨?_, ?_⟩)), trivial, congrArg _ en, trivial⟩
   ·exact ⟨(by repeat' (first | exact True.intro | exact rfl | refine ⟨?_, ?_⟩)), trivial, congrArg _ en, trivial⟩
theorem a9v (I : Sx.Interp) (O : OO) (hO : O = oo) (Y : OY) (hY : Y = yO O) : ag I Tryz.prog 39 (au [.agg [.v, .v, .v, .roS [.i64, .i64, .i64, .u64, .i64], .v], .v] false (amw O Y)) := by
 refine jb (avc I O hO Y hY) (by kernel_rfl) (fun ds => match ds with | [.node [.v (.int .i64 no), .v (.int .i64 h0), .v (.int .i64 h1), .structs l, .v (.int .i64 rt)], .v (.agg ⟨[.int .i64 f, .int .i64 i, .int .i64 a, .int .u64 q, .int .i64 e]⟩)] => [⟨Nat, [2, 3, 4, 5], [(400005, 41, .structs [.i64, .i64, .i64, .u64, .i64] [])], fun B j => [(6, .v (.bool (wD [f, i, a, q, e] l j))), (7, .v (.int .i64 (j : Int)))], fun B j => [(320, .blk 39 [.v (.int .i64 no), .v (.int .i64 h0), .v (.int .i64 h1), .row B, .v (.int .i64 rt)]), (B, .own 41 (.structs [.i64, .i64, .i64, .u64, .i64] (wS [f, i, a, q, e] l j)))], fun j => j ≤ l.length, fun j => l.length - j, 0⟩] | _ => []) Tryz.func39 (by kernel_rfl) (by kernel_rfl) rfl Tryz.ntmps39 (by decide) ?_ ?_
 ·intro ds p bs F h
  unfold amw at h
  split at h
  ·simp only [zsI, zpI] at h
   obtain ⟨_, _, rfl⟩ := h
   kernel_rfl
  ·cases h
 ·intro ds bs F hl h
  unfold amw at h
  split at h
  ·rename_i no h0 h1 l rt f i a q e
   simp only [zsI, zpI, zaT] at h
   obtain ⟨⟨⟨⟨⟨⟨g0, g1⟩, g2⟩, g3⟩, g4⟩, g5⟩, _, rfl⟩ := h
   exact Eq.mpr (by kernel_rfl) (bcy O Y no h0 h1 rt l f i a q e (dn O hO) hY g0 g1 g2 g3 g4 g5)
  ·cases h
def am1 (O : OO) (Y : OY) (ds : List Dt) : zG := match ds with
 | [.node [.v (.int .i64 no), .v (.int .i64 h0), .v (.int .i64 h1), .structs l, .v (.int .i64 rt)], .v (.int .i64 k), .v (.int .i64 side)] => some ((Nat.ble l.length 1000) && (cnd l) && (iLe 0 k) && (iLt k (l.length : Int)) && (jy 0 1 [side]), [], fun _ => ⟨[.agg [.v (.int .i64 no), .v (.int .i64 (bif ax side 0 then i64.wrap (h0 + (l.getD k.toNat []).getD 2 0) else h0)), .v (.int .i64 (bif ax side 0 then h1 else i64.wrap (h1 + (l.getD k.toNat []).getD 2 0))), .row 1, .v (.int .i64 rt)]], [(1, .own 41 (.structs [.i64, .i64, .i64, .u64, .i64] (l.take k.toNat ++ l.drop (k.toNat + 1))))]⟩)
 | _ => none
theorem bd4 (O : OO) (Y : OY) (no h0 h1 rt : Int) (l : List (List Int)) (k side : Int) (F : FO O) (hy : Y = yO O) (g0 : Nat.ble l.length 1000 = true) (g1 : cnd l = true) (g2 : iLe 0 k = true) (g3 : iLt k (l.length : Int) = true) (g4 : jy 0 1 [side] = true) :
 let T1 := List.take (iy (iOf l.length).toNat (i64.wrap (dh k 1)).toNat) (List.drop (i64.wrap (dh k 1)).toNat l); let T2 := List.take (iy k.toNat 0) (List.drop 0 l);
  let T3 := bif ax side 0 then i64.wrap (dh h0 ((l.getD k.toNat []).getD 2 0)) else h0; let T4 := bif ax side 0 then h1 else i64.wrap (dh h1 ((l.getD k.toNat []).getD 2 0));
  let T5 := app (List.take k.toNat l) (List.drop (ay k.toNat 1) l); let T6 := i64.wrap (dh h0 ((l.getD k.toNat []).getD 2 0)); let T7 := i64.wrap (dh h1 ((l.getD k.toNat []).getD 2 0));
  let T8 := true && Nat.beq 5 5 && k.toNat.blt l.length; If (iLe 0 0 && iLe 0 k && iLe k (iOf (cS l).n)) (If ((jd T2.length 40).ble 140737488355328 && T2.length.ble
  9223372036854775807) (If (iLe 0 (i64.wrap (dh k 1)) && iLe (i64.wrap (dh k 1)) (iOf (cS l).n) && iLe (iOf (cS l).n) (iOf (cS l).n)) (If ((jd (ay T2.length
  T1.length) 40).ble 140737488355328 && (ay T2.length T1.length).ble 9223372036854775807) (If (iEq side (iOf 0)) (If (iLe 0 k && k.toNat.blt l.length) (If (k.toNat.blt l.length) (If
  T8 (If (iEq side (iOf 0)) ((vI no = vI no ∧ vI T6 = vI T3 ∧ vI h1 = vI T4 ∧ vI rt = vI rt) ∧ True ∧ cS (app T2 T1) = cS T5 ∧ True) (If (iEq side (iOf (ay 0 1))) ((vI no = vI no ∧
  vI h0 = vI T3 ∧ vI T6 = vI T4 ∧ vI rt = vI rt) ∧ True ∧ cS (app T2 T1) = cS T5 ∧ True) False)) False) False) False) (If (iEq side (iOf (ay 0 1))) (If (iLe 0 k && k.toNat.blt
  l.length) (If (k.toNat.blt l.length) (If T8 (If (iEq side (iOf 0)) ((vI no = vI no ∧ vI T7 = vI T3 ∧ vI h1 = vI T4 ∧ vI rt = vI rt) ∧ True ∧ cS (app T2 T1) = cS T5 ∧ True) (If (iEq
  side (iOf (ay 0 1))) ((vI no = vI no ∧ vI h0 = vI T3 ∧ vI T7 = vI T4 ∧ vI rt = vI rt) ∧ True ∧ cS (app T2 T1) = cS T5 ∧ True) False)) False) False) False) False)) False) False)
  False) False := by
 conv => zeta
 rw [ag4] at g2
 rw [air] at g3
 have hm := zbL g0
 have hk : k.toNat < l.length := by omega
 have ek : k = ((k.toNat : Nat) : Int) := by omega
 have hs : side = 0 ∨ side = 1 := by rw [ww] at g4; omega
 generalize k.toNat = K at hk ek
 subst ek
 have ew : i64.wrap ((K : Int) + 1) = ((K + 1 : Nat) : Int) := by rw [IntWalk.i64_in _ (by omega)]; omega
 have hbl : K.blt l.length = true := by rw [Nat.blt_eq]; exact hk
 have e2 : List.take (l.length - (K + 1)) (List.drop (K + 1) l) = List.drop (K + 1) l := List.take_of_length_le (by rw [List.length_drop]; omega)
 have b1 : (iLe 0 (K : Int) && K.blt l.length) = true := by simp only [Bz, Sx.af.n, hbl, and_true]; omega
 have b2 : (true && Nat.beq 5 5 && K.blt l.length) = true := by rw [hbl]; rfl
 rcases hs with rfl | rfl
 all_goals
  simp only [show iEq (i64.wrap (di 1 0)) (iOf 0) = false from rfl, show iEq (i64.wrap (di 1 0)) (iOf (ay 0 1)) = true from rfl, show iEq (i64.wrap (di 1 1)) (iOf 0) = true from rfl, show iEq (i64.wrap (di 1 1)) (iOf (ay 0 1)) = false from rfl, show iEq (0 : Int) (iOf 0) = true from rfl, show iEq (0 : Int) (iOf (ay 0 1)) = false from rfl, show iEq (1 : Int) (iOf 0) = false from rfl, show iEq (1 : Int) (iOf (ay 0 1)) = true from rfl, show ax (0 : Int) 0 = true from rfl, show ax (0 : Int) 1 = false from rfl, show ax (1 : Int) 0 = false from rfl, show ax (1 : Int) 1 = true from rfl, axe, a7t]
  simp only [iOf, dh, Sx.af.n, ew, ztN, iy, Nat.sub_zero, List.drop_zero]
  rw [e2]
  refine ziT (by simp only [zaT, ag4]; omega) (ziT (by simp only [jd, zaT, Nat.ble_eq, List.length_take]; omega) (ziT (by simp only [zaT, ag4]; omega) (ziT (by simp only [jd, ay, zaT, Nat.ble_eq, List.length_take, List.length_drop]; omega) ?_)))
  exact ziT b1 (ziT hbl (ziT b2 (by repeat' (first | exact True.intro | exact rfl | refine ⟨?_, ?_⟩))))
theorem a8q (I : Sx.Interp) (O : OO) (hO : O = oo) (Y : OY) (hY : Y = yO O) : ag I Tryz.prog 42 (au [.agg [.v, .v, .v, .roS [.i64, .i64, .i64, .u64, .i64], .v], .v, .v] true (am1 O Y)) := by
 refine jb (avc I O hO Y hY) (by kernel_rfl) (fun _ => []) Tryz.func42 (by kernel_rfl) (by kernel_rfl) rfl Tryz.ntmps42 (by decide) ?_ ?_
 ·intro ds p bs F h
  unfold am1 at h
  split at h
  ·simp only [zsI, zpI] at h
   obtain ⟨_, _, rfl⟩ := h
   kernel_rfl
  ·cases h
 ·intro ds bs F hl h
  unfold am1 at h
  split at h
  ·rename_i no h0 h1 l rt k side
   simp only [zsI, zpI, zaT] at h
   obtain ⟨⟨⟨⟨⟨g0, g1⟩, g2⟩, g3⟩, g4⟩, _, rfl⟩ := h
   exact Eq.mpr (by kernel_rfl) (bd4 O Y no h0 h1 rt l k side (dn O hO) hY g0 g1 g2 g3 g4)
  ·cases h
def bnb (O : OO) (Y : OY) (f : FuncId) : Option Sx.Spec := match f with
 | 39 => some (au [.agg [.v, .v, .v, .roS [.i64, .i64, .i64, .u64, .i64], .v], .v] false (amw O Y))
 | 42 => some (au [.agg [.v, .v, .v, .roS [.i64, .i64, .i64, .u64, .i64], .v], .v, .v] true (am1 O Y))
 | f => bnz O Y f
theorem aju (I : Sx.Interp) (O : OO) (hO : O = oo) (Y : OY) (hY : Y = yO O) : ∀ f s, bnb O Y f = some s → ag I Tryz.prog f s := by
 intro f s h
 unfold bnb at h
 split at h
 · cases h; exact a9v I O hO Y hY
 · cases h; exact a8q I O hO Y hY
 ·exact avc I O hO Y hY _ s h
def atn (O : OO) (Y : OY) (ds : List Dt) : zG := match ds with
 | [.v (.agg ch), .node [.v (.int .i64 no), .v (.int .i64 h0), .v (.int .i64 h1), .structs l, .v (.int .i64 rt)], .v (.agg ⟨[.int .i64 f, .int .i64 i, .int .i64 a, .int .u64 q, .int .i64 e]⟩)] => some ((chB ch) && (Nat.ble l.length 1000) && (cnd l) && (inU q 18446744073709551616), [], fun _ => ⟨[.agg [.v (.int .i64 (bif ax (gm O (cz ch) no h0 h1 rt l f i a q e) 0 then no else 0)), .v (.int .i64 (bif ax (gm O (cz ch) no h0 h1 rt l f i a q e) 0 then (hsub f h0 a 0) else 0)), .v (.int .i64 (bif ax (gm O (cz ch) no h0 h1 rt l f i a q e) 0 then (hsub f h1 a 1) else 0)), .row 1, .v (.int .i64 (bif ax (gm O (cz ch) no h0 h1 rt l f i a q e) 0 then rt else 0))], .v (.int .i64 (gm O (cz ch) no h0 h1 rt l f i a q e))], [(1, .ro (.structs [.i64, .i64, .i64, .u64, .i64] (bif ax (gm O (cz ch) no h0 h1 rt l f i a q e) 0 then (bn [f, i, a, q, e] l) else [])))]⟩)
 | _ => none
theorem bjx (O : OO) (Y : OY) (c : Nat → Int) (no h0 h1 rt : Int) (l : List (List Int)) (f i a q e : Int) (F : FO O) (hy : Y = yO O) (hc : chB (chA c) = true) (g0 : Nat.ble l.length 1000 = true) (g1 : cnd l = true) (g2 : inU q 18446744073709551616 = true) (ec : cz (chA c) = c) :
 let T1 := lfP (gm O c no h0 h1 rt l f i a q e) no (hsub f h0 a 0) (hsub f h1 a 1) rt (bn [f, i, a, q, e] l) no (hsub f h0 a 0) (hsub f h1 a 1) rt 0 (bn [f, i, a, q, e] l); let T2 := lfP (gm O c no h0 h1 rt l f i a q e) no (hsub f h0 a 0) (hsub f h1 a 1) rt (bn [f, i, a, q, e] l) 0 0 0 0 10 [];
  let T3 := If (iEq (c 56) (iOf 0)) (If (iLt (hsub f h0 a 0) (jg rt (iOf (bn [f, i, a, q, e] l).length))) (lfP (gm O c no h0 h1 rt l f i a q e) no (hsub f h0 a 0) (hsub f h1 a 1) rt (bn [f, i, a, q, e] l) 0 0 0 0 8 []) (If (iEq f (iOf 0)) (If (ax f (c 56)) (If (iLt (i64.wrap (di (hsub f h0 a 0) (jg rt (iOf (bn [f, i, a, q, e] l).length)))) (c 45)) T2 T1) (If (iLt (hsub f h0 a 0) (c 45)) T2 T1)) (If (iEq f (iOf (ay 0 1))) (If (ax f (c 56)) (If (iLt (i64.wrap (di (hsub f h1 a 1) (jg rt (iOf (bn [f, i, a, q, e] l).length)))) (c 45)) T2 T1) (If (iLt (hsub f h1 a 1) (c 45)) T2 T1)) False))) (If (iEq (c 56) (iOf (ay 0 1))) (If (iLt (hsub f h1 a 1) (jg rt (iOf (bn [f, i, a, q, e] l).length))) (lfP (gm O c no h0 h1 rt l f i a q e) no (hsub f h0 a 0) (hsub f h1 a 1) rt (bn [f, i, a, q, e] l) 0 0 0 0 8 []) (If (iEq f (iOf 0)) (If (ax f (c 56)) (If (iLt (i64.wrap (di (hsub f h0 a 0) (jg rt (iOf (bn [f, i, a, q, e] l).length)))) (c 45)) T2 T1) (If (iLt (hsub f h0 a 0) (c 45)) T2 T1)) (If (iEq f (iOf (ay 0 1))) (If (ax f (c 56)) (If (iLt (i64.wrap (di (hsub f h1 a 1) (jg rt (iOf (bn [f, i, a, q, e] l).length)))) (c 45)) T2 T1) (If (iLt (hsub f h1 a 1) (c 45)) T2 T1)) False))) False);
  let T4 := If (iEq (c 56) (iOf 0)) (If (iLt (hsub f h0 a 0) (jg rt (iOf (bn [f, i, a, q, e] l).length))) (lfP (gm O c no h0 h1 rt l f i a q e) no (hsub f h0 a 0) (hsub f h1 a 1) rt (bn [f, i, a, q, e] l) 0 0 0 0 8 []) (If (iEq f (iOf 0)) (If (ax f (c 56)) (If (iLt (i64.wrap (di (hsub f h0 a 0) (jg rt (iOf (bn [f, i, a, q, e] l).length)))) (c 51)) T2 T1) (If (iLt (hsub f h0 a 0) (c 51)) T2 T1)) (If (iEq f (iOf (ay 0 1))) (If (ax f (c 56)) (If (iLt (i64.wrap (di (hsub f h1 a 1) (jg rt (iOf (bn [f, i, a, q, e] l).length)))) (c 51)) T2 T1) (If (iLt (hsub f h1 a 1) (c 51)) T2 T1)) False))) (If (iEq (c 56) (iOf (ay 0 1))) (If (iLt (hsub f h1 a 1) (jg rt (iOf (bn [f, i, a, q, e] l).length))) (lfP (gm O c no h0 h1 rt l f i a q e) no (hsub f h0 a 0) (hsub f h1 a 1) rt (bn [f, i, a, q, e] l) 0 0 0 0 8 []) (If (iEq f (iOf 0)) (If (ax f (c 56)) (If (iLt (i64.wrap (di (hsub f h0 a 0) (jg rt (iOf (bn [f, i, a, q, e] l).length)))) (c 51)) T2 T1) (If (iLt (hsub f h0 a 0) (c 51)) T2 T1)) (If (iEq f (iOf (ay 0 1))) (If (ax f (c 56)) (If (iLt (i64.wrap (di (hsub f h1 a 1) (jg rt (iOf (bn [f, i, a, q, e] l).length)))) (c 51)) T2 T1) (If (iLt (hsub f h1 a 1) (c 51)) T2 T1)) False))) False);
  let T5 := lfP (gm O c no h0 h1 rt l f i a q e) no (hsub f h0 a 0) (hsub f h1 a 1) rt (bn [f, i, a, q, e] l) 0 0 0 0 3 []; let T6 := lfP (gm O c no h0 h1 rt l f i a q e) no (hsub f h0 a 0) (hsub f h1 a 1) rt (bn [f, i, a, q, e] l) 0 0 0 0 8 [];
  let T7 := l.length.ble 1000 && cnd l && inU q 18446744073709551616 && bsB [f, i, a, q, e] l && iLt (ed (aj f i) l) 0 && jy 0 1 [f]; let T8 := lfP (gm O c no h0 h1 rt l f i a q e) no (hsub f h0 a 0) (hsub f h1 a 1) rt (bn [f, i, a, q, e] l) 0 0 0 0 1 [];
  let T9 := lfP (gm O c no h0 h1 rt l f i a q e) no (hsub f h0 a 0) (hsub f h1 a 1) rt (bn [f, i, a, q, e] l) 0 0 0 0 9 []; let T10 := lfP (gm O c no h0 h1 rt l f i a q e) no (hsub f h0 a 0) (hsub f h1 a 1) rt (bn [f, i, a, q, e] l) 0 0 0 0 6 [];
  let T11 := i64.wrap (dh (og (i64.wrap (di 1 f)) l) a); let T12 := chB (chA c) && (bn [f, i, a, q, e] l).length.ble 1000; If (chB (chA c) && l.length.ble 1000
  && cnd l) (If (inU q 18446744073709551616) (If (!jh O (cz (chA c)) no h0 h1 rt l) T8 (If (!yg O f i a q e) T8 (If (l.length.ble 1000) (If (iLe 0 (ed (aj f i) l)) (lfP
  (gm O c no h0 h1 rt l f i a q e) no (hsub f h0 a 0) (hsub f h1 a 1) rt (bn [f, i, a, q, e] l) 0 0 0 0 4 []) (If (iEq (i64.wrap (di 1 f)) (iOf 0)) (If (l.length.ble
  1000) (If (iLt a (c 48)) T9 (If (ax (iOf l.length) 16) T5 (If (iLe (c 47) (o7 (i64.wrap (di 1 f)) l)) T5 (If (iLt (c 49) T11) T10 (If T7 (If T12 (If (iEq f (iOf 0))
  (If (iLt (hsub f h0 a 0) 0) T6 T3) (If (iEq f (iOf (ay 0 1))) (If (iLt (hsub f h1 a 1) 0) T6 T3) False)) False) False))))) False) (If (iEq (i64.wrap (di 1 f)) (iOf (ay
  0 1))) (If (l.length.ble 1000) (If (iLt a (c 54)) T9 (If (ax (iOf l.length) 16) T5 (If (iLe (c 53) (o7 (i64.wrap (di 1 f)) l)) T5 (If (iLt (c 55) T11) T10 (If T7 (If
  T12 (If (iEq f (iOf 0)) (If (iLt (hsub f h0 a 0) 0) T6 T4) (If (iEq f (iOf (ay 0 1))) (If (iLt (hsub f h1 a 1) 0) T6 T4) False)) False) False))))) False) False))) False))) False)
  False := by
 conv => zeta
 simp only [ec]
 refine ziT (by rw [hc, g0, g1]; rfl) (ziT g2 (ae (fun a => eu (by unfold gm; rw [a]; rfl) rfl) (fun a1 => ae (fun a => eu (by unfold gm; rw [a1, a]; rfl) rfl) (fun a3 => ?_))))
 have hr : jh O c no h0 h1 rt l = true := by simpa using a1
 have hfi : yg O f i a q e = true := by simpa using a3
 have hf : f = 0 ∨ f = 1 := by have := (aba.1 hfi).1; omega
 have hE := addZ hr hfi hf
 unfold jm at hE
 have hn : iLe 0 (ed (aj f i) l) = false → (l.length.ble 1000 && cnd l && inU q 18446744073709551616 && bsB [f, i, a, q, e] l && iLt (ed (aj f i) l) 0 && jy 0 1 [f]) = true := fun h => by
  rw [g0, g1, g2, aad hr, show iLt (ed (aj f i) l) 0 = true by rw [ajt] at h; rw [air]; omega, show jy 0 1 [f] = true by rw [ww]; omega]; rfl
 have hv : (chB (chA c) && (bn [f, i, a, q, e] l).length.ble 1000) = true := by
  have := (qo.1 hr).len
  rw [hc, ae7, show (l.length + 1).ble 1000 = true by rw [Nat.ble_eq]; omega]; rfl
 rcases hf with rfl | rfl <;> rcases akj hc (qo.1 hr).fit with ho | ho <;> rw [ho] at hE <;> simp only [ho, show iEq (i64.wrap (di 1 0)) (iOf 0) = false from rfl, show iEq (i64.wrap (di 1 0)) (iOf (ay 0 1)) = true from rfl, show iEq (i64.wrap (di 1 1)) (iOf 0) = true from rfl, show iEq (i64.wrap (di 1 1)) (iOf (ay 0 1)) = false from rfl, show iEq (0 : Int) (iOf 0) = true from rfl, show iEq (0 : Int) (iOf (ay 0 1)) = false from rfl, show iEq (1 : Int) (iOf 0) = false from rfl, show iEq (1 : Int) (iOf (ay 0 1)) = true from rfl, show ax (0 : Int) 0 = true from rfl, show ax (0 : Int) 1 = false from rfl, show ax (1 : Int) 0 = false from rfl, show ax (1 : Int) 1 = true from rfl, axe, a7t]
 all_goals exact addW (P := fun k => lfP _ _ _ _ _ _ 0 0 0 0 k []) hE (fun k hk e => eu e hk) (fun e => aca e rfl rfl rfl) g0 g0 hn hv
theorem bi0 (I : Sx.Interp) (O : OO) (hO : O = oo) (Y : OY) (hY : Y = yO O) : ag I Tryz.prog 7 (au [.v, .agg [.v, .v, .v, .roS [.i64, .i64, .i64, .u64, .i64], .v], .v] true (atn O Y)) := by
 refine yc (aju I O hO Y hY) (by kernel_rfl) (fun _ => []) (fun ds => match ds with | [.v (.agg ch), .node [.v (.int .i64 no), .v (.int .i64 h0), .v (.int .i64 h1), .structs l, .v (.int .i64 rt)], .v (.agg ⟨[.int .i64 f, .int .i64 i, .int .i64 a, .int .u64 q, .int .i64 e]⟩)] => [(400006, 41, .structs [.i64, .i64, .i64, .u64, .i64] [])] | _ => []) Tryz.func7 (by kernel_rfl) (by kernel_rfl) rfl Tryz.ntmps7 (by decide) ?_ ?_
 ·intro ds p bs F h
  unfold atn at h
  split at h
  ·simp only [zsI, zpI] at h
   obtain ⟨_, _, rfl⟩ := h
   kernel_rfl
  ·cases h
 ·intro ds bs F hl h
  unfold atn at h
  split at h
  ·rename_i ch no h0 h1 l rt f i a q e
   simp only [zsI, zpI, zaT] at h
   obtain ⟨⟨⟨⟨hc, g0⟩, g1⟩, g2⟩, _, rfl⟩ := h
   obtain ⟨c, ec, rfl⟩ : ∃ c, cz ch = c ∧ ch = chA c := ⟨_, rfl, aak hc⟩
   simp only [ec]
   exact Eq.mpr (by kernel_rfl) (bjx O Y c no h0 h1 rt l f i a q e (dn O hO) hY hc g0 g1 g2 (ec))
  ·cases h
def ata (O : OO) (Y : OY) (ds : List Dt) : zG := match ds with
 | [.v (.agg ch), .node [.v (.int .i64 no), .v (.int .i64 h0), .v (.int .i64 h1), .structs l, .v (.int .i64 rt)], .v (.int .i64 fr), .v (.int .i64 id), .v (.int .u64 k)] => some ((chB ch) && (Nat.ble l.length 1000) && (cnd l) && (inU k 18446744073709551616), [], fun _ => ⟨[.agg [.v (.int .i64 (bif ax (aas O (cz ch) no h0 h1 rt l fr id k) 0 then no else 0)), .v (.int .i64 (bif ax (aas O (cz ch) no h0 h1 rt l fr id k) 0 then (hadd fr h0 (ak fr id l 2) 1) else 0)), .v (.int .i64 (bif ax (aas O (cz ch) no h0 h1 rt l fr id k) 0 then (hadd fr h1 (ak fr id l 2) 0) else 0)), .row 1, .v (.int .i64 (bif ax (aas O (cz ch) no h0 h1 rt l fr id k) 0 then rt else 0))], .v (.int .i64 (aas O (cz ch) no h0 h1 rt l fr id k))], [(1, .ro (.structs [.i64, .i64, .i64, .u64, .i64] (bif ax (aas O (cz ch) no h0 h1 rt l fr id k) 0 then (mg [ak fr id l 0, ak fr id l 1, ak fr id l 2, ak fr id l 3, ak fr id l 4] l) else [])))]⟩)
 | _ => none
theorem bi2 (O : OO) (Y : OY) (c : Nat → Int) (no h0 h1 rt : Int) (l : List (List Int)) (fr id k : Int) (F : FO O) (hy : Y = yO O) (hc : chB (chA c) = true) (g0 : Nat.ble l.length 1000 = true) (g1 : cnd l = true) (g2 : inU k 18446744073709551616 = true) (ec : cz (chA c) = c) :
 let T1 := mg [ak fr id l 0, ak fr id l 1, ak fr id l 2, ak fr id l 3, ak fr id l 4] l; let T2 := l.getD (ed (aj fr id) l).toNat []; If (chB (chA c) &&
  l.length.ble 1000 && cnd l) (If (!jh O (cz (chA c)) no h0 h1 rt l) (lfP (aas O c no h0 h1 rt l fr id k) no (hadd fr h0 (ak fr id l 2) 1) (hadd fr h1 (ak fr id l 2) 0) rt
  T1 0 0 0 0 1 []) (If (l.length.ble 1000) (If (iLt (ed (aj fr id) l) 0) (lfP (aas O c no h0 h1 rt l fr id k) no (hadd fr h0 (ak fr id l 2) 1) (hadd fr h1 (ak fr id l 2)
  0) rt T1 0 0 0 0 5 []) (If (inU k 18446744073709551616) (If (iLe 0 (ed (aj fr id) l) && (ed (aj fr id) l).toNat.blt l.length) (If ((ed (aj fr id) l).toNat.blt
  l.length) (If (true && Nat.beq 5 5 && (ed (aj fr id) l).toNat.blt l.length) (If (qc (O.jl k) (T2.getD 3 0)) (lfP (aas O c no h0 h1 rt l fr id k) no (hadd fr h0 (ak fr
  id l 2) 1) (hadd fr h1 (ak fr id l 2) 0) rt T1 0 0 0 0 23 []) (If (l.length.ble 1000 && cnd l && iLe 0 (ed (aj fr id) l) && iLt (ed (aj fr id) l) (iOf l.length) &&
  jy 0 1 [i64.wrap (di 1 fr)]) (lfP (aas O c no h0 h1 rt l fr id k) no (hadd fr h0 (ak fr id l 2) 1) (hadd fr h1 (ak fr id l 2) 0) rt T1 no (bif ax
  (i64.wrap (di 1 fr)) 0 then i64.wrap (dh h0 (T2.getD 2 0)) else h0) (bif ax (i64.wrap (di 1 fr)) 0 then h1 else i64.wrap (dh h1 (T2.getD 2
  0))) rt 0 (app (List.take (ed (aj fr id) l).toNat l) (List.drop (ay (ed (aj fr id) l).toNat 1) l))) False)) False) False) False) False)) False)) False := by
 conv => zeta
 simp only [ec]
 refine ziT (by rw [hc, g0, g1]; rfl) (ae (fun a => eu (by unfold aas; rw [a]; rfl) rfl) (fun a1 => ziT g0 (ae (fun b => eu (by unfold aas; rw [a1, b]; rfl) rfl) (fun b => ?_))))
 have hr : jh O c no h0 h1 rt l = true := by simpa using a1
 obtain ⟨hK, hK0⟩ := (ahc (aj fr id) l).2 b
 have hb : (ed (aj fr id) l).toNat.blt l.length = true := by rw [Nat.blt_eq]; exact hK
 have eC : ∀ j, ak fr id l j = (l.getD (ed (aj fr id) l).toNat []).getD j 0 := fun j => by unfold ak; rw [b]; rfl
 have k1 : iLe 0 (ed (aj fr id) l) = true := by rw [ag4]; exact hK0
 have k2 : iLt (ed (aj fr id) l) (iOf l.length) = true := by
  show iLt _ ((l.length : Nat) : Int) = true
  rw [air]; omega
 have hL := bci (qo.1 hr).sorted b
 obtain ⟨hf, _⟩ := agl hr b
 refine ziT g2 (ziT (by rw [hb, k1]; rfl) (ziT hb (ziT (by rw [hb]; rfl) (ae (fun d => eu (by unfold aas; rw [a1, b, eC 3, d]; rfl) rfl) (fun d => ?_)))))
 have hE : aas O c no h0 h1 rt l fr id k = 0 := by unfold aas; rw [a1, b, eC 3, d]; rfl
 rcases hf with rfl | rfl
 ·exact ziT (by rw [g0, g1, k1, k2]; rfl) (aca hE (by rw [eC 2] <;> rfl) (by rw [eC 2] <;> rfl) hL)
 ·exact ziT (by rw [g0, g1, k1, k2]; rfl) (aca hE (by rw [eC 2] <;> rfl) (by rw [eC 2] <;> rfl) hL)
theorem be7 (I : Sx.Interp) (O : OO) (hO : O = oo) (Y : OY) (hY : Y = yO O) : ag I Tryz.prog 9 (au [.v, .agg [.v, .v, .v, .roS [.i64, .i64, .i64, .u64, .i64], .v], .v, .v, .v] true (ata O Y)) := by
 refine yc (aju I O hO Y hY) (by kernel_rfl) (fun _ => []) (fun ds => match ds with | [.v (.agg ch), .node [.v (.int .i64 no), .v (.int .i64 h0), .v (.int .i64 h1), .structs l, .v (.int .i64 rt)], .v (.int .i64 fr), .v (.int .i64 id), .v (.int .u64 k)] => [(400010, 41, .structs [.i64, .i64, .i64, .u64, .i64] [])] | _ => []) Tryz.func9 (by kernel_rfl) (by kernel_rfl) rfl Tryz.ntmps9 (by decide) ?_ ?_
 ·intro ds p bs F h
  unfold ata at h
  split at h
  ·simp only [zsI, zpI] at h
   obtain ⟨_, _, rfl⟩ := h
   kernel_rfl
  ·cases h
 ·intro ds bs F hl h
  unfold ata at h
  split at h
  ·rename_i ch no h0 h1 l rt fr id k
   simp only [zsI, zpI, zaT] at h
   obtain ⟨⟨⟨⟨hc, g0⟩, g1⟩, g2⟩, _, rfl⟩ := h
   obtain ⟨c, ec, rfl⟩ : ∃ c, cz ch = c ∧ ch = chA c := ⟨_, rfl, aak hc⟩
   simp only [ec]
   exact Eq.mpr (by kernel_rfl) (bi2 O Y c no h0 h1 rt l fr id k (dn O hO) hY hc g0 g1 g2 (ec))
  ·cases h
def amg (O : OO) (Y : OY) (ds : List Dt) : zG := match ds with
 | [.v (.agg ch), .node [.v (.int .i64 no), .v (.int .i64 h0), .v (.int .i64 h1), .structs l, .v (.int .i64 rt)], .v (.int .i64 fr), .v (.int .i64 id)] => some ((chB ch) && (Nat.ble l.length 1000) && (cnd l), [], fun _ => ⟨[.agg [.v (.int .i64 (bif ax (vz O (cz ch) no h0 h1 rt l fr id) 0 then no else 0)), .v (.int .i64 (bif ax (vz O (cz ch) no h0 h1 rt l fr id) 0 then (hadd fr h0 (ak fr id l 2) 0) else 0)), .v (.int .i64 (bif ax (vz O (cz ch) no h0 h1 rt l fr id) 0 then (hadd fr h1 (ak fr id l 2) 1) else 0)), .row 1, .v (.int .i64 (bif ax (vz O (cz ch) no h0 h1 rt l fr id) 0 then rt else 0))], .v (.int .i64 (vz O (cz ch) no h0 h1 rt l fr id))], [(1, .ro (.structs [.i64, .i64, .i64, .u64, .i64] (bif ax (vz O (cz ch) no h0 h1 rt l fr id) 0 then (mg [ak fr id l 0, ak fr id l 1, ak fr id l 2, ak fr id l 3, ak fr id l 4] l) else [])))]⟩)
 | _ => none
theorem baf (O : OO) (Y : OY) (c : Nat → Int) (no h0 h1 rt : Int) (l : List (List Int)) (fr id : Int) (F : FO O) (hy : Y = yO O) (hc : chB (chA c) = true) (g0 : Nat.ble l.length 1000 = true) (g1 : cnd l = true) (ec : cz (chA c) = c) :
 let T1 := mg [ak fr id l 0, ak fr id l 1, ak fr id l 2, ak fr id l 3, ak fr id l 4] l; If (chB (chA c) && l.length.ble 1000 && cnd l) (If (!jh O (cz (chA c)) no
  h0 h1 rt l) (lfP (vz O c no h0 h1 rt l fr id) no (hadd fr h0 (ak fr id l 2) 0) (hadd fr h1 (ak fr id l 2) 1) rt T1 0 0 0 0 1 []) (If (l.length.ble 1000) (If (iLt (ed
  (aj fr id) l) 0) (lfP (vz O c no h0 h1 rt l fr id) no (hadd fr h0 (ak fr id l 2) 0) (hadd fr h1 (ak fr id l 2) 1) rt T1 0 0 0 0 5 []) (If (l.length.ble 1000 && cnd l &&
  iLe 0 (ed (aj fr id) l) && iLt (ed (aj fr id) l) (iOf l.length) && jy 0 1 [fr]) (lfP (vz O c no h0 h1 rt l fr id) no (hadd fr h0 (ak fr id l 2) 0) (hadd fr h1
  (ak fr id l 2) 1) rt T1 no (bif ax fr 0 then i64.wrap (dh h0 ((l.getD (ed (aj fr id) l).toNat []).getD 2 0)) else h0) (bif ax fr 0 then h1 else
  i64.wrap (dh h1 ((l.getD (ed (aj fr id) l).toNat []).getD 2 0))) rt 0 (app (List.take (ed (aj fr id) l).toNat l) (List.drop (ay (ed (aj fr id) l).toNat
  1) l))) False)) False)) False := by
 conv => zeta
 simp only [ec]
 refine ziT (by rw [hc, g0, g1]; rfl) (ae (fun a => eu (by unfold vz; rw [a]; rfl) rfl) (fun a1 => ziT g0 (ae (fun b => eu (by unfold vz; rw [a1, b]; rfl) rfl) (fun b => ?_))))
 have hr : jh O c no h0 h1 rt l = true := by simpa using a1
 obtain ⟨hK, hK0⟩ := (ahc (aj fr id) l).2 b
 have hb : (ed (aj fr id) l).toNat.blt l.length = true := by rw [Nat.blt_eq]; exact hK
 have eC : ∀ j, ak fr id l j = (l.getD (ed (aj fr id) l).toNat []).getD j 0 := fun j => by unfold ak; rw [b]; rfl
 have k1 : iLe 0 (ed (aj fr id) l) = true := by rw [ag4]; exact hK0
 have k2 : iLt (ed (aj fr id) l) (iOf l.length) = true := by
  show iLt _ ((l.length : Nat) : Int) = true
  rw [air]; omega
 have hL := bci (qo.1 hr).sorted b
 obtain ⟨hf, _⟩ := agl hr b
 have hE : vz O c no h0 h1 rt l fr id = 0 := by unfold vz; rw [a1, b]; rfl
 rcases hf with rfl | rfl
 ·exact ziT (by rw [g0, g1, k1, k2]; rfl) (aca hE (by rw [eC 2] <;> rfl) (by rw [eC 2] <;> rfl) hL)
 ·exact ziT (by rw [g0, g1, k1, k2]; rfl) (aca hE (by rw [eC 2] <;> rfl) (by rw [eC 2] <;> rfl) hL)
theorem bdp (I : Sx.Interp) (O : OO) (hO : O = oo) (Y : OY) (hY : Y = yO O) : ag I Tryz.prog 11 (au [.v, .agg [.v, .v, .v, .roS [.i64, .i64, .i64, .u64, .i64], .v], .v, .v] true (amg O Y)) := by
 refine yc (aju I O hO Y hY) (by kernel_rfl) (fun _ => []) (fun ds => match ds with | [.v (.agg ch), .node [.v (.int .i64 no), .v (.int .i64 h0), .v (.int .i64 h1), .structs l, .v (.int .i64 rt)], .v (.int .i64 fr), .v (.int .i64 id)] => [(400008, 41, .structs [.i64, .i64, .i64, .u64, .i64] [])] | _ => []) Tryz.func11 (by kernel_rfl) (by kernel_rfl) rfl Tryz.ntmps11 (by decide) ?_ ?_
 ·intro ds p bs F h
  unfold amg at h
  split at h
  ·simp only [zsI, zpI] at h
   obtain ⟨_, _, rfl⟩ := h
   kernel_rfl
  ·cases h
 ·intro ds bs F hl h
  unfold amg at h
  split at h
  ·rename_i ch no h0 h1 l rt fr id
   simp only [zsI, zpI, zaT] at h
   obtain ⟨⟨⟨hc, g0⟩, g1⟩, _, rfl⟩ := h
   obtain ⟨c, ec, rfl⟩ : ∃ c, cz ch = c ∧ ch = chA c := ⟨_, rfl, aak hc⟩
   simp only [ec]
   exact Eq.mpr (by kernel_rfl) (baf O Y c no h0 h1 rt l fr id (dn O hO) hY hc g0 g1 (ec))
  ·cases h
def al5 (O : OO) (Y : OY) (ds : List Dt) : zG := match ds with
 | [.v (.agg ch), .node [.v (.int .i64 no), .v (.int .i64 h0), .v (.int .i64 h1), .structs l, .v (.int .i64 rt)], .v (.int .i64 r)] => some ((chB ch) && (Nat.ble l.length 1000) && (cnd l), [], fun _ => ⟨[.agg [.v (.int .i64 (bif ax (ny O (cz ch) no h0 h1 rt l r) 0 then no else 0)), .v (.int .i64 (bif ax (ny O (cz ch) no h0 h1 rt l r) 0 then h0 else 0)), .v (.int .i64 (bif ax (ny O (cz ch) no h0 h1 rt l r) 0 then h1 else 0)), .row 1, .v (.int .i64 (bif ax (ny O (cz ch) no h0 h1 rt l r) 0 then r else 0))], .v (.int .i64 (ny O (cz ch) no h0 h1 rt l r))], [(1, .ro (.structs [.i64, .i64, .i64, .u64, .i64] (bif ax (ny O (cz ch) no h0 h1 rt l r) 0 then l else [])))]⟩)
 | _ => none
theorem bcp (O : OO) (Y : OY) (c : Nat → Int) (no h0 h1 rt : Int) (l : List (List Int)) (r : Int) (F : FO O) (hy : Y = yO O) (hc : chB (chA c) = true) (g0 : Nat.ble l.length 1000 = true) (g1 : cnd l = true) (ec : cz (chA c) = c) :
 let T1 := lfP (ny O c no h0 h1 rt l r) no h0 h1 r l no h0 h1 r 0 l; let T2 := lfP (ny O c no h0 h1 rt l r) no h0 h1 r l 0 0 0 0 10 []; let T3 := i64.wrap (di h0 (jg r (iOf l.length)));
  let T4 := i64.wrap (di h1 (jg r (iOf l.length))); let T5 := lfP (ny O c no h0 h1 rt l r) no h0 h1 r l 0 0 0 0 1 []; let T6 := lfP (ny O c no h0 h1 rt l r) no h0 h1 r l 0 0 0 0 8 [];
  let T7 := iEq (i64.wrap (di 1 (c 56))) (iOf (ay 0 1)); let T8 := iEq (i64.wrap (di 1 (c 56))) (iOf 0); If (chB (chA c) && l.length.ble 1000 && cnd l) (If
  (!jh O (cz (chA c)) no h0 h1 rt l) T5 (If (!inB r 0 1000) T5 (If ((jd l.length 40).ble 140737488355328 && l.length.ble 9223372036854775807) (If (iEq (c 56) (iOf 0)) (If (chB
  (chA c) && l.length.ble 1000) (If (iLt T3 0) T6 (If (iLt rt r) (If T8 (If (iLt T3 (c 45)) T2 T1) (If T7 (If (iLt T3 (c 51)) T2 T1) False)) T1)) False) (If (iEq (c 56) (iOf (ay 0
  1))) (If (chB (chA c) && l.length.ble 1000) (If (iLt T4 0) T6 (If (iLt rt r) (If T8 (If (iLt T4 (c 45)) T2 T1) (If T7 (If (iLt T4 (c 51)) T2 T1) False)) T1)) False) False)) False)))
  False := by
 conv => zeta
 simp only [ec]
 have hm := zbL g0
 refine ziT (by rw [hc, g0, g1]; rfl) (ae (fun a => eu (by unfold ny; rw [a]; rfl) rfl) (fun a1 => ae (fun a => eu (by unfold ny; rw [a1, yj, a]; rfl) rfl) (fun a2 => ?_)))
 have hr : jh O c no h0 h1 rt l = true := by simpa using a1
 rcases akj hc (qo.1 hr).fit with ho | ho
 ·simp only [ho, show iEq (i64.wrap (di 1 0)) (iOf 0) = false from rfl, show iEq (i64.wrap (di 1 0)) (iOf (ay 0 1)) = true from rfl, show iEq (i64.wrap (di 1 1)) (iOf 0) = true from rfl, show iEq (i64.wrap (di 1 1)) (iOf (ay 0 1)) = false from rfl, show iEq (0 : Int) (iOf 0) = true from rfl, show iEq (0 : Int) (iOf (ay 0 1)) = false from rfl, show iEq (1 : Int) (iOf 0) = false from rfl, show iEq (1 : Int) (iOf (ay 0 1)) = true from rfl, show ax (0 : Int) 0 = true from rfl, show ax (0 : Int) 1 = false from rfl, show ax (1 : Int) 0 = false from rfl, show ax (1 : Int) 1 = true from rfl, axe, a7t]
  have hR : ny O c no h0 h1 rt l r = (bif (bif !(jh O c no h0 h1 rt l) then true else !(inB r 0 1000)) then 1 else bif iLt (i64.wrap (h0 - jg r l.length)) 0 then 8 else bif (bif iLt rt r then iLt (i64.wrap (h0 - jg r l.length)) (c 51) else false) then 10 else 0) := by
   unfold ny jm
   rw [ho, yj]; rfl
  refine ziT (by simp only [jd, zaT, Nat.ble_eq]; omega) (ziT (by rw [hc, g0]; rfl) (ae (fun a => eu (by rw [hR, a1, a2, show iLt (i64.wrap (h0 - jg r l.length)) 0 = true from a]; rfl) rfl) (fun a3 => ?_)))
  have a3 : iLt (i64.wrap (h0 - jg r l.length)) 0 = false := a3
  exact ae (fun b => ae (fun d => eu (by rw [hR, a1, a2, a3, b, show iLt (i64.wrap (h0 - jg r l.length)) (c 51) = true from d]; rfl) rfl) (fun d => aca (by rw [hR, a1, a2, a3, b, show iLt (i64.wrap (h0 - jg r l.length)) (c 51) = false from d]; rfl) rfl rfl rfl)) (fun b => aca (by rw [hR, a1, a2, a3, b]; rfl) rfl rfl rfl)
 ·simp only [ho, show iEq (i64.wrap (di 1 0)) (iOf 0) = false from rfl, show iEq (i64.wrap (di 1 0)) (iOf (ay 0 1)) = true from rfl, show iEq (i64.wrap (di 1 1)) (iOf 0) = true from rfl, show iEq (i64.wrap (di 1 1)) (iOf (ay 0 1)) = false from rfl, show iEq (0 : Int) (iOf 0) = true from rfl, show iEq (0 : Int) (iOf (ay 0 1)) = false from rfl, show iEq (1 : Int) (iOf 0) = false from rfl, show iEq (1 : Int) (iOf (ay 0 1)) = true from rfl, show ax (0 : Int) 0 = true from rfl, show ax (0 : Int) 1 = false from rfl, show ax (1 : Int) 0 = false from rfl, show ax (1 : Int) 1 = true from rfl, axe, a7t]
  have hR : ny O c no h0 h1 rt l r = (bif (bif !(jh O c no h0 h1 rt l) then true else !(inB r 0 1000)) then 1 else bif iLt (i64.wrap (h1 - jg r l.length)) 0 then 8 else bif (bif iLt rt r then iLt (i64.wrap (h1 - jg r l.length)) (c 45) else false) then 10 else 0) := by
   unfold ny jm
   rw [ho, yj]; rfl
  refine ziT (by simp only [jd, zaT, Nat.ble_eq]; omega) (ziT (by rw [hc, g0]; rfl) (ae (fun a => eu (by rw [hR, a1, a2, show iLt (i64.wrap (h1 - jg r l.length)) 0 = true from a]; rfl) rfl) (fun a3 => ?_)))
  have a3 : iLt (i64.wrap (h1 - jg r l.length)) 0 = false := a3
  exact ae (fun b => ae (fun d => eu (by rw [hR, a1, a2, a3, b, show iLt (i64.wrap (h1 - jg r l.length)) (c 45) = true from d]; rfl) rfl) (fun d => aca (by rw [hR, a1, a2, a3, b, show iLt (i64.wrap (h1 - jg r l.length)) (c 45) = false from d]; rfl) rfl rfl rfl)) (fun b => aca (by rw [hR, a1, a2, a3, b]; rfl) rfl rfl rfl)
theorem bbh (I : Sx.Interp) (O : OO) (hO : O = oo) (Y : OY) (hY : Y = yO O) : ag I Tryz.prog 13 (au [.v, .agg [.v, .v, .v, .roS [.i64, .i64, .i64, .u64, .i64], .v], .v] true (al5 O Y)) := by
 refine yc (aju I O hO Y hY) (by kernel_rfl) (fun _ => []) (fun ds => match ds with | [.v (.agg ch), .node [.v (.int .i64 no), .v (.int .i64 h0), .v (.int .i64 h1), .structs l, .v (.int .i64 rt)], .v (.int .i64 r)] => [(400006, 41, .structs [.i64, .i64, .i64, .u64, .i64] [])] | _ => []) Tryz.func13 (by kernel_rfl) (by kernel_rfl) rfl Tryz.ntmps13 (by decide) ?_ ?_
 ·intro ds p bs F h
  unfold al5 at h
  split at h
  ·simp only [zsI, zpI] at h
   obtain ⟨_, _, rfl⟩ := h
   kernel_rfl
  ·cases h
 ·intro ds bs F hl h
  unfold al5 at h
  split at h
  ·rename_i ch no h0 h1 l rt r
   simp only [zsI, zpI, zaT] at h
   obtain ⟨⟨⟨hc, g0⟩, g1⟩, _, rfl⟩ := h
   obtain ⟨c, ec, rfl⟩ : ∃ c, cz ch = c ∧ ch = chA c := ⟨_, rfl, aak hc⟩
   simp only [ec]
   exact Eq.mpr (by kernel_rfl) (bcp O Y c no h0 h1 rt l r (dn O hO) hY hc g0 g1 (ec))
  ·cases h
def bkw (O : OO) (Y : OY) (f : FuncId) : Option Sx.Spec := match f with
 | 7 => some (au [.v, .agg [.v, .v, .v, .roS [.i64, .i64, .i64, .u64, .i64], .v], .v] true (atn O Y))
 | 9 => some (au [.v, .agg [.v, .v, .v, .roS [.i64, .i64, .i64, .u64, .i64], .v], .v, .v, .v] true (ata O Y))
 | 11 => some (au [.v, .agg [.v, .v, .v, .roS [.i64, .i64, .i64, .u64, .i64], .v], .v, .v] true (amg O Y))
 | 13 => some (au [.v, .agg [.v, .v, .v, .roS [.i64, .i64, .i64, .u64, .i64], .v], .v] true (al5 O Y))
 | f => bnb O Y f
theorem bh4 (I : Sx.Interp) (O : OO) (hO : O = oo) (Y : OY) (hY : Y = yO O) : ∀ f s, bkw O Y f = some s → ag I Tryz.prog f s := by
 intro f s h
 unfold bkw at h
 split at h
 · cases h; exact bi0 I O hO Y hY
 · cases h; exact be7 I O hO Y hY
 · cases h; exact bdp I O hO Y hY
 · cases h; exact bbh I O hO Y hY
 ·exact aju I O hO Y hY _ s h
end Go.Proofs.YtgekiddgdjeaiaaGreat
