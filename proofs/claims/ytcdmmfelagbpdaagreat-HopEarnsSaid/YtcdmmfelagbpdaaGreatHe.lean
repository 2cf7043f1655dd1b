/- HopEarns: the walk (printed by genHe.py; VCs by VcTool). -/
import Derived.Test.YtcdmmfelagbpdaaGreatHe0
namespace Go.Proofs.YtcdmmfelagbpdaaGreat
open Go.RowKit Go.Lib Ckp Cfd Cpd Sx
set_option linter.unusedVariables false
set_option linter.unusedSimpArgs false
set_option maxRecDepth 1000000
def pyS (c : Nat → Int) (v : Value) : Array Value := ⟨[.int .u8 (c 0), .int .u8 (c 1), .int .u8 (c 2), .int .u8 (c 3), .int .u8 (c 4), .int .u8 (c 5), .int .u8 (c 6), .int .u8 (c 7), .int .u8 (c 8), .int .u8 (c 9), .int .u8 (c 10), .int .u8 (c 11), .int .u8 (c 12), .int .u8 (c 13), .int .u8 (c 14), .int .u8 (c 15), .int .u8 (c 16), .int .u8 (c 17), .int .u8 (c 18), .int .u8 (c 19), .int .u8 (c 20), .int .u8 (c 21), .int .u8 (c 22), .int .u8 (c 23), .int .u8 (c 24), .int .u8 (c 25), .int .u8 (c 26), .int .u8 (c 27), .int .u8 (c 28), .int .u8 (c 29), .int .u8 (c 30), .int .u8 (c 31), .int .u8 (c 32), .int .u8 (c 33), .int .u8 (c 34), .int .u8 (c 35), .int .u8 (c 36), .int .u8 (c 37), .int .u8 (c 38), .int .u8 (c 39), .int .u8 (c 40), .int .u8 (c 41), .int .u8 (c 42), .int .u8 (c 43), .int .u8 (c 44), .int .u8 (c 45), .int .u8 (c 46), .int .u8 (c 47), .int .u8 (c 48), .int .u8 (c 49), .int .u8 (c 50), .int .u8 (c 51), .int .u8 (c 52), .int .u8 (c 53), .int .u8 (c 54), .int .u8 (c 55), .int .u8 (c 56), .int .u8 (c 57), .int .u8 (c 58), .int .u8 (c 59), .int .u8 (c 60), .int .u8 (c 61), .int .u8 (c 62), .int .u8 (c 63), .int .u32 (c 64), .int .u32 (c 65), .int .u8 (c 66), .int .u8 (c 67), v, .int .u16 (c 69), .int .u8 (c 70), .int .u8 (c 71), .int .u8 (c 72), .int .u8 (c 73), .int .u8 (c 74), .int .u8 (c 75), .int .u8 (c 76), .int .u8 (c 77), .int .u8 (c 78), .int .u8 (c 79), .int .u8 (c 80), .int .u8 (c 81), .int .u8 (c 82), .int .u8 (c 83), .int .u8 (c 84), .int .u8 (c 85), .int .u8 (c 86), .int .u8 (c 87), .int .u8 (c 88), .int .u8 (c 89), .int .u8 (c 90), .int .u8 (c 91), .int .u8 (c 92), .int .u8 (c 93), .int .u8 (c 94), .int .u8 (c 95), .int .u8 (c 96), .int .u8 (c 97), .int .u8 (c 98), .int .u8 (c 99), .int .u8 (c 100), .int .u8 (c 101)]⟩
def heV (O : OO) (Zc Zd : Nat → Int) (Mc Md : Array Value) (Noc Ac Bc Rc Nod Ad Bd Rd a e dl p k bl FEE Q B P AMT EXP NE NA NQ NX : Int) (hf g1 g2 : Bool) : Prop :=
 If (g1) (If (g2) (If (inU k 18446744073709551616) (If (iLe p 9223372036854775807) (If (!hf) (Value.bool true = Value.bool true) (If (iLt a 1) (Value.bool true = Value.bool true) (If (iLt 1099511627776 FEE) (Value.bool true = Value.bool true) (If (iLt 1099511627776 a) (Value.bool true = Value.bool true) (If (iLt 524288 e) (Value.bool true = Value.bool true) (If (iLt 524288 dl) (Value.bool true = Value.bool true) (If (inU bl 18446744073709551616) (If (inU Q 18446744073709551616 && inU B 18446744073709551616) (If (inU Q 18446744073709551616 && inU bl 18446744073709551616 && inU P 18446744073709551616 && iLe p 9223372036854775807) (If (chB Mc && Nat.ble 0 1000 && cnd [] && inU P 18446744073709551616) (If (iBeq (addE O Zc Noc Ac Bc Rc [] 0 7 AMT P EXP) 0) (If (chB Md && Nat.ble 0 1000 && cnd [] && inU NQ 18446744073709551616) (If (iBeq (addE O Zd Nod Ad Bd Rd [] 0 9 NA NQ NX) 0) (If (iBne NE 0) (Value.bool true = Value.bool true) (If (chB Md && ([[0, 9, NA, NQ, NX]] : List (List Int)).length.ble 1000 && cnd [[0, 9, NA, NQ, NX]] && inU k 18446744073709551616) (If (iBeq (setE O Zd Nod (hsub 0 Ad NA 0) (hsub 0 Bd NA 1) Rd [[0, 9, NA, NQ, NX]] 0 9 k) 0) (If (inU k 18446744073709551616 && inU bl 18446744073709551616) (If (chB Mc && ([[0, 7, AMT, P, EXP]] : List (List Int)).length.ble 1000 && cnd [[0, 7, AMT, P, EXP]] && inU (O.fadd (O.fadd 0 k) bl) 18446744073709551616) (If (iBeq (setE O Zc Noc (hsub 0 Ac AMT 0) (hsub 0 Bc AMT 1) Rc [[0, 7, AMT, P, EXP]] 0 7 (O.fadd (O.fadd 0 k) bl)) 0) (If (chB Md && ([[0, 9, NA, NQ, NX]] : List (List Int)).length.ble 1000 && cnd [[0, 9, NA, NQ, NX]]) (If (iBeq (failE O Zd Nod (hsub 0 Ad NA 0) (hsub 0 Bd NA 1) Rd [[0, 9, NA, NQ, NX]] 0 9) 0) (If (chB Mc && ([[0, 7, AMT, P, EXP]] : List (List Int)).length.ble 1000 && cnd [[0, 7, AMT, P, EXP]]) (If (iBeq (failE O Zc Noc (hsub 0 Ac AMT 0) (hsub 0 Bc AMT 1) Rc [[0, 7, AMT, P, EXP]] 0 7) 0) (If (iBeq (IntKind.i64.wrap ((IntKind.i64.wrap (haveO (hsub 0 Ac AMT 0) (hsub 0 Bc AMT 1) 1 + offM (IntKind.i64.wrap (1 - 1)) [[0, 7, AMT, P, EXP]])) + (IntKind.i64.wrap (haveO (hsub 0 Ad NA 0) (hsub 0 Bd NA 1) 0 + offM (IntKind.i64.wrap (1 - 0)) [[0, 9, NA, NQ, NX]])))) (IntKind.i64.wrap ((IntKind.i64.wrap (haveO Ac Bc 1 + offM (IntKind.i64.wrap (1 - 1)) [])) + (IntKind.i64.wrap (haveO Ad Bd 0 + offM (IntKind.i64.wrap (1 - 0)) []))))) (If (iBeq (IntKind.i64.wrap ((IntKind.i64.wrap ((IntKind.i64.wrap (haveO (hadd 0 (hsub 0 Ac AMT 0) AMT 1) (hadd 0 (hsub 0 Bc AMT 1) AMT 0) 1 + offM (IntKind.i64.wrap (1 - 1)) [])) + (IntKind.i64.wrap (haveO (hadd 0 (hsub 0 Ad NA 0) NA 1) (hadd 0 (hsub 0 Bd NA 1) NA 0) 0 + offM (IntKind.i64.wrap (1 - 0)) [])))) - (IntKind.i64.wrap ((IntKind.i64.wrap (haveO Ac Bc 1 + offM (IntKind.i64.wrap (1 - 1)) [])) + (IntKind.i64.wrap (haveO Ad Bd 0 + offM (IntKind.i64.wrap (1 - 0)) [])))))) (IntKind.i64.wrap (AMT - NA))) (If (iLe FEE (IntKind.i64.wrap ((IntKind.i64.wrap ((IntKind.i64.wrap (haveO (hadd 0 (hsub 0 Ac AMT 0) AMT 1) (hadd 0 (hsub 0 Bc AMT 1) AMT 0) 1 + offM (IntKind.i64.wrap (1 - 1)) [])) + (IntKind.i64.wrap (haveO (hadd 0 (hsub 0 Ad NA 0) NA 1) (hadd 0 (hsub 0 Bd NA 1) NA 0) 0 + offM (IntKind.i64.wrap (1 - 0)) [])))) - (IntKind.i64.wrap ((IntKind.i64.wrap (haveO Ac Bc 1 + offM (IntKind.i64.wrap (1 - 1)) [])) + (IntKind.i64.wrap (haveO Ad Bd 0 + offM (IntKind.i64.wrap (1 - 0)) []))))))) (If (iBeq (IntKind.i64.wrap ((IntKind.i64.wrap (haveO (hadd 0 (hsub 0 Ac AMT 0) AMT 0) (hadd 0 (hsub 0 Bc AMT 1) AMT 1) 1 + offM (IntKind.i64.wrap (1 - 1)) [])) + (IntKind.i64.wrap (haveO (hadd 0 (hsub 0 Ad NA 0) NA 0) (hadd 0 (hsub 0 Bd NA 1) NA 1) 0 + offM (IntKind.i64.wrap (1 - 0)) [])))) (IntKind.i64.wrap ((IntKind.i64.wrap (haveO Ac Bc 1 + offM (IntKind.i64.wrap (1 - 1)) [])) + (IntKind.i64.wrap (haveO Ad Bd 0 + offM (IntKind.i64.wrap (1 - 0)) []))))) (If (eqv (Array.mk [Value.int .i64 (hadd 0 (hsub 0 Ad NA 0) NA 0), Value.int .i64 (hadd 0 (hsub 0 Bd NA 1) NA 1)]) ((Array.mk [Value.int .i64 Nod, Value.int .i64 Ad, Value.int .i64 Bd, Value.slice none 0 0, Value.int .i64 Rd]).extract 1 3)) (Value.bool (eqv (Array.mk [Value.int .i64 (hadd 0 (hsub 0 Ac AMT 0) AMT 0), Value.int .i64 (hadd 0 (hsub 0 Bc AMT 1) AMT 1)]) ((Array.mk [Value.int .i64 Noc, Value.int .i64 Ac, Value.int .i64 Bc, Value.slice none 0 0, Value.int .i64 Rc]).extract 1 3)) = Value.bool true) (Value.bool false = Value.bool true)) (Value.bool false = Value.bool true)) (Value.bool false = Value.bool true)) (Value.bool false = Value.bool true)) (Value.bool false = Value.bool true)) (Value.bool false = Value.bool true)) False) (If (chB Mc && ([[0, 7, AMT, P, EXP]] : List (List Int)).length.ble 1000 && cnd [[0, 7, AMT, P, EXP]]) (If (iBeq (failE O Zc Noc (hsub 0 Ac AMT 0) (hsub 0 Bc AMT 1) Rc [[0, 7, AMT, P, EXP]] 0 7) 0) (Value.bool false = Value.bool true) (Value.bool false = Value.bool true)) False)) False) (If (chB Md && ([[0, 9, NA, NQ, NX]] : List (List Int)).length.ble 1000 && cnd [[0, 9, NA, NQ, NX]]) (If (iBeq (failE O Zd Nod (hsub 0 Ad NA 0) (hsub 0 Bd NA 1) Rd [[0, 9, NA, NQ, NX]] 0 9) 0) (If (chB Mc && ([[0, 7, AMT, P, EXP]] : List (List Int)).length.ble 1000 && cnd [[0, 7, AMT, P, EXP]]) (If (iBeq (failE O Zc Noc (hsub 0 Ac AMT 0) (hsub 0 Bc AMT 1) Rc [[0, 7, AMT, P, EXP]] 0 7) 0) (Value.bool false = Value.bool true) (Value.bool false = Value.bool true)) False) (If (chB Mc && ([[0, 7, AMT, P, EXP]] : List (List Int)).length.ble 1000 && cnd [[0, 7, AMT, P, EXP]]) (If (iBeq (failE O Zc Noc (hsub 0 Ac AMT 0) (hsub 0 Bc AMT 1) Rc [[0, 7, AMT, P, EXP]] 0 7) 0) (Value.bool false = Value.bool true) (Value.bool false = Value.bool true)) False)) False)) False) False) (If (inU k 18446744073709551616 && inU bl 18446744073709551616) (If (chB Mc && ([[0, 7, AMT, P, EXP]] : List (List Int)).length.ble 1000 && cnd [[0, 7, AMT, P, EXP]] && inU (O.fadd (O.fadd 0 k) bl) 18446744073709551616) (If (iBeq (setE O Zc Noc (hsub 0 Ac AMT 0) (hsub 0 Bc AMT 1) Rc [[0, 7, AMT, P, EXP]] 0 7 (O.fadd (O.fadd 0 k) bl)) 0) (If (chB Md && ([[0, 9, NA, NQ, NX]] : List (List Int)).length.ble 1000 && cnd [[0, 9, NA, NQ, NX]]) (If (iBeq (failE O Zd Nod (hsub 0 Ad NA 0) (hsub 0 Bd NA 1) Rd [[0, 9, NA, NQ, NX]] 0 9) 0) (If (chB Mc && ([[0, 7, AMT, P, EXP]] : List (List Int)).length.ble 1000 && cnd [[0, 7, AMT, P, EXP]]) (If (iBeq (failE O Zc Noc (hsub 0 Ac AMT 0) (hsub 0 Bc AMT 1) Rc [[0, 7, AMT, P, EXP]] 0 7) 0) (Value.bool false = Value.bool true) (Value.bool false = Value.bool true)) False) (If (chB Mc && ([[0, 7, AMT, P, EXP]] : List (List Int)).length.ble 1000 && cnd [[0, 7, AMT, P, EXP]]) (If (iBeq (failE O Zc Noc (hsub 0 Ac AMT 0) (hsub 0 Bc AMT 1) Rc [[0, 7, AMT, P, EXP]] 0 7) 0) (Value.bool false = Value.bool true) (Value.bool false = Value.bool true)) False)) False) (If (chB Md && ([[0, 9, NA, NQ, NX]] : List (List Int)).length.ble 1000 && cnd [[0, 9, NA, NQ, NX]]) (If (iBeq (failE O Zd Nod (hsub 0 Ad NA 0) (hsub 0 Bd NA 1) Rd [[0, 9, NA, NQ, NX]] 0 9) 0) (If (chB Mc && ([[0, 7, AMT, P, EXP]] : List (List Int)).length.ble 1000 && cnd [[0, 7, AMT, P, EXP]]) (If (iBeq (failE O Zc Noc (hsub 0 Ac AMT 0) (hsub 0 Bc AMT 1) Rc [[0, 7, AMT, P, EXP]] 0 7) 0) (Value.bool false = Value.bool true) (Value.bool false = Value.bool true)) False) (If (chB Mc && ([[0, 7, AMT, P, EXP]] : List (List Int)).length.ble 1000 && cnd [[0, 7, AMT, P, EXP]]) (If (iBeq (failE O Zc Noc (hsub 0 Ac AMT 0) (hsub 0 Bc AMT 1) Rc [[0, 7, AMT, P, EXP]] 0 7) 0) (Value.bool false = Value.bool true) (Value.bool false = Value.bool true)) False)) False)) False) False)) False)) (If (iBne NE 0) (Value.bool true = Value.bool true) (Value.bool true = Value.bool true))) False) (If (chB Md && Nat.ble 0 1000 && cnd [] && inU NQ 18446744073709551616) (If (iBeq (addE O Zd Nod Ad Bd Rd [] 0 9 NA NQ NX) 0) (If (iBne NE 0) (Value.bool true = Value.bool true) (Value.bool true = Value.bool true)) (If (iBne NE 0) (Value.bool true = Value.bool true) (Value.bool true = Value.bool true))) False)) False) False) False) False))))))) False) False) False) False
theorem he_in {n lo hi : Int} (h : inB n lo hi = true) : lo ≤ n ∧ n ≤ hi := by
 unfold inB at h
 cases e : iLe lo n with
 | false => rw [e] at h; cases h
 | true =>
  rw [e] at h
  have h : iLe n hi = true := h
  simp only [Sx.Bz, Sx.Cont.n] at e h
  exact ⟨e, h⟩
theorem naddV_nn (x y : Int) : 0 ≤ naddV x y := by
 unfold naddV
 cases h : naddB x y with
 | false => exact Int.le_refl 0
 | true =>
  unfold naddB at h
  cases hx : inB x 0 1125899906842624 with
  | false => rw [hx] at h; cases h
  | true =>
   cases hy : inB y 0 1125899906842624 with
   | false => rw [hx, hy] at h; cases h
   | true =>
    have := he_in hx
    have := he_in hy
    show 0 ≤ IntKind.i64.wrap (x + y)
    rw [wrap_in (by omega) (by omega)]
    omega
theorem hfV_nn (b p d l m a : Int) : 0 ≤ hfV b p d l m a := by
 unfold hfV
 exact cond_nn (Int.le_refl 0) (naddV_nn _ _)
theorem eqv_he {x y u v n r : Int} (h : x = u) (k : y = v) : eqv (Array.mk [Value.int .i64 x, Value.int .i64 y]) ((Array.mk [Value.int .i64 n, Value.int .i64 u, Value.int .i64 v, Value.slice none 0 0, Value.int .i64 r]).extract 1 3) = true := by
 subst h k
 show ((x == x) && ((y == y) && true)) = true
 simp only [beq_self_eq_true, Bool.and_self]
theorem he_find {i a q e : Int} : findC 0 i [[0, i, a, q, e]] 3 = q ∧ iLt (idxS (matchF 0 i) [[0, i, a, q, e]]) 0 = false := by
 have e0 : matchF 0 i [0, i, a, q, e] = true := by
  show iBeq i i = true
  simp only [Sx.Bz, Sx.Cont.n]
 have e1 : idxS (matchF 0 i) [[0, i, a, q, e]] = 0 := by
  unfold idxS
  rw [List.findIdx?_cons, e0]; rfl
 unfold findC
 rw [e1]
 exact ⟨rfl, rfl⟩
set_option maxHeartbeats 4000000 in
theorem heV_ok {O : OO} {Zc Zd : Nat → Int} {Mc Md : Array Value} {Noc Ac Bc Rc Nod Ad Bd Rd a e dl p k bl FEE Q B P AMT EXP NE NA NQ NX : Int} {hf g1 g2 : Bool} (h1 : g1 = true) (h2 : g2 = true) (hk : inU k 18446744073709551616 = true) (hbl : inU bl 18446744073709551616 = true) (hp : iLe p 9223372036854775807 = true) (hQ : inU Q 18446744073709551616 = true) (hB : inU B 18446744073709551616 = true) (hP : inU P 18446744073709551616 = true) (hMc : chB Mc = true) (hMd : chB Md = true) (hNQ : inU NQ 18446744073709551616 = true) (hEP : O.pbase k = Q) (hPS : O.pbase (O.fadd (O.fadd 0 k) bl) = P) (hTK : inU (O.fadd (O.fadd 0 k) bl) 18446744073709551616 = true) (hN : iBne NE 0 = false → NA = a ∧ NQ = Q) (hA : FEE ≤ 1099511627776 → a ≤ 1099511627776 → 1 ≤ a → FEE ≤ AMT - a) : heV O Zc Zd Mc Md Noc Ac Bc Rc Nod Ad Bd Rd a e dl p k bl FEE Q B P AMT EXP NE NA NQ NX hf g1 g2 := by
 have c1 : cnd [[0, 7, AMT, P, EXP]] = true := by
  show ((inU P 18446744073709551616 && true) && true) = true
  rw [hP]; rfl
 have c2 : cnd [[0, 9, NA, NQ, NX]] = true := by
  show ((inU NQ 18446744073709551616 && true) && true) = true
  rw [hNQ]; rfl
 have k1 : (chB Mc && ([[0, 7, AMT, P, EXP]] : List (List Int)).length.ble 1000 && cnd [[0, 7, AMT, P, EXP]]) = true := by rw [hMc, c1]; rfl
 have k2 : (chB Md && ([[0, 9, NA, NQ, NX]] : List (List Int)).length.ble 1000 && cnd [[0, 9, NA, NQ, NX]]) = true := by rw [hMd, c2]; rfl
 have hm : (chB Md && Nat.ble 0 1000 && cnd [] && inU NQ 18446744073709551616) = true := by rw [hMd, hNQ]; rfl
 have nn : If (iBne NE 0) (Value.bool true = Value.bool true) (Value.bool true = Value.bool true) := Sx.if_both (fun _ => rfl) (fun _ => rfl)
 unfold heV
 refine Sx.if_true h1 (Sx.if_true h2 (Sx.if_true hk (Sx.if_true hp (Sx.if_both (fun _ => rfl) (fun _ => Sx.if_both (fun _ => rfl) (fun t1 => ?_))))))
 refine Sx.if_both (fun _ => rfl) (fun t2 => Sx.if_both (fun _ => rfl) (fun t3 => Sx.if_both (fun _ => rfl) (fun _ => Sx.if_both (fun _ => rfl) (fun _ => ?_))))
 refine Sx.if_true hbl (Sx.if_true (by rw [hQ, hB]; rfl) (Sx.if_true (by rw [hQ, hbl, hP, hp]; rfl) (Sx.if_true (by rw [hMc, hP]; rfl) ?_)))
 refine Sx.if_both (fun e1 => Sx.if_true hm (Sx.if_both (fun e2 => Sx.if_both (fun _ => rfl) (fun e0 => ?_)) (fun _ => nn))) (fun _ => Sx.if_true hm (Sx.if_both (fun _ => nn) (fun _ => nn)))
 obtain ⟨na, nq⟩ := hN e0
 simp only [Sx.Bz, Sx.Cont.n] at e1 e2 t1 t2 t3
 have A := add_right e1
 have D := add_right e2
 have r1 : rightO O Zc Noc (hsub 0 Ac AMT 0) (hsub 0 Bc AMT 1) Rc [[0, 7, AMT, P, EXP]] = true := right_iff'.2 A.right
 have r2 : rightO O Zd Nod (hsub 0 Ad NA 0) (hsub 0 Bd NA 1) Rd [[0, 9, NA, NQ, NX]] = true := right_iff'.2 D.right
 have f1 : iBeq (failE O Zc Noc (hsub 0 Ac AMT 0) (hsub 0 Bc AMT 1) Rc [[0, 7, AMT, P, EXP]] 0 7) 0 = true := by
  unfold failE; rw [r1, he_find.2]; rfl
 have f2 : iBeq (failE O Zd Nod (hsub 0 Ad NA 0) (hsub 0 Bd NA 1) Rd [[0, 9, NA, NQ, NX]] 0 9) 0 = true := by
  unfold failE; rw [r2, he_find.2]; rfl
 have s1 : iBeq (setE O Zc Noc (hsub 0 Ac AMT 0) (hsub 0 Bc AMT 1) Rc [[0, 7, AMT, P, EXP]] 0 7 (O.fadd (O.fadd 0 k) bl)) 0 = true := by
  unfold setE; rw [r1, he_find.2, he_find.1, hPS, show iBne P P = false by simp only [Sx.Bz, Sx.Cont.n]]; rfl
 have s2 : iBeq (setE O Zd Nod (hsub 0 Ad NA 0) (hsub 0 Bd NA 1) Rd [[0, 9, NA, NQ, NX]] 0 9 k) 0 = true := by
  unfold setE; rw [r2, he_find.2, he_find.1, hEP, nq, show iBne Q Q = false by simp only [Sx.Bz, Sx.Cont.n]]; rfl
 have bA : 1 ≤ AMT ∧ AMT ≤ 1125899906842624 := A.fine.2.2.1
 have bN : 1 ≤ NA ∧ NA ≤ 1125899906842624 := D.fine.2.2.1
 have b1 := A.was.bh0
 have b2 := A.was.bh1
 have b3 := D.was.bh0
 have b4 := D.was.bh1
 have hAm := hA (by omega) (by omega) (by omega)
 have hs : ∀ h x : Int, hsub 0 h x 0 = IntKind.i64.wrap (h - x) := fun _ _ => rfl
 have hs' : ∀ h x : Int, hsub 0 h x 1 = h := fun _ _ => rfl
 have hd : ∀ h x : Int, hadd 0 h x 0 = IntKind.i64.wrap (h + x) := fun _ _ => rfl
 have hd' : ∀ h x : Int, hadd 0 h x 1 = h := fun _ _ => rfl
 have ho : ∀ x y : Int, haveO x y 0 = x := fun _ _ => rfl
 have ho' : ∀ x y : Int, haveO x y 1 = y := fun _ _ => rfl
 have o1 : offM (IntKind.i64.wrap (1 - 1)) [[0, 7, AMT, P, EXP]] = 0 := rfl
 have o2 : offM (IntKind.i64.wrap (1 - 0)) [[0, 9, NA, NQ, NX]] = IntKind.i64.wrap (0 + NA) := rfl
 have o3 : ∀ t, offM t [] = 0 := fun _ => rfl
 refine Sx.if_true (by rw [k2, hk]; rfl) (Sx.if_true s2 (Sx.if_true (by rw [hk, hbl]; rfl) (Sx.if_true (by rw [k1, hTK]; rfl) (Sx.if_true s1 (Sx.if_true k2 (Sx.if_true f2 (Sx.if_true k1 (Sx.if_true f1 ?_))))))))
 clear s1 s2 f1 f2 k1 k2 r1 r2 c1 c2 nn hm
 simp only [hs, hs', hd, hd', ho, ho', o1, o2, o3]
 clear hs hs' hd hd' ho ho' o1 o2 o3
 simp (disch := omega) only [wrap_in]
 refine Sx.if_true (by simp only [Sx.Bz, Sx.Cont.n]; omega) (Sx.if_true (by simp only [Sx.Bz, Sx.Cont.n]; omega) (Sx.if_true (by simp only [Sx.Bz, Sx.Cont.n]; omega) (Sx.if_true (by simp only [Sx.Bz, Sx.Cont.n]; omega) (Sx.if_true (eqv_he (by omega) rfl) ?_))))
 rw [eqv_he (by omega) rfl]
set_option maxHeartbeats 4000000 in
theorem vc_hearn (O : OO) (Y : OY) (c d : Nat → Int) (va vb : Value) (n hc a e q bl k b p dl l m more : Int) (F : FO O) (hc1 : pyB (pyA c) = true) (hc2 : O.isH ((pyA c).extract 0 32) = true) (hc3 : O.isH ((pyA c).extract 32 64) = true) (hd1 : pyB (pyA d) = true) (hd2 : O.isH ((pyA d).extract 0 32) = true) (hd3 : O.isH ((pyA d).extract 32 64) = true) (hbl : inU bl 18446744073709551616 = true) (hk : inU k 18446744073709551616 = true) (hp : p ≤ 9223372036854775807) (hm : 0 ≤ more ∧ more < 65536) (HB : O.pbase (O.fadd (O.fadd 0 k) bl) = O.padd (O.pbase k) (O.pbase bl)) : heV O (cz (mCA O c)) (cz (mCA O d)) (mCA O c) (mCA O d) (mNo c) (mH0 O c) (mH1 O c) (mRt c) (mNo d) (mH0 O d) (mH1 O d) (mRt d) a e dl p k bl (hfV b p dl l m a) (O.pbase k) (O.pbase bl) (O.padd (O.pbase k) (O.pbase bl)) (IntKind.i64.wrap (IntKind.i64.wrap (a + (hfV b p dl l m a)) + IntKind.i64.wrap more)) (IntKind.i64.wrap (e + dl)) (nextE O n hc (O.pbase k) bl (O.padd (O.pbase k) (O.pbase bl)) (mayO O (IntKind.i64.wrap (IntKind.i64.wrap (a + (hfV b p dl l m a)) + IntKind.i64.wrap more)) (O.padd (O.pbase k) (O.pbase bl)) (IntKind.i64.wrap (e + dl)) a (O.pbase k) e b p dl l m 0 0 0 0)) (bif iBeq (nextE O n hc (O.pbase k) bl (O.padd (O.pbase k) (O.pbase bl)) (mayO O (IntKind.i64.wrap (IntKind.i64.wrap (a + (hfV b p dl l m a)) + IntKind.i64.wrap more)) (O.padd (O.pbase k) (O.pbase bl)) (IntKind.i64.wrap (e + dl)) a (O.pbase k) e b p dl l m 0 0 0 0)) 0 then a else 0) (bif iBeq (nextE O n hc (O.pbase k) bl (O.padd (O.pbase k) (O.pbase bl)) (mayO O (IntKind.i64.wrap (IntKind.i64.wrap (a + (hfV b p dl l m a)) + IntKind.i64.wrap more)) (O.padd (O.pbase k) (O.pbase bl)) (IntKind.i64.wrap (e + dl)) a (O.pbase k) e b p dl l m 0 0 0 0)) 0 then (O.pbase k) else 0) (bif iBeq (nextE O n hc (O.pbase k) bl (O.padd (O.pbase k) (O.pbase bl)) (mayO O (IntKind.i64.wrap (IntKind.i64.wrap (a + (hfV b p dl l m a)) + IntKind.i64.wrap more)) (O.padd (O.pbase k) (O.pbase bl)) (IntKind.i64.wrap (e + dl)) a (O.pbase k) e b p dl l m 0 0 0 0)) 0 then e else 0) (hfB b p dl l m a) (pyB (pyA c) && O.isH ((pyA c).extract 0 32) && O.isH ((pyA c).extract 32 64)) (pyB (pyA d) && O.isH ((pyA d).extract 0 32) && O.isH ((pyA d).extract 32 64)) := by
 have g1 : (pyB (pyA c) && O.isH ((pyA c).extract 0 32) && O.isH ((pyA c).extract 32 64)) = true := by rw [hc1, hc2, hc3]; rfl
 have g2 : (pyB (pyA d) && O.isH ((pyA d).extract 0 32) && O.isH ((pyA d).extract 32 64)) = true := by rw [hd1, hd2, hd3]; rfl
 have hF := hfV_nn b p dl l m a
 refine heV_ok g1 g2 hk hbl (by simp only [Sx.Bz, Sx.Cont.n]; exact hp) (F.pbase _) (F.pbase _) (F.padd _ _) (mca_ok F hc1) (mca_ok F hd1) ?_ rfl HB (F.fadd _ _) ?_ ?_
 ·generalize iBeq (nextE O n hc (O.pbase k) bl (O.padd (O.pbase k) (O.pbase bl)) (mayO O (IntKind.i64.wrap (IntKind.i64.wrap (a + hfV b p dl l m a) + IntKind.i64.wrap more)) (O.padd (O.pbase k) (O.pbase bl)) (IntKind.i64.wrap (e + dl)) a (O.pbase k) e b p dl l m 0 0 0 0)) 0 = T
  cases T
  ·rfl
  ·exact F.pbase _
 ·intro h
  have h' : iBeq (nextE O n hc (O.pbase k) bl (O.padd (O.pbase k) (O.pbase bl)) (mayO O (IntKind.i64.wrap (IntKind.i64.wrap (a + hfV b p dl l m a) + IntKind.i64.wrap more)) (O.padd (O.pbase k) (O.pbase bl)) (IntKind.i64.wrap (e + dl)) a (O.pbase k) e b p dl l m 0 0 0 0)) 0 = true := by
   simp only [Sx.Bz, Sx.Cont.n] at h ⊢
   exact h
  rw [h']
  exact ⟨rfl, rfl⟩
 ·intro x1 x2 x3
  rw [wrap_in (n := more) (by omega) (by omega), wrap_in (n := a + hfV b p dl l m a) (by omega) (by omega), wrap_in (by omega) (by omega)]
  omega
theorem wpc_hearn (O : OO) (Y : OY) (c d : Nat → Int) (va vb : Value) (n hc a e q bl k b p dl l m more : Int) (F : FO O) (hc1 : pyB (pyA c) = true) (hc2 : O.isH ((pyA c).extract 0 32) = true) (hc3 : O.isH ((pyA c).extract 32 64) = true) (hd1 : pyB (pyA d) = true) (hd2 : O.isH ((pyA d).extract 0 32) = true) (hd3 : O.isH ((pyA d).extract 32 64) = true) (hbl : inU bl 18446744073709551616 = true) (hk : inU k 18446744073709551616 = true) (hp : p ≤ 9223372036854775807) (hm : 0 ≤ more ∧ more < 65536) (HB : O.pbase (O.fadd (O.fadd 0 k) bl) = O.padd (O.pbase k) (O.pbase bl)) : wpcI Tryz.prog (spHe0 O Y) Tryz.f3.ntmps [] (bodyOf Tryz.f3) 0 0 (argEnv [.agg (pyS c va), .agg (pyS d vb), .agg ⟨[.int .i64 n, .int .i64 hc, .int .i64 a, .int .i64 e, .int .u64 q, .int .u64 bl]⟩, .int .u64 k, .agg ⟨[.int .i64 b, .int .i64 p, .int .i64 dl, .int .i64 l, .int .i64 m]⟩, .int .u16 more] 0) [] (retK Tryz.prog Tryz.f3.results.toList (.bool true)) :=
 Eq.mpr (by kernel_rfl : _ = heV O (cz (mCA O c)) (cz (mCA O d)) (mCA O c) (mCA O d) (mNo c) (mH0 O c) (mH1 O c) (mRt c) (mNo d) (mH0 O d) (mH1 O d) (mRt d) a e dl p k bl (hfV b p dl l m a) (O.pbase k) (O.pbase bl) (O.padd (O.pbase k) (O.pbase bl)) (IntKind.i64.wrap (IntKind.i64.wrap (a + (hfV b p dl l m a)) + IntKind.i64.wrap more)) (IntKind.i64.wrap (e + dl)) (nextE O n hc (O.pbase k) bl (O.padd (O.pbase k) (O.pbase bl)) (mayO O (IntKind.i64.wrap (IntKind.i64.wrap (a + (hfV b p dl l m a)) + IntKind.i64.wrap more)) (O.padd (O.pbase k) (O.pbase bl)) (IntKind.i64.wrap (e + dl)) a (O.pbase k) e b p dl l m 0 0 0 0)) (bif iBeq (nextE O n hc (O.pbase k) bl (O.padd (O.pbase k) (O.pbase bl)) (mayO O (IntKind.i64.wrap (IntKind.i64.wrap (a + (hfV b p dl l m a)) + IntKind.i64.wrap more)) (O.padd (O.pbase k) (O.pbase bl)) (IntKind.i64.wrap (e + dl)) a (O.pbase k) e b p dl l m 0 0 0 0)) 0 then a else 0) (bif iBeq (nextE O n hc (O.pbase k) bl (O.padd (O.pbase k) (O.pbase bl)) (mayO O (IntKind.i64.wrap (IntKind.i64.wrap (a + (hfV b p dl l m a)) + IntKind.i64.wrap more)) (O.padd (O.pbase k) (O.pbase bl)) (IntKind.i64.wrap (e + dl)) a (O.pbase k) e b p dl l m 0 0 0 0)) 0 then (O.pbase k) else 0) (bif iBeq (nextE O n hc (O.pbase k) bl (O.padd (O.pbase k) (O.pbase bl)) (mayO O (IntKind.i64.wrap (IntKind.i64.wrap (a + (hfV b p dl l m a)) + IntKind.i64.wrap more)) (O.padd (O.pbase k) (O.pbase bl)) (IntKind.i64.wrap (e + dl)) a (O.pbase k) e b p dl l m 0 0 0 0)) 0 then e else 0) (hfB b p dl l m a) (pyB (pyA c) && O.isH ((pyA c).extract 0 32) && O.isH ((pyA c).extract 32 64)) (pyB (pyA d) && O.isH ((pyA d).extract 0 32) && O.isH ((pyA d).extract 32 64))) (vc_hearn O Y c d va vb n hc a e q bl k b p dl l m more F hc1 hc2 hc3 hd1 hd2 hd3 hbl hk hp hm HB)
end Go.Proofs.YtcdmmfelagbpdaaGreat
