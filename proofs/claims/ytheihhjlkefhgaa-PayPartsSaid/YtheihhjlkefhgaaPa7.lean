/- PayParts: the walk, by the symbolic machine (printed by genpa4.py; VC by VcTool). -/
import Derived.Test.YtheihhjlkefhgaaPa3
namespace Go.Proofs.Ytheihhjlkefhgaa
open Go.RowKit Go.Lib Ckp Cfd Cpd Sx
set_option linter.unusedVariables false
set_option linter.unusedSimpArgs false
set_option maxRecDepth 1000000

def lpO (O : OO) (a n : Int) : List Int := partsO O (b8 (O.fadd 0 a)) a (1 + n % 8)
theorem sum_val {O : OO} (F : FO O) (G : FP O) : ∀ (l : List Int), inUs 18446744073709551616 l = true → ∀ s, inU s 18446744073709551616 = true → l.foldl O.fadd s % 2305843009213688669 = (s + l.sum) % 2305843009213688669
  | [], _, s, hs => by simp
  | b :: l, h, s, hs => by
    have hb : inU b 18446744073709551616 = true := List.all_eq_true.1 h b List.mem_cons_self
    have hl : inUs 18446744073709551616 l = true := List.all_eq_true.2 fun x hx => List.all_eq_true.1 h x (List.mem_cons_of_mem _ hx)
    rw [List.foldl_cons, sum_val F G l hl _ (F.fadd _ _), G.fv s b hs hb, List.sum_cons]
    omega
theorem tmod_in {a : Int} (ha : inU a 18446744073709551616 = true) (n : Int) : a.tmod n = a % n := by
  rw [inU_t] at ha
  exact Int.tmod_eq_emod_of_nonneg ha.1
theorem getD_mem {l : List Int} {k : Nat} (h : k < l.length) : l.getD k 0 ∈ l := by
  rw [List.getD_eq_getElem?_getD, List.getElem?_eq_getElem h]
  exact List.getElem_mem h
theorem sum_lt {O : OO} (F : FO O) (G : FP O) : ∀ (l : List Int), inUs 18446744073709551616 l = true → ∀ s, 0 ≤ s ∧ s < 2305843009213688669 → 0 ≤ l.foldl O.fadd s ∧ l.foldl O.fadd s < 2305843009213688669
  | [], _, s, hs => hs
  | b :: l, h, s, hs => by
    have hb : inU b 18446744073709551616 = true := List.all_eq_true.1 h b List.mem_cons_self
    have hl : inUs 18446744073709551616 l = true := List.all_eq_true.2 fun x hx => List.all_eq_true.1 h x (List.mem_cons_of_mem _ hx)
    rw [List.foldl_cons]
    refine sum_lt F G l hl _ ?_
    rw [G.fv s b (by rw [inU_t]; omega) hb]
    omega
theorem parts_len (O : OO) (b : List Int) (s : Int) (L : Nat) : (partsO O b s ((L : Int) + 1)).length = L + 1 := by
  unfold partsO
  rw [List.length_append, drawsO_len, show ((L : Int) + 1 - 1).toNat = L by omega]
  rfl
theorem parts_in {O : OO} (F : FO O) (b : List Int) (s n : Int) : inUs 18446744073709551616 (partsO O b s n) = true := by
  have h := drawsO_in F partB b (n - 1).toNat
  unfold partsO inUs
  unfold inUs at h
  rw [List.all_append, h]
  simp only [List.all_cons, List.all_nil, F.fsub]
  rfl
theorem parts_sum {O : OO} (F : FO O) (G : FP O) (b : List Int) {a : Int} (ha : inU a 18446744073709551616 = true) (n : Int) : sumO O (partsO O b a n) = a % 2305843009213688669 := by
  have h := sum_in F (drawsO O partB b (n - 1).toNat)
  unfold partsO
  show (_ ++ [_]).foldl O.fadd 0 = _
  rw [List.foldl_append]
  show O.fadd (sumO O (drawsO O partB b (n - 1).toNat)) (O.fsub a (sumO O (drawsO O partB b (n - 1).toNat))) = _
  rw [G.fv _ _ h (F.fsub _ _), G.sv _ _ ha h]
  omega
theorem parts_lt {O : OO} (F : FO O) (G : FP O) (b : List Int) {a : Int} (ha : inU a 18446744073709551616 = true) (n : Int) : ∀ x ∈ partsO O b a n, 0 ≤ x ∧ x < 2305843009213688669 := by
  intro x hx
  unfold partsO at hx
  rw [List.mem_append] at hx
  rcases hx with hx | hx
  · unfold drawsO at hx
    obtain ⟨i, _, rfl⟩ := List.mem_map.1 hx
    have := G.fr (AV (O.tag partB [b, [IntKind.u8.wrap (i : Int)]]))
    have e : drawO O partB b (i : Int) = O.ffrom (AV (O.tag partB [b, [IntKind.u8.wrap (i : Int)]])) := rfl
    omega
  · rw [List.mem_singleton] at hx
    subst hx
    rw [G.sv _ _ ha (sum_in F _)]
    omega
theorem prtB_of {n : Int} (a : 1 ≤ n) (b : n ≤ 8) : prtB n = false := by
  unfold prtB
  rw [show iLt n 1 = false by simp only [Bool.and_eq_true, Bool.or_eq_true, Sx.iLt_t, Sx.iLt_f, Sx.iLe_t, Sx.iLe_f, Sx.iEq_t, Sx.iEq_f, Sx.iBeq_t, Sx.iBeq_f, Sx.iBne_t, Sx.iBne_f, Nat.ble_eq, Nat.beq_eq, Sx.Cont.n]; omega, show iLt 8 n = false by simp only [Bool.and_eq_true, Bool.or_eq_true, Sx.iLt_t, Sx.iLt_f, Sx.iLe_t, Sx.iLe_f, Sx.iEq_t, Sx.iEq_f, Sx.iBeq_t, Sx.iBeq_f, Sx.iBne_t, Sx.iBne_f, Nat.ble_eq, Nat.beq_eq, Sx.Cont.n]; omega]
  rfl
theorem rest_sum (P : List Int) (K : Nat) (h : K < P.length) : (P.take K ++ P.drop (K + 1)).sum + P.getD K 0 = P.sum := by
  have e : P = P.take K ++ P.getD K 0 :: P.drop (K + 1) := by
    rw [List.getD_eq_getElem?_getD, List.getElem?_eq_getElem h]
    have := List.drop_eq_getElem_cons h
    show P = P.take K ++ P[K] :: P.drop (K + 1)
    rw [← this, List.take_append_drop]
  conv => rhs; rw [e]
  rw [List.sum_append, List.sum_append, List.sum_cons]
  omega
theorem take_snoc (P : List Int) {x : Nat} (h : x < P.length) : P.take (x + 1) = P.take x ++ [P.getD x 0] := by
  rw [List.take_add_one, List.getElem?_eq_getElem h, List.getD_eq_getElem?_getD, List.getElem?_eq_getElem h]
  rfl
theorem inUs_sub {P Q : List Int} (h : inUs 18446744073709551616 P = true) (hs : ∀ x ∈ Q, x ∈ P) : inUs 18446744073709551616 Q = true := List.all_eq_true.2 fun x hx => List.all_eq_true.1 h x (hs x hx)
theorem iff_beq {a b c d : Int} (h : a = b ↔ c = d) : (iBeq a b == iBeq c d) = true := by
  rw [beq_iff_eq, Bool.eq_iff_iff, Sx.iBeq_t, Sx.iBeq_t]
  exact h
set_option maxHeartbeats 4000000 in
theorem vc_paParts (O : OO) (Z : OZ) (Y : OY) (a n k : Int) (F : FO O) (G : FP O) (h_a : inU a 18446744073709551616 = true) (h_n : inU n 256 = true) (h_k : inU k 256 = true) :
  If (inU a 18446744073709551616)
    (If (prtB (IntKind.i64.wrap (iAdd 1 (IntKind.i64.wrap (n.tmod 8)))))
      (If (iBne (iOf 0) (IntKind.i64.wrap (iAdd 1 (IntKind.i64.wrap (n.tmod 8))))) (Value.bool false = Value.bool true)
        ((∃ (x : Nat),
            x ≤ 8 ∧
              (Value.int IntKind.i64 0 = Value.int IntKind.i64 (iOf x) ∧
                  Value.int IntKind.u64 a = Value.int IntKind.u64 a ∧
                    Value.int IntKind.u8 k = Value.int IntKind.u8 k ∧
                      Value.bool true = Value.bool true ∧
                        Value.int IntKind.i64 (IntKind.i64.wrap (iAdd 1 (IntKind.i64.wrap (n.tmod 8)))) = Value.int IntKind.i64 (IntKind.i64.wrap (iAdd 1 (IntKind.i64.wrap (n.tmod 8)))) ∧ True) ∧
                EqI [] (lpO O a n) ∧ EqI [] (List.map O.pbase (List.take x (lpO O a n))) ∧ True) ∧
          ∀ (x : Nat),
            x ≤ 8 →
              If (iLt (iOf x) (IntKind.i64.wrap (iAdd 1 (IntKind.i64.wrap (n.tmod 8)))))
                (If (iLe 0 (iOf x) && (iOf x).toNat.blt (lpO O a n).length)
                  (If (true && Nat.beq 1 1 && (iOf x).toNat.blt (lpO O a n).length)
                    (If (inU ((lpO O a n).getD (iOf x).toNat 0) 18446744073709551616)
                      (If
                        ((nMul (nAdd (List.map O.pbase (List.take x (lpO O a n))).length [O.pbase ((lpO O a n).getD (iOf x).toNat 0)].length) 8).ble 140737488355328 &&
                          (nAdd (List.map O.pbase (List.take x (lpO O a n))).length [O.pbase ((lpO O a n).getD (iOf x).toNat 0)].length).ble 9223372036854775807)
                        (∃ (x' : Nat),
                          x' ≤ 8 ∧
                            (nSub 9 x').succ ≤ nSub 9 x ∧
                              (Value.int IntKind.i64 (IntKind.i64.wrap (iAdd (iOf x) 1)) = Value.int IntKind.i64 (iOf x') ∧
                                  Value.int IntKind.u64 a = Value.int IntKind.u64 a ∧
                                    Value.int IntKind.u8 k = Value.int IntKind.u8 k ∧
                                      Value.bool true = Value.bool true ∧
                                        Value.int IntKind.i64 (IntKind.i64.wrap (iAdd 1 (IntKind.i64.wrap (n.tmod 8)))) =
                                            Value.int IntKind.i64 (IntKind.i64.wrap (iAdd 1 (IntKind.i64.wrap (n.tmod 8)))) ∧
                                          True) ∧
                                EqI (lpO O a n) (lpO O a n) ∧
                                  EqI (app (List.map O.pbase (List.take x (lpO O a n))) [O.pbase ((lpO O a n).getD (iOf x).toNat 0)]) (List.map O.pbase (List.take x' (lpO O a n))) ∧ True)
                        False)
                      False)
                    False)
                  False)
                (If (decide (IntKind.i64 = IntKind.i64) && !iEq (IntKind.i64.wrap (iAdd 1 (IntKind.i64.wrap (n.tmod 8)))) 0)
                  (If
                    (iLe 0 0 && iLe 0 ((IntKind.i64.wrap k).tmod (IntKind.i64.wrap (iAdd 1 (IntKind.i64.wrap (n.tmod 8))))) &&
                      iLe ((IntKind.i64.wrap k).tmod (IntKind.i64.wrap (iAdd 1 (IntKind.i64.wrap (n.tmod 8))))) (iOf (Cont.ints IntKind.u64 (lpO O a n)).n))
                    (If
                      ((nMul (nAdd 0 (List.take (nSub ((IntKind.i64.wrap k).tmod (IntKind.i64.wrap (iAdd 1 (IntKind.i64.wrap (n.tmod 8))))).toNat 0) (List.drop 0 (lpO O a n))).length) 8).ble
                          140737488355328 &&
                        (nAdd 0 (List.take (nSub ((IntKind.i64.wrap k).tmod (IntKind.i64.wrap (iAdd 1 (IntKind.i64.wrap (n.tmod 8))))).toNat 0) (List.drop 0 (lpO O a n))).length).ble
                          9223372036854775807)
                      (If
                        (iLe 0 (IntKind.i64.wrap (iAdd ((IntKind.i64.wrap k).tmod (IntKind.i64.wrap (iAdd 1 (IntKind.i64.wrap (n.tmod 8))))) 1)) &&
                            iLe (IntKind.i64.wrap (iAdd ((IntKind.i64.wrap k).tmod (IntKind.i64.wrap (iAdd 1 (IntKind.i64.wrap (n.tmod 8))))) 1)) (iOf (Cont.ints IntKind.u64 (lpO O a n)).n) &&
                          iLe (iOf (Cont.ints IntKind.u64 (lpO O a n)).n) (iOf (Cont.ints IntKind.u64 (lpO O a n)).n))
                        (If
                          ((nMul
                                  (nAdd (app [] (List.take (nSub ((IntKind.i64.wrap k).tmod (IntKind.i64.wrap (iAdd 1 (IntKind.i64.wrap (n.tmod 8))))).toNat 0) (List.drop 0 (lpO O a n)))).length
                                    (List.take
                                        (nSub (iOf (lpO O a n).length).toNat (IntKind.i64.wrap (iAdd ((IntKind.i64.wrap k).tmod (IntKind.i64.wrap (iAdd 1 (IntKind.i64.wrap (n.tmod 8))))) 1)).toNat)
                                        (List.drop (IntKind.i64.wrap (iAdd ((IntKind.i64.wrap k).tmod (IntKind.i64.wrap (iAdd 1 (IntKind.i64.wrap (n.tmod 8))))) 1)).toNat (lpO O a n))).length)
                                  8).ble
                              140737488355328 &&
                            (nAdd (app [] (List.take (nSub ((IntKind.i64.wrap k).tmod (IntKind.i64.wrap (iAdd 1 (IntKind.i64.wrap (n.tmod 8))))).toNat 0) (List.drop 0 (lpO O a n)))).length
                                  (List.take (nSub (iOf (lpO O a n).length).toNat (IntKind.i64.wrap (iAdd ((IntKind.i64.wrap k).tmod (IntKind.i64.wrap (iAdd 1 (IntKind.i64.wrap (n.tmod 8))))) 1)).toNat)
                                      (List.drop (IntKind.i64.wrap (iAdd ((IntKind.i64.wrap k).tmod (IntKind.i64.wrap (iAdd 1 (IntKind.i64.wrap (n.tmod 8))))) 1)).toNat (lpO O a n))).length).ble
                              9223372036854775807)
                          (If (inUs 18446744073709551616 (lpO O a n) && (lpO O a n).length.ble 1000)
                            (If (iBeq (sumO O (lpO O a n)) (a.tmod 2305843009213688669))
                              (If (inUs 18446744073709551616 (List.map O.pbase (List.take x (lpO O a n))) && (List.map O.pbase (List.take x (lpO O a n))).length.ble 9223372036854775807)
                                (If (inU a 18446744073709551616)
                                  (If (iBeq (O.pall (List.map O.pbase (List.take x (lpO O a n)))) (O.pbase a))
                                    (If
                                      (inUs 18446744073709551616
                                          (app (app [] (List.take (nSub ((IntKind.i64.wrap k).tmod (IntKind.i64.wrap (iAdd 1 (IntKind.i64.wrap (n.tmod 8))))).toNat 0) (List.drop 0 (lpO O a n))))
                                            (List.take
                                              (nSub (iOf (lpO O a n).length).toNat
                                                (IntKind.i64.wrap (iAdd ((IntKind.i64.wrap k).tmod (IntKind.i64.wrap (iAdd 1 (IntKind.i64.wrap (n.tmod 8))))) 1)).toNat)
                                              (List.drop (IntKind.i64.wrap (iAdd ((IntKind.i64.wrap k).tmod (IntKind.i64.wrap (iAdd 1 (IntKind.i64.wrap (n.tmod 8))))) 1)).toNat (lpO O a n)))) &&
                                        (app (app [] (List.take (nSub ((IntKind.i64.wrap k).tmod (IntKind.i64.wrap (iAdd 1 (IntKind.i64.wrap (n.tmod 8))))).toNat 0) (List.drop 0 (lpO O a n))))
                                                (List.take
                                                  (nSub (iOf (lpO O a n).length).toNat
                                                    (IntKind.i64.wrap (iAdd ((IntKind.i64.wrap k).tmod (IntKind.i64.wrap (iAdd 1 (IntKind.i64.wrap (n.tmod 8))))) 1)).toNat)
                                                  (List.drop (IntKind.i64.wrap (iAdd ((IntKind.i64.wrap k).tmod (IntKind.i64.wrap (iAdd 1 (IntKind.i64.wrap (n.tmod 8))))) 1)).toNat
                                                    (lpO O a n)))).length.ble
                                          1000)
                                      (If
                                        (iLe 0 ((IntKind.i64.wrap k).tmod (IntKind.i64.wrap (iAdd 1 (IntKind.i64.wrap (n.tmod 8))))) &&
                                          ((IntKind.i64.wrap k).tmod (IntKind.i64.wrap (iAdd 1 (IntKind.i64.wrap (n.tmod 8))))).toNat.blt (lpO O a n).length)
                                        (If (true && Nat.beq 1 1 && ((IntKind.i64.wrap k).tmod (IntKind.i64.wrap (iAdd 1 (IntKind.i64.wrap (n.tmod 8))))).toNat.blt (lpO O a n).length)
                                          (If
                                            (inU
                                                (sumO O
                                                  (app (app [] (List.take (nSub ((IntKind.i64.wrap k).tmod (IntKind.i64.wrap (iAdd 1 (IntKind.i64.wrap (n.tmod 8))))).toNat 0) (List.drop 0 (lpO O a n))))
                                                    (List.take
                                                      (nSub (iOf (lpO O a n).length).toNat
                                                        (IntKind.i64.wrap (iAdd ((IntKind.i64.wrap k).tmod (IntKind.i64.wrap (iAdd 1 (IntKind.i64.wrap (n.tmod 8))))) 1)).toNat)
                                                      (List.drop (IntKind.i64.wrap (iAdd ((IntKind.i64.wrap k).tmod (IntKind.i64.wrap (iAdd 1 (IntKind.i64.wrap (n.tmod 8))))) 1)).toNat (lpO O a n)))))
                                                18446744073709551616 &&
                                              inU ((lpO O a n).getD ((IntKind.i64.wrap k).tmod (IntKind.i64.wrap (iAdd 1 (IntKind.i64.wrap (n.tmod 8))))).toNat 0) 18446744073709551616)
                                            (If
                                              (iBeq
                                                (O.fadd
                                                  (O.fadd 0
                                                    (sumO O
                                                      (app
                                                        (app []
                                                          (List.take (nSub ((IntKind.i64.wrap k).tmod (IntKind.i64.wrap (iAdd 1 (IntKind.i64.wrap (n.tmod 8))))).toNat 0) (List.drop 0 (lpO O a n))))
                                                        (List.take
                                                          (nSub (iOf (lpO O a n).length).toNat
                                                            (IntKind.i64.wrap (iAdd ((IntKind.i64.wrap k).tmod (IntKind.i64.wrap (iAdd 1 (IntKind.i64.wrap (n.tmod 8))))) 1)).toNat)
                                                          (List.drop (IntKind.i64.wrap (iAdd ((IntKind.i64.wrap k).tmod (IntKind.i64.wrap (iAdd 1 (IntKind.i64.wrap (n.tmod 8))))) 1)).toNat
                                                            (lpO O a n))))))
                                                  ((lpO O a n).getD ((IntKind.i64.wrap k).tmod (IntKind.i64.wrap (iAdd 1 (IntKind.i64.wrap (n.tmod 8))))).toNat 0))
                                                (a.tmod 2305843009213688669))
                                              (If
                                                (inUs 18446744073709551616
                                                    (app
                                                      (app [] (List.take (nSub ((IntKind.i64.wrap k).tmod (IntKind.i64.wrap (iAdd 1 (IntKind.i64.wrap (n.tmod 8))))).toNat 0) (List.drop 0 (lpO O a n))))
                                                      (List.take
                                                        (nSub (iOf (lpO O a n).length).toNat
                                                          (IntKind.i64.wrap (iAdd ((IntKind.i64.wrap k).tmod (IntKind.i64.wrap (iAdd 1 (IntKind.i64.wrap (n.tmod 8))))) 1)).toNat)
                                                        (List.drop (IntKind.i64.wrap (iAdd ((IntKind.i64.wrap k).tmod (IntKind.i64.wrap (iAdd 1 (IntKind.i64.wrap (n.tmod 8))))) 1)).toNat
                                                          (lpO O a n)))) &&
                                                  (app (app [] (List.take (nSub ((IntKind.i64.wrap k).tmod (IntKind.i64.wrap (iAdd 1 (IntKind.i64.wrap (n.tmod 8))))).toNat 0) (List.drop 0 (lpO O a n))))
                                                          (List.take
                                                            (nSub (iOf (lpO O a n).length).toNat
                                                              (IntKind.i64.wrap (iAdd ((IntKind.i64.wrap k).tmod (IntKind.i64.wrap (iAdd 1 (IntKind.i64.wrap (n.tmod 8))))) 1)).toNat)
                                                            (List.drop (IntKind.i64.wrap (iAdd ((IntKind.i64.wrap k).tmod (IntKind.i64.wrap (iAdd 1 (IntKind.i64.wrap (n.tmod 8))))) 1)).toNat
                                                              (lpO O a n)))).length.ble
                                                    1000)
                                                (If
                                                  (iLe 0 ((IntKind.i64.wrap k).tmod (IntKind.i64.wrap (iAdd 1 (IntKind.i64.wrap (n.tmod 8))))) &&
                                                    ((IntKind.i64.wrap k).tmod (IntKind.i64.wrap (iAdd 1 (IntKind.i64.wrap (n.tmod 8))))).toNat.blt (lpO O a n).length)
                                                  (If (true && Nat.beq 1 1 && ((IntKind.i64.wrap k).tmod (IntKind.i64.wrap (iAdd 1 (IntKind.i64.wrap (n.tmod 8))))).toNat.blt (lpO O a n).length)
                                                    (Value.bool
                                                        (iBeq
                                                            (sumO O
                                                              (app
                                                                (app []
                                                                  (List.take (nSub ((IntKind.i64.wrap k).tmod (IntKind.i64.wrap (iAdd 1 (IntKind.i64.wrap (n.tmod 8))))).toNat 0)
                                                                    (List.drop 0 (lpO O a n))))
                                                                (List.take
                                                                  (nSub (iOf (lpO O a n).length).toNat
                                                                    (IntKind.i64.wrap (iAdd ((IntKind.i64.wrap k).tmod (IntKind.i64.wrap (iAdd 1 (IntKind.i64.wrap (n.tmod 8))))) 1)).toNat)
                                                                  (List.drop (IntKind.i64.wrap (iAdd ((IntKind.i64.wrap k).tmod (IntKind.i64.wrap (iAdd 1 (IntKind.i64.wrap (n.tmod 8))))) 1)).toNat
                                                                    (lpO O a n)))))
                                                            (a.tmod 2305843009213688669) ==
                                                          iBeq ((lpO O a n).getD ((IntKind.i64.wrap k).tmod (IntKind.i64.wrap (iAdd 1 (IntKind.i64.wrap (n.tmod 8))))).toNat 0) 0) =
                                                      Value.bool true)
                                                    False)
                                                  False)
                                                False)
                                              (Value.bool false = Value.bool true))
                                            False)
                                          False)
                                        False)
                                      False)
                                    (Value.bool false = Value.bool true))
                                  False)
                                False)
                              (Value.bool false = Value.bool true))
                            False)
                          False)
                        False)
                      False)
                    False)
                  False)))
      (If (iBne (iOf (partsO O (b8 (O.fadd 0 a)) a (IntKind.i64.wrap (iAdd 1 (IntKind.i64.wrap (n.tmod 8))))).length) (IntKind.i64.wrap (iAdd 1 (IntKind.i64.wrap (n.tmod 8)))))
        (Value.bool false = Value.bool true)
        ((∃ (x : Nat),
            x ≤ 8 ∧
              (Value.int IntKind.i64 0 = Value.int IntKind.i64 (iOf x) ∧
                  Value.int IntKind.u64 a = Value.int IntKind.u64 a ∧
                    Value.int IntKind.u8 k = Value.int IntKind.u8 k ∧
                      Value.bool true = Value.bool true ∧
                        Value.int IntKind.i64 (IntKind.i64.wrap (iAdd 1 (IntKind.i64.wrap (n.tmod 8)))) = Value.int IntKind.i64 (IntKind.i64.wrap (iAdd 1 (IntKind.i64.wrap (n.tmod 8)))) ∧ True) ∧
                EqI (partsO O (b8 (O.fadd 0 a)) a (IntKind.i64.wrap (iAdd 1 (IntKind.i64.wrap (n.tmod 8))))) (lpO O a n) ∧ EqI [] (List.map O.pbase (List.take x (lpO O a n))) ∧ True) ∧
          ∀ (x : Nat),
            x ≤ 8 →
              If (iLt (iOf x) (IntKind.i64.wrap (iAdd 1 (IntKind.i64.wrap (n.tmod 8)))))
                (If (iLe 0 (iOf x) && (iOf x).toNat.blt (lpO O a n).length)
                  (If (true && Nat.beq 1 1 && (iOf x).toNat.blt (lpO O a n).length)
                    (If (inU ((lpO O a n).getD (iOf x).toNat 0) 18446744073709551616)
                      (If
                        ((nMul (nAdd (List.map O.pbase (List.take x (lpO O a n))).length [O.pbase ((lpO O a n).getD (iOf x).toNat 0)].length) 8).ble 140737488355328 &&
                          (nAdd (List.map O.pbase (List.take x (lpO O a n))).length [O.pbase ((lpO O a n).getD (iOf x).toNat 0)].length).ble 9223372036854775807)
                        (∃ (x' : Nat),
                          x' ≤ 8 ∧
                            (nSub 9 x').succ ≤ nSub 9 x ∧
                              (Value.int IntKind.i64 (IntKind.i64.wrap (iAdd (iOf x) 1)) = Value.int IntKind.i64 (iOf x') ∧
                                  Value.int IntKind.u64 a = Value.int IntKind.u64 a ∧
                                    Value.int IntKind.u8 k = Value.int IntKind.u8 k ∧
                                      Value.bool true = Value.bool true ∧
                                        Value.int IntKind.i64 (IntKind.i64.wrap (iAdd 1 (IntKind.i64.wrap (n.tmod 8)))) =
                                            Value.int IntKind.i64 (IntKind.i64.wrap (iAdd 1 (IntKind.i64.wrap (n.tmod 8)))) ∧
                                          True) ∧
                                EqI (lpO O a n) (lpO O a n) ∧
                                  EqI (app (List.map O.pbase (List.take x (lpO O a n))) [O.pbase ((lpO O a n).getD (iOf x).toNat 0)]) (List.map O.pbase (List.take x' (lpO O a n))) ∧ True)
                        False)
                      False)
                    False)
                  False)
                (If (decide (IntKind.i64 = IntKind.i64) && !iEq (IntKind.i64.wrap (iAdd 1 (IntKind.i64.wrap (n.tmod 8)))) 0)
                  (If
                    (iLe 0 0 && iLe 0 ((IntKind.i64.wrap k).tmod (IntKind.i64.wrap (iAdd 1 (IntKind.i64.wrap (n.tmod 8))))) &&
                      iLe ((IntKind.i64.wrap k).tmod (IntKind.i64.wrap (iAdd 1 (IntKind.i64.wrap (n.tmod 8))))) (iOf (Cont.ints IntKind.u64 (lpO O a n)).n))
                    (If
                      ((nMul (nAdd 0 (List.take (nSub ((IntKind.i64.wrap k).tmod (IntKind.i64.wrap (iAdd 1 (IntKind.i64.wrap (n.tmod 8))))).toNat 0) (List.drop 0 (lpO O a n))).length) 8).ble
                          140737488355328 &&
                        (nAdd 0 (List.take (nSub ((IntKind.i64.wrap k).tmod (IntKind.i64.wrap (iAdd 1 (IntKind.i64.wrap (n.tmod 8))))).toNat 0) (List.drop 0 (lpO O a n))).length).ble
                          9223372036854775807)
                      (If
                        (iLe 0 (IntKind.i64.wrap (iAdd ((IntKind.i64.wrap k).tmod (IntKind.i64.wrap (iAdd 1 (IntKind.i64.wrap (n.tmod 8))))) 1)) &&
                            iLe (IntKind.i64.wrap (iAdd ((IntKind.i64.wrap k).tmod (IntKind.i64.wrap (iAdd 1 (IntKind.i64.wrap (n.tmod 8))))) 1)) (iOf (Cont.ints IntKind.u64 (lpO O a n)).n) &&
                          iLe (iOf (Cont.ints IntKind.u64 (lpO O a n)).n) (iOf (Cont.ints IntKind.u64 (lpO O a n)).n))
                        (If
                          ((nMul
                                  (nAdd (app [] (List.take (nSub ((IntKind.i64.wrap k).tmod (IntKind.i64.wrap (iAdd 1 (IntKind.i64.wrap (n.tmod 8))))).toNat 0) (List.drop 0 (lpO O a n)))).length
                                    (List.take
                                        (nSub (iOf (lpO O a n).length).toNat (IntKind.i64.wrap (iAdd ((IntKind.i64.wrap k).tmod (IntKind.i64.wrap (iAdd 1 (IntKind.i64.wrap (n.tmod 8))))) 1)).toNat)
                                        (List.drop (IntKind.i64.wrap (iAdd ((IntKind.i64.wrap k).tmod (IntKind.i64.wrap (iAdd 1 (IntKind.i64.wrap (n.tmod 8))))) 1)).toNat (lpO O a n))).length)
                                  8).ble
                              140737488355328 &&
                            (nAdd (app [] (List.take (nSub ((IntKind.i64.wrap k).tmod (IntKind.i64.wrap (iAdd 1 (IntKind.i64.wrap (n.tmod 8))))).toNat 0) (List.drop 0 (lpO O a n)))).length
                                  (List.take (nSub (iOf (lpO O a n).length).toNat (IntKind.i64.wrap (iAdd ((IntKind.i64.wrap k).tmod (IntKind.i64.wrap (iAdd 1 (IntKind.i64.wrap (n.tmod 8))))) 1)).toNat)
                                      (List.drop (IntKind.i64.wrap (iAdd ((IntKind.i64.wrap k).tmod (IntKind.i64.wrap (iAdd 1 (IntKind.i64.wrap (n.tmod 8))))) 1)).toNat (lpO O a n))).length).ble
                              9223372036854775807)
                          (If (inUs 18446744073709551616 (lpO O a n) && (lpO O a n).length.ble 1000)
                            (If (iBeq (sumO O (lpO O a n)) (a.tmod 2305843009213688669))
                              (If (inUs 18446744073709551616 (List.map O.pbase (List.take x (lpO O a n))) && (List.map O.pbase (List.take x (lpO O a n))).length.ble 9223372036854775807)
                                (If (inU a 18446744073709551616)
                                  (If (iBeq (O.pall (List.map O.pbase (List.take x (lpO O a n)))) (O.pbase a))
                                    (If
                                      (inUs 18446744073709551616
                                          (app (app [] (List.take (nSub ((IntKind.i64.wrap k).tmod (IntKind.i64.wrap (iAdd 1 (IntKind.i64.wrap (n.tmod 8))))).toNat 0) (List.drop 0 (lpO O a n))))
                                            (List.take
                                              (nSub (iOf (lpO O a n).length).toNat
                                                (IntKind.i64.wrap (iAdd ((IntKind.i64.wrap k).tmod (IntKind.i64.wrap (iAdd 1 (IntKind.i64.wrap (n.tmod 8))))) 1)).toNat)
                                              (List.drop (IntKind.i64.wrap (iAdd ((IntKind.i64.wrap k).tmod (IntKind.i64.wrap (iAdd 1 (IntKind.i64.wrap (n.tmod 8))))) 1)).toNat (lpO O a n)))) &&
                                        (app (app [] (List.take (nSub ((IntKind.i64.wrap k).tmod (IntKind.i64.wrap (iAdd 1 (IntKind.i64.wrap (n.tmod 8))))).toNat 0) (List.drop 0 (lpO O a n))))
                                                (List.take
                                                  (nSub (iOf (lpO O a n).length).toNat
                                                    (IntKind.i64.wrap (iAdd ((IntKind.i64.wrap k).tmod (IntKind.i64.wrap (iAdd 1 (IntKind.i64.wrap (n.tmod 8))))) 1)).toNat)
                                                  (List.drop (IntKind.i64.wrap (iAdd ((IntKind.i64.wrap k).tmod (IntKind.i64.wrap (iAdd 1 (IntKind.i64.wrap (n.tmod 8))))) 1)).toNat
                                                    (lpO O a n)))).length.ble
                                          1000)
                                      (If
                                        (iLe 0 ((IntKind.i64.wrap k).tmod (IntKind.i64.wrap (iAdd 1 (IntKind.i64.wrap (n.tmod 8))))) &&
                                          ((IntKind.i64.wrap k).tmod (IntKind.i64.wrap (iAdd 1 (IntKind.i64.wrap (n.tmod 8))))).toNat.blt (lpO O a n).length)
                                        (If (true && Nat.beq 1 1 && ((IntKind.i64.wrap k).tmod (IntKind.i64.wrap (iAdd 1 (IntKind.i64.wrap (n.tmod 8))))).toNat.blt (lpO O a n).length)
                                          (If
                                            (inU
                                                (sumO O
                                                  (app (app [] (List.take (nSub ((IntKind.i64.wrap k).tmod (IntKind.i64.wrap (iAdd 1 (IntKind.i64.wrap (n.tmod 8))))).toNat 0) (List.drop 0 (lpO O a n))))
                                                    (List.take
                                                      (nSub (iOf (lpO O a n).length).toNat
                                                        (IntKind.i64.wrap (iAdd ((IntKind.i64.wrap k).tmod (IntKind.i64.wrap (iAdd 1 (IntKind.i64.wrap (n.tmod 8))))) 1)).toNat)
                                                      (List.drop (IntKind.i64.wrap (iAdd ((IntKind.i64.wrap k).tmod (IntKind.i64.wrap (iAdd 1 (IntKind.i64.wrap (n.tmod 8))))) 1)).toNat (lpO O a n)))))
                                                18446744073709551616 &&
                                              inU ((lpO O a n).getD ((IntKind.i64.wrap k).tmod (IntKind.i64.wrap (iAdd 1 (IntKind.i64.wrap (n.tmod 8))))).toNat 0) 18446744073709551616)
                                            (If
                                              (iBeq
                                                (O.fadd
                                                  (O.fadd 0
                                                    (sumO O
                                                      (app
                                                        (app []
                                                          (List.take (nSub ((IntKind.i64.wrap k).tmod (IntKind.i64.wrap (iAdd 1 (IntKind.i64.wrap (n.tmod 8))))).toNat 0) (List.drop 0 (lpO O a n))))
                                                        (List.take
                                                          (nSub (iOf (lpO O a n).length).toNat
                                                            (IntKind.i64.wrap (iAdd ((IntKind.i64.wrap k).tmod (IntKind.i64.wrap (iAdd 1 (IntKind.i64.wrap (n.tmod 8))))) 1)).toNat)
                                                          (List.drop (IntKind.i64.wrap (iAdd ((IntKind.i64.wrap k).tmod (IntKind.i64.wrap (iAdd 1 (IntKind.i64.wrap (n.tmod 8))))) 1)).toNat
                                                            (lpO O a n))))))
                                                  ((lpO O a n).getD ((IntKind.i64.wrap k).tmod (IntKind.i64.wrap (iAdd 1 (IntKind.i64.wrap (n.tmod 8))))).toNat 0))
                                                (a.tmod 2305843009213688669))
                                              (If
                                                (inUs 18446744073709551616
                                                    (app
                                                      (app [] (List.take (nSub ((IntKind.i64.wrap k).tmod (IntKind.i64.wrap (iAdd 1 (IntKind.i64.wrap (n.tmod 8))))).toNat 0) (List.drop 0 (lpO O a n))))
                                                      (List.take
                                                        (nSub (iOf (lpO O a n).length).toNat
                                                          (IntKind.i64.wrap (iAdd ((IntKind.i64.wrap k).tmod (IntKind.i64.wrap (iAdd 1 (IntKind.i64.wrap (n.tmod 8))))) 1)).toNat)
                                                        (List.drop (IntKind.i64.wrap (iAdd ((IntKind.i64.wrap k).tmod (IntKind.i64.wrap (iAdd 1 (IntKind.i64.wrap (n.tmod 8))))) 1)).toNat
                                                          (lpO O a n)))) &&
                                                  (app (app [] (List.take (nSub ((IntKind.i64.wrap k).tmod (IntKind.i64.wrap (iAdd 1 (IntKind.i64.wrap (n.tmod 8))))).toNat 0) (List.drop 0 (lpO O a n))))
                                                          (List.take
                                                            (nSub (iOf (lpO O a n).length).toNat
                                                              (IntKind.i64.wrap (iAdd ((IntKind.i64.wrap k).tmod (IntKind.i64.wrap (iAdd 1 (IntKind.i64.wrap (n.tmod 8))))) 1)).toNat)
                                                            (List.drop (IntKind.i64.wrap (iAdd ((IntKind.i64.wrap k).tmod (IntKind.i64.wrap (iAdd 1 (IntKind.i64.wrap (n.tmod 8))))) 1)).toNat
                                                              (lpO O a n)))).length.ble
                                                    1000)
                                                (If
                                                  (iLe 0 ((IntKind.i64.wrap k).tmod (IntKind.i64.wrap (iAdd 1 (IntKind.i64.wrap (n.tmod 8))))) &&
                                                    ((IntKind.i64.wrap k).tmod (IntKind.i64.wrap (iAdd 1 (IntKind.i64.wrap (n.tmod 8))))).toNat.blt (lpO O a n).length)
                                                  (If (true && Nat.beq 1 1 && ((IntKind.i64.wrap k).tmod (IntKind.i64.wrap (iAdd 1 (IntKind.i64.wrap (n.tmod 8))))).toNat.blt (lpO O a n).length)
                                                    (Value.bool
                                                        (iBeq
                                                            (sumO O
                                                              (app
                                                                (app []
                                                                  (List.take (nSub ((IntKind.i64.wrap k).tmod (IntKind.i64.wrap (iAdd 1 (IntKind.i64.wrap (n.tmod 8))))).toNat 0)
                                                                    (List.drop 0 (lpO O a n))))
                                                                (List.take
                                                                  (nSub (iOf (lpO O a n).length).toNat
                                                                    (IntKind.i64.wrap (iAdd ((IntKind.i64.wrap k).tmod (IntKind.i64.wrap (iAdd 1 (IntKind.i64.wrap (n.tmod 8))))) 1)).toNat)
                                                                  (List.drop (IntKind.i64.wrap (iAdd ((IntKind.i64.wrap k).tmod (IntKind.i64.wrap (iAdd 1 (IntKind.i64.wrap (n.tmod 8))))) 1)).toNat
                                                                    (lpO O a n)))))
                                                            (a.tmod 2305843009213688669) ==
                                                          iBeq ((lpO O a n).getD ((IntKind.i64.wrap k).tmod (IntKind.i64.wrap (iAdd 1 (IntKind.i64.wrap (n.tmod 8))))).toNat 0) 0) =
                                                      Value.bool true)
                                                    False)
                                                  False)
                                                False)
                                              (Value.bool false = Value.bool true))
                                            False)
                                          False)
                                        False)
                                      False)
                                    (Value.bool false = Value.bool true))
                                  False)
                                False)
                              (Value.bool false = Value.bool true))
                            False)
                          False)
                        False)
                      False)
                    False)
                  False))))
    False := by
  have hn := h_n
  have hk := h_k
  have ha := h_a
  rw [inU_t] at hn hk ha
  have et : n.tmod 8 = n % 8 := Int.tmod_eq_emod_of_nonneg hn.1
  have e1 : IntKind.i64.wrap (n % 8) = n % 8 := IntWalk.i64_in _ (by omega)
  have e2 : IntKind.i64.wrap (1 + n % 8) = 1 + n % 8 := IntWalk.i64_in _ (by omega)
  have e3 : IntKind.i64.wrap k = k := IntWalk.i64_in _ (by omega)
  have eP : partsO O (b8 (O.fadd 0 a)) a (1 + n % 8) = lpO O a n := rfl
  simp only [Sx.app, Sx.nAdd, Sx.nSub, Sx.nMul, Sx.nPow, Sx.nDiv, Sx.nMod, Sx.iAdd, Sx.iSub, Sx.iMul, Sx.iNeg, Sx.iPow, Sx.iOf, Sx.Cont.n, et, e1, e2, e3, eP]
  obtain ⟨L, eL⟩ : ∃ L : Nat, 1 + n % 8 = (L : Int) + 1 := ⟨(n % 8).toNat, by omega⟩
  have hL : L ≤ 7 := by omega
  have e5 : k.tmod ((L : Int) + 1) = k % ((L : Int) + 1) := Int.tmod_eq_emod_of_nonneg hk.1
  obtain ⟨K, eK⟩ : ∃ K : Nat, k % ((L : Int) + 1) = (K : Int) := ⟨(k % ((L : Int) + 1)).toNat, by have := Int.emod_nonneg k (show (L : Int) + 1 ≠ 0 by omega); omega⟩
  have hK : K ≤ L := by have := Int.emod_lt_of_pos k (show 0 < (L : Int) + 1 by omega); omega
  have e6 : IntKind.i64.wrap ((K : Int) + 1) = ((K + 1 : Nat) : Int) := wrap_succ (by omega)
  have hl : (lpO O a n).length = L + 1 := by unfold lpO; rw [eL]; exact parts_len _ _ _ _
  have hin : inUs 18446744073709551616 (lpO O a n) = true := parts_in F _ _ _
  have hsum : sumO O (lpO O a n) = a % 2305843009213688669 := parts_sum F G _ h_a _
  have hlt : ∀ x ∈ lpO O a n, 0 ≤ x ∧ x < 2305843009213688669 := parts_lt F G _ h_a _
  simp only [eL, e5, eK, e6, List.drop_zero, Nat.sub_zero, Int.toNat_natCast, List.nil_append, tmod_in h_a]
  generalize lpO O a n = P at *
  have eT : (P.drop (K + 1)).take (L + 1 - (K + 1)) = P.drop (K + 1) := List.take_of_length_le (by rw [List.length_drop, hl]; exact Nat.le_refl _)
  have hpr : prtB ((L : Int) + 1) = false := prtB_of (by omega) (by omega)
  simp only [hl]
  simp only [eT]
  refine Sx.if_true h_a (Sx.if_false hpr (Sx.if_false (by rw [Sx.iBne_f]; rfl) ?_))
  refine ⟨⟨0, by omega, ⟨rfl, (by first | rfl | trivial)⟩, (by first | rfl | trivial)⟩, fun x hx => Sx.if_both (fun h => ?_) (fun h => ?_)⟩
  · simp only [Bool.and_eq_true, Bool.or_eq_true, Sx.iLt_t, Sx.iLt_f, Sx.iLe_t, Sx.iLe_f, Sx.iEq_t, Sx.iEq_f, Sx.iBeq_t, Sx.iBeq_f, Sx.iBne_t, Sx.iBne_f, Nat.ble_eq, Nat.beq_eq, Sx.Cont.n] at h
    have hxl : x < L + 1 := by omega
    have wx : IntKind.i64.wrap ((x : Int) + 1) = ((x + 1 : Nat) : Int) := wrap_succ (by omega)
    refine Sx.if_true (by simp only [Bool.and_eq_true, Bool.or_eq_true, Sx.iLt_t, Sx.iLt_f, Sx.iLe_t, Sx.iLe_f, Sx.iEq_t, Sx.iEq_f, Sx.iBeq_t, Sx.iBeq_f, Sx.iBne_t, Sx.iBne_f, Nat.ble_eq, Nat.beq_eq, Sx.Cont.n, Nat.blt_eq, and_true, true_and]; omega) (Sx.if_true (by simp only [Bool.and_eq_true, Bool.or_eq_true, Sx.iLt_t, Sx.iLt_f, Sx.iLe_t, Sx.iLe_f, Sx.iEq_t, Sx.iEq_f, Sx.iBeq_t, Sx.iBeq_f, Sx.iBne_t, Sx.iBne_f, Nat.ble_eq, Nat.beq_eq, Sx.Cont.n, Nat.blt_eq, and_true, true_and]; omega) (Sx.if_true (inUs_at hin (by omega)) (Sx.if_true (by simp only [Bool.and_eq_true, Bool.or_eq_true, Sx.iLt_t, Sx.iLt_f, Sx.iLe_t, Sx.iLe_f, Sx.iEq_t, Sx.iEq_f, Sx.iBeq_t, Sx.iBeq_f, Sx.iBne_t, Sx.iBne_f, Nat.ble_eq, Nat.beq_eq, Sx.Cont.n, List.length_append, List.length_take, List.length_drop, List.length_map, List.length_cons, List.length_nil, hl]; omega) ⟨x + 1, by omega, by omega, ⟨by rw [wx], (by first | rfl | trivial)⟩, (by first | rfl | trivial), ?_, (by first | rfl | trivial)⟩)))
    show (P.take x).map O.pbase ++ [O.pbase (P.getD x 0)] = (P.take (x + 1)).map O.pbase
    rw [take_snoc P (by omega), List.map_append]
    rfl
  · simp only [Bool.and_eq_true, Bool.or_eq_true, Sx.iLt_t, Sx.iLt_f, Sx.iLe_t, Sx.iLe_f, Sx.iEq_t, Sx.iEq_f, Sx.iBeq_t, Sx.iBeq_f, Sx.iBne_t, Sx.iBne_f, Nat.ble_eq, Nat.beq_eq, Sx.Cont.n] at h
    have ex : P.take x = P := List.take_of_length_le (by omega)
    have hPb : inUs 18446744073709551616 (P.map O.pbase) = true := by
      unfold inUs
      rw [List.all_eq_true]
      intro y hy
      obtain ⟨z, _, rfl⟩ := List.mem_map.1 hy
      exact F.pbase z
    have hR : inUs 18446744073709551616 (P.take K ++ P.drop (K + 1)) = true := inUs_sub hin fun y hy => by
      rw [List.mem_append] at hy
      exact hy.elim List.mem_of_mem_take List.mem_of_mem_drop
    have rs := rest_sum P K (by omega)
    have v1 : sumO O P % 2305843009213688669 = (0 + P.sum) % 2305843009213688669 := sum_val F G P hin 0 (by decide)
    have v2 : sumO O (P.take K ++ P.drop (K + 1)) % 2305843009213688669 = (0 + (P.take K ++ P.drop (K + 1)).sum) % 2305843009213688669 := sum_val F G _ hR 0 (by decide)
    have v3 : 0 ≤ sumO O (P.take K ++ P.drop (K + 1)) ∧ sumO O (P.take K ++ P.drop (K + 1)) < 2305843009213688669 := sum_lt F G _ hR 0 (by omega)
    have iR := sum_in F (P.take K ++ P.drop (K + 1))
    have v4 := hlt _ (getD_mem (l := P) (k := K) (by omega))
    have iK : inU (P.getD K 0) 18446744073709551616 = true := inUs_at hin (by omega)
    have hz : (decide (IntKind.i64 = IntKind.i64) && !iEq ((L : Int) + 1) 0) = true := by
      rw [show iEq ((L : Int) + 1) 0 = false by simp only [Bool.and_eq_true, Bool.or_eq_true, Sx.iLt_t, Sx.iLt_f, Sx.iLe_t, Sx.iLe_f, Sx.iEq_t, Sx.iEq_f, Sx.iBeq_t, Sx.iBeq_f, Sx.iBne_t, Sx.iBne_f, Nat.ble_eq, Nat.beq_eq, Sx.Cont.n]; omega]; rfl
    have pl := G.pl P
    rw [hsum, G.bm a h_a] at pl
    simp only [ex, pl, hsum]
    have lR : (P.take K ++ P.drop (K + 1)).length = L := by rw [List.length_append, List.length_take, List.length_drop, hl]; omega
    have hb1 : (L + 1).ble 1000 = true := by rw [Nat.ble_eq]; omega
    have hb2 : (L + 1).ble 9223372036854775807 = true := by rw [Nat.ble_eq]; omega
    have hb3 : L.ble 1000 = true := by rw [Nat.ble_eq]; omega
    refine Sx.if_true hz (Sx.if_true (by simp only [Bool.and_eq_true, Bool.or_eq_true, Sx.iLt_t, Sx.iLt_f, Sx.iLe_t, Sx.iLe_f, Sx.iEq_t, Sx.iEq_f, Sx.iBeq_t, Sx.iBeq_f, Sx.iBne_t, Sx.iBne_f, Nat.ble_eq, Nat.beq_eq, Sx.Cont.n, Nat.blt_eq, and_true, true_and]; omega) (Sx.if_true (by simp only [Bool.and_eq_true, Bool.or_eq_true, Sx.iLt_t, Sx.iLt_f, Sx.iLe_t, Sx.iLe_f, Sx.iEq_t, Sx.iEq_f, Sx.iBeq_t, Sx.iBeq_f, Sx.iBne_t, Sx.iBne_f, Nat.ble_eq, Nat.beq_eq, Sx.Cont.n, List.length_append, List.length_take, List.length_drop, List.length_map, List.length_cons, List.length_nil, hl, true_and, and_true]; omega) (Sx.if_true (by simp only [Bool.and_eq_true, Bool.or_eq_true, Sx.iLt_t, Sx.iLt_f, Sx.iLe_t, Sx.iLe_f, Sx.iEq_t, Sx.iEq_f, Sx.iBeq_t, Sx.iBeq_f, Sx.iBne_t, Sx.iBne_f, Nat.ble_eq, Nat.beq_eq, Sx.Cont.n, Nat.blt_eq, and_true, true_and]; omega) (Sx.if_true (by simp only [Bool.and_eq_true, Bool.or_eq_true, Sx.iLt_t, Sx.iLt_f, Sx.iLe_t, Sx.iLe_f, Sx.iEq_t, Sx.iEq_f, Sx.iBeq_t, Sx.iBeq_f, Sx.iBne_t, Sx.iBne_f, Nat.ble_eq, Nat.beq_eq, Sx.Cont.n, List.length_append, List.length_take, List.length_drop, List.length_map, List.length_cons, List.length_nil, hl, true_and, and_true]; omega) (Sx.if_true (by rw [hin, hb1]; rfl) (Sx.if_true (by rw [Sx.iBeq_t]) (Sx.if_true (by rw [hPb, List.length_map, hl, hb2]; rfl) (Sx.if_true h_a (Sx.if_true (by rw [Sx.iBeq_t]) ?_)))))))))
    refine Sx.if_true (by rw [hR, lR, hb3]; rfl) (Sx.if_true (by simp only [Bool.and_eq_true, Bool.or_eq_true, Sx.iLt_t, Sx.iLt_f, Sx.iLe_t, Sx.iLe_f, Sx.iEq_t, Sx.iEq_f, Sx.iBeq_t, Sx.iBeq_f, Sx.iBne_t, Sx.iBne_f, Nat.ble_eq, Nat.beq_eq, Sx.Cont.n, Nat.blt_eq, and_true, true_and]; omega) (Sx.if_true (by simp only [Bool.and_eq_true, Bool.or_eq_true, Sx.iLt_t, Sx.iLt_f, Sx.iLe_t, Sx.iLe_f, Sx.iEq_t, Sx.iEq_f, Sx.iBeq_t, Sx.iBeq_f, Sx.iBne_t, Sx.iBne_f, Nat.ble_eq, Nat.beq_eq, Sx.Cont.n, Nat.blt_eq, and_true, true_and]; omega) (Sx.if_true (by rw [iR, iK]; rfl) (Sx.if_true ?_ (Sx.if_true (by rw [hR, lR, hb3]; rfl) (Sx.if_true (by simp only [Bool.and_eq_true, Bool.or_eq_true, Sx.iLt_t, Sx.iLt_f, Sx.iLe_t, Sx.iLe_f, Sx.iEq_t, Sx.iEq_f, Sx.iBeq_t, Sx.iBeq_f, Sx.iBne_t, Sx.iBne_f, Nat.ble_eq, Nat.beq_eq, Sx.Cont.n, Nat.blt_eq, and_true, true_and]; omega) (Sx.if_true (by simp only [Bool.and_eq_true, Bool.or_eq_true, Sx.iLt_t, Sx.iLt_f, Sx.iLe_t, Sx.iLe_f, Sx.iEq_t, Sx.iEq_f, Sx.iBeq_t, Sx.iBeq_f, Sx.iBne_t, Sx.iBne_f, Nat.ble_eq, Nat.beq_eq, Sx.Cont.n, Nat.blt_eq, and_true, true_and]; omega) ?_)))))))
    · rw [Sx.iBeq_t, G.fv _ _ (F.fadd _ _) iK, G.fv 0 _ (by decide) iR]
      omega
    · rw [iff_beq (by omega)]
theorem wpc_paParts (O : OO) (Z : OZ) (Y : OY) (a n k : Int) (F : FO O) (G : FP O) (h_a : inU a 18446744073709551616 = true) (h_n : inU n 256 = true) (h_k : inU k 256 = true) : wpcI Try.prog (spP3 O Z Y) Try.f6.ntmps [⟨Nat, [0, 2, 7, 8], [(9, 23, .ints .u64 []), (10, 25, .ints .u64 [])], fun B j => [(9, .row B), (10, .row (B + 1)), (11, .v (.int .i64 (j : Int)))], fun B j => [(B, .ro (.ints .u64 (lpO O a n))), (B + 1, .own 25 (.ints .u64 (((lpO O a n).take j).map O.pbase)))], fun j => j ≤ 8, fun j => 9 - j, 0⟩] (bodyOf Try.f6) 0 0 (argEnv [.int .u64 a, .int .u8 n, .int .u8 k] 0) [] (retK Try.prog Try.f6.results.toList (.bool true)) :=
  Eq.mpr (by kernel_rfl) (vc_paParts O Z Y a n k F G h_a h_n h_k)
theorem walk_paParts (a : Nat) (hb_a : a < 18446744073709551616) (n : Nat) (hb_n : n < 256) (k : Nat) (hb_k : k < 256) (w : World) : Calls Try.prog 6 #[.int .u64 (a : Int), .int .u8 (n : Int), .int .u8 (k : Int)] w fun e w' => e = .returned (.bool true) ∧ Kp w w' := by
  skip
  exact (calls_realI (I := I0) (spP3_ok I0 oo rfl (zO oo) rfl (yO oo) rfl) (by kernel_rfl) _ (l := [.int .u64 (a : Int), .int .u8 (n : Int), .int .u8 (k : Int)]) Try.func6 (by kernel_rfl) rfl Try.ntmps6 (by simp) (wpc_paParts oo (zO oo) (yO oo) (a : Int) (n : Int) (k : Int) (fo_oo oo rfl) fp_oo (inU_of hb_a) (inU_of hb_n) (inU_of hb_k)) w).mono fun _ _ ⟨he, hf⟩ => ⟨he, fr_below hf⟩
end Go.Proofs.Ytheihhjlkefhgaa
