/- PayPlans: the walk, by the symbolic machine (printed by genpa4.py; VC by VcTool). -/
import Derived.Test.YtheihhjlkefhgaaPa3
namespace Go.Proofs.Ytheihhjlkefhgaa
open Go.RowKit Go.Lib Ckp Cfd Cpd Sx
set_option linter.unusedVariables false
set_option linter.unusedSimpArgs false
set_option maxRecDepth 1000000

theorem from_last (O : OO) (q : Int) : ∀ l : List Int, (fromO O q l).getD l.length 0 = q
  | [] => rfl
  | b :: l => by
    obtain ⟨x, r, e⟩ := fromO_ne O q l
    have ih := from_last O q l
    unfold fromO
    rw [e] at ih ⊢
    exact ih
theorem from_step (O : OO) (q : Int) : ∀ (l : List Int) (k : Nat), k < l.length → O.padd ((fromO O q l).getD (k + 1) 0) (O.pbase (l.getD k 0)) = (fromO O q l).getD k 0
  | [], k, hk => absurd hk (Nat.not_lt_zero _)
  | b :: l, k, hk => by
    obtain ⟨x, r, e⟩ := fromO_ne O q l
    have ih := from_step O q l
    unfold fromO
    rw [e] at ih ⊢
    cases k with
    | zero => rfl
    | succ k => exact ih k (Nat.lt_of_succ_lt_succ hk)
theorem from_pr {O : OO} (G : FP O) {q : Int} (hq : O.pright q = true) : ∀ l : List Int, ∀ x ∈ fromO O q l, O.pright x = true
  | [] => fun x hx => by simp only [fromO, List.mem_singleton] at hx; subst hx; exact hq
  | b :: l => fun x hx => by
    obtain ⟨y, r, h⟩ := fromO_ne O q l
    have ih := from_pr G hq l
    unfold fromO at hx
    rw [h] at hx ih
    simp only [consO, List.mem_cons] at hx
    rcases hx with rfl | hx
    · exact G.pa _ _
    · exact ih x (List.mem_cons.2 hx)
theorem getD_mem {l : List Int} {k : Nat} (h : k < l.length) : l.getD k 0 ∈ l := by
  rw [List.getD_eq_getElem?_getD, List.getElem?_eq_getElem h]
  exact List.getElem_mem h
theorem drawsO_take (O : OO) (s : ByteArray) (b : List Int) {K L : Nat} (h : K ≤ L) : (drawsO O s b L).take K = drawsO O s b K := by
  unfold drawsO; rw [← List.map_take, List.take_range, Nat.min_eq_left h]
theorem drawsO_at (O : OO) (s : ByteArray) (b : List Int) {x L : Nat} (h : x < L) : (drawsO O s b L).getD x 0 = drawO O s b (x : Int) := by
  unfold drawsO
  rw [List.getD_eq_getElem?_getD, List.getElem?_map, List.getElem?_range h]
  rfl
theorem newB_of {O : OO} {q n : Int} (hr : O.pright q = true) (h1 : iBeq q 1 = false) (a : 1 ≤ n) (b : n ≤ 8) : newB O q n = false := by
  unfold newB
  rw [hr, h1, show iLt n 1 = false by simp only [Bool.and_eq_true, Bool.or_eq_true, Sx.iLt_t, Sx.iLt_f, Sx.iLe_t, Sx.iLe_f, Sx.iEq_t, Sx.iEq_f, Sx.iBeq_t, Sx.iBeq_f, Sx.iBne_t, Sx.iBne_f, Nat.ble_eq, Nat.beq_eq, Sx.Cont.n]; omega, show iLt 8 n = false by simp only [Bool.and_eq_true, Bool.or_eq_true, Sx.iLt_t, Sx.iLt_f, Sx.iLe_t, Sx.iLe_f, Sx.iEq_t, Sx.iEq_f, Sx.iBeq_t, Sx.iBeq_f, Sx.iBne_t, Sx.iBne_f, Nat.ble_eq, Nat.beq_eq, Sx.Cont.n]; omega]
  rfl
set_option maxHeartbeats 4000000 in
theorem vc_paPlans (O : OO) (Z : OZ) (Y : OY) (q n m : Int) (seed : Nat → Int) (F : FO O) (G : FP O) (h_q : inU q 18446744073709551616 = true) (h_n : inU n 256 = true) (h_m : inU m 256 = true) (h_seed : O.isH (AV seed) = true) :
  If (inU q 18446744073709551616 && O.isH (Array.mk (List.map (Value.int IntKind.u8) (tabI seed 32))))
    (If (newB O q (IntKind.i64.wrap (iAdd 1 (IntKind.i64.wrap (n.tmod 8)))))
      (If (inU q 18446744073709551616)
        (If (O.pright q) (If (!false == iBne q 1) (Value.bool false = Value.bool true) (Value.bool (iBeq (iOf 0) 0) = Value.bool true)) (Value.bool (iBeq (iOf 0) 0) = Value.bool true)) False)
      (If (inU q 18446744073709551616)
        (If (O.pright q)
          (If (!true == iBne q 1) (Value.bool false = Value.bool true)
            (If
              (iBne (iOf (fromO O q (blindsO O (Array.mk (List.map (Value.int IntKind.u8) (tabI seed 32))) (IntKind.i64.wrap (iAdd 1 (IntKind.i64.wrap (n.tmod 8)))))).length)
                (IntKind.i64.wrap (iAdd 1 (IntKind.i64.wrap (n.tmod 8)))))
              (Value.bool false = Value.bool true)
              (If
                (iBne (iOf (blindsO O (Array.mk (List.map (Value.int IntKind.u8) (tabI seed 32))) (IntKind.i64.wrap (iAdd 1 (IntKind.i64.wrap (n.tmod 8))))).length)
                  (IntKind.i64.wrap (iSub (IntKind.i64.wrap (iAdd 1 (IntKind.i64.wrap (n.tmod 8)))) 1)))
                (Value.bool false = Value.bool true)
                (If
                  (iLe 0 (IntKind.i64.wrap (iSub (IntKind.i64.wrap (iAdd 1 (IntKind.i64.wrap (n.tmod 8)))) 1)) &&
                    (IntKind.i64.wrap (iSub (IntKind.i64.wrap (iAdd 1 (IntKind.i64.wrap (n.tmod 8)))) 1)).toNat.blt
                      (fromO O q (blindsO O (Array.mk (List.map (Value.int IntKind.u8) (tabI seed 32))) (IntKind.i64.wrap (iAdd 1 (IntKind.i64.wrap (n.tmod 8)))))).length)
                  (If
                    (true && Nat.beq 1 1 &&
                      (IntKind.i64.wrap (iSub (IntKind.i64.wrap (iAdd 1 (IntKind.i64.wrap (n.tmod 8)))) 1)).toNat.blt
                        (fromO O q (blindsO O (Array.mk (List.map (Value.int IntKind.u8) (tabI seed 32))) (IntKind.i64.wrap (iAdd 1 (IntKind.i64.wrap (n.tmod 8)))))).length)
                    (If
                      (iBne
                        ((fromO O q (blindsO O (Array.mk (List.map (Value.int IntKind.u8) (tabI seed 32))) (IntKind.i64.wrap (iAdd 1 (IntKind.i64.wrap (n.tmod 8)))))).getD
                          (IntKind.i64.wrap (iSub (IntKind.i64.wrap (iAdd 1 (IntKind.i64.wrap (n.tmod 8)))) 1)).toNat 0)
                        q)
                      (Value.bool false = Value.bool true)
                      ((∃ (x : Nat),
                          x ≤ 7 ∧
                            (Value.int IntKind.i64 0 = Value.int IntKind.i64 (iOf x) ∧
                                Value.int IntKind.u64 q = Value.int IntKind.u64 q ∧
                                  Value.int IntKind.u8 m = Value.int IntKind.u8 m ∧
                                    Value.bool true = Value.bool true ∧
                                      Value.int IntKind.i64 (IntKind.i64.wrap (iAdd 1 (IntKind.i64.wrap (n.tmod 8)))) = Value.int IntKind.i64 (IntKind.i64.wrap (iAdd 1 (IntKind.i64.wrap (n.tmod 8)))) ∧
                                        True) ∧
                              EqI (blindsO O (Array.mk (List.map (Value.int IntKind.u8) (tabI seed 32))) (IntKind.i64.wrap (iAdd 1 (IntKind.i64.wrap (n.tmod 8)))))
                                  (blindsO O (Array.mk (List.map (Value.int IntKind.u8) (tabI seed 32))) (iAdd 1 (n % 8))) ∧
                                EqI (fromO O q (blindsO O (Array.mk (List.map (Value.int IntKind.u8) (tabI seed 32))) (IntKind.i64.wrap (iAdd 1 (IntKind.i64.wrap (n.tmod 8))))))
                                    (fromO O q (blindsO O (Array.mk (List.map (Value.int IntKind.u8) (tabI seed 32))) (IntKind.i64.wrap (iAdd 1 (IntKind.i64.wrap (n.tmod 8)))))) ∧
                                  Array.mk (List.map (Value.int IntKind.u8) (tabI seed 32)) = Array.mk (List.map (Value.int IntKind.u8) (tabI seed 32)) ∧ True) ∧
                        ∀ (x : Nat),
                          x ≤ 7 →
                            If (iLt (iOf x) (IntKind.i64.wrap (iSub (IntKind.i64.wrap (iAdd 1 (IntKind.i64.wrap (n.tmod 8)))) 1)))
                              (If
                                (iLe 0 (IntKind.i64.wrap (iAdd (iOf x) 1)) &&
                                  (IntKind.i64.wrap (iAdd (iOf x) 1)).toNat.blt
                                    (fromO O q (blindsO O (Array.mk (List.map (Value.int IntKind.u8) (tabI seed 32))) (IntKind.i64.wrap (iAdd 1 (IntKind.i64.wrap (n.tmod 8)))))).length)
                                (If
                                  (true && Nat.beq 1 1 &&
                                    (IntKind.i64.wrap (iAdd (iOf x) 1)).toNat.blt
                                      (fromO O q (blindsO O (Array.mk (List.map (Value.int IntKind.u8) (tabI seed 32))) (IntKind.i64.wrap (iAdd 1 (IntKind.i64.wrap (n.tmod 8)))))).length)
                                  (If (iLe 0 (iOf x) && (iOf x).toNat.blt (blindsO O (Array.mk (List.map (Value.int IntKind.u8) (tabI seed 32))) (iAdd 1 (n % 8))).length)
                                    (If (true && Nat.beq 1 1 && (iOf x).toNat.blt (blindsO O (Array.mk (List.map (Value.int IntKind.u8) (tabI seed 32))) (iAdd 1 (n % 8))).length)
                                      (If (inU ((blindsO O (Array.mk (List.map (Value.int IntKind.u8) (tabI seed 32))) (iAdd 1 (n % 8))).getD (iOf x).toNat 0) 18446744073709551616)
                                        (If
                                          (inU
                                              ((fromO O q (blindsO O (Array.mk (List.map (Value.int IntKind.u8) (tabI seed 32))) (IntKind.i64.wrap (iAdd 1 (IntKind.i64.wrap (n.tmod 8)))))).getD
                                                (IntKind.i64.wrap (iAdd (iOf x) 1)).toNat 0)
                                              18446744073709551616 &&
                                            inU (O.pbase ((blindsO O (Array.mk (List.map (Value.int IntKind.u8) (tabI seed 32))) (iAdd 1 (n % 8))).getD (iOf x).toNat 0)) 18446744073709551616)
                                          (If
                                            (iLe 0 (iOf x) &&
                                              (iOf x).toNat.blt
                                                (fromO O q (blindsO O (Array.mk (List.map (Value.int IntKind.u8) (tabI seed 32))) (IntKind.i64.wrap (iAdd 1 (IntKind.i64.wrap (n.tmod 8)))))).length)
                                            (If
                                              (true && Nat.beq 1 1 &&
                                                (iOf x).toNat.blt
                                                  (fromO O q (blindsO O (Array.mk (List.map (Value.int IntKind.u8) (tabI seed 32))) (IntKind.i64.wrap (iAdd 1 (IntKind.i64.wrap (n.tmod 8)))))).length)
                                              (If
                                                (iBne
                                                  (O.padd
                                                    ((fromO O q (blindsO O (Array.mk (List.map (Value.int IntKind.u8) (tabI seed 32))) (IntKind.i64.wrap (iAdd 1 (IntKind.i64.wrap (n.tmod 8)))))).getD
                                                      (IntKind.i64.wrap (iAdd (iOf x) 1)).toNat 0)
                                                    (O.pbase ((blindsO O (Array.mk (List.map (Value.int IntKind.u8) (tabI seed 32))) (iAdd 1 (n % 8))).getD (iOf x).toNat 0)))
                                                  ((fromO O q (blindsO O (Array.mk (List.map (Value.int IntKind.u8) (tabI seed 32))) (IntKind.i64.wrap (iAdd 1 (IntKind.i64.wrap (n.tmod 8)))))).getD
                                                    (iOf x).toNat 0))
                                                (Value.bool false = Value.bool true)
                                                (If
                                                  (iLe 0 (iOf x) &&
                                                    (iOf x).toNat.blt
                                                      (fromO O q
                                                          (blindsO O (Array.mk (List.map (Value.int IntKind.u8) (tabI seed 32))) (IntKind.i64.wrap (iAdd 1 (IntKind.i64.wrap (n.tmod 8)))))).length)
                                                  (If
                                                    (true && Nat.beq 1 1 &&
                                                      (iOf x).toNat.blt
                                                        (fromO O q
                                                            (blindsO O (Array.mk (List.map (Value.int IntKind.u8) (tabI seed 32))) (IntKind.i64.wrap (iAdd 1 (IntKind.i64.wrap (n.tmod 8)))))).length)
                                                    (If
                                                      (iLe 0 (IntKind.i64.wrap (iAdd (iOf x) 1)) &&
                                                        (IntKind.i64.wrap (iAdd (iOf x) 1)).toNat.blt
                                                          (fromO O q
                                                              (blindsO O (Array.mk (List.map (Value.int IntKind.u8) (tabI seed 32))) (IntKind.i64.wrap (iAdd 1 (IntKind.i64.wrap (n.tmod 8)))))).length)
                                                      (If
                                                        (true && Nat.beq 1 1 &&
                                                          (IntKind.i64.wrap (iAdd (iOf x) 1)).toNat.blt
                                                            (fromO O q
                                                                (blindsO O (Array.mk (List.map (Value.int IntKind.u8) (tabI seed 32))) (IntKind.i64.wrap (iAdd 1 (IntKind.i64.wrap (n.tmod 8)))))).length)
                                                        (If
                                                          (iBeq
                                                            ((fromO O q
                                                                  (blindsO O (Array.mk (List.map (Value.int IntKind.u8) (tabI seed 32))) (IntKind.i64.wrap (iAdd 1 (IntKind.i64.wrap (n.tmod 8)))))).getD
                                                              (iOf x).toNat 0)
                                                            ((fromO O q
                                                                  (blindsO O (Array.mk (List.map (Value.int IntKind.u8) (tabI seed 32))) (IntKind.i64.wrap (iAdd 1 (IntKind.i64.wrap (n.tmod 8)))))).getD
                                                              (IntKind.i64.wrap (iAdd (iOf x) 1)).toNat 0))
                                                          (Value.bool false = Value.bool true)
                                                          (∃ (x' : Nat),
                                                            x' ≤ 7 ∧
                                                              (nSub 8 x').succ ≤ nSub 8 x ∧
                                                                (Value.int IntKind.i64 (IntKind.i64.wrap (iAdd (iOf x) 1)) = Value.int IntKind.i64 (iOf x') ∧
                                                                    Value.int IntKind.u64 q = Value.int IntKind.u64 q ∧
                                                                      Value.int IntKind.u8 m = Value.int IntKind.u8 m ∧
                                                                        Value.bool true = Value.bool true ∧
                                                                          Value.int IntKind.i64 (IntKind.i64.wrap (iAdd 1 (IntKind.i64.wrap (n.tmod 8)))) =
                                                                              Value.int IntKind.i64 (IntKind.i64.wrap (iAdd 1 (IntKind.i64.wrap (n.tmod 8)))) ∧
                                                                            True) ∧
                                                                  EqI (blindsO O (Array.mk (List.map (Value.int IntKind.u8) (tabI seed 32))) (iAdd 1 (n % 8)))
                                                                      (blindsO O (Array.mk (List.map (Value.int IntKind.u8) (tabI seed 32))) (iAdd 1 (n % 8))) ∧
                                                                    EqI
                                                                        (fromO O q
                                                                          (blindsO O (Array.mk (List.map (Value.int IntKind.u8) (tabI seed 32)))
                                                                            (IntKind.i64.wrap (iAdd 1 (IntKind.i64.wrap (n.tmod 8))))))
                                                                        (fromO O q
                                                                          (blindsO O (Array.mk (List.map (Value.int IntKind.u8) (tabI seed 32)))
                                                                            (IntKind.i64.wrap (iAdd 1 (IntKind.i64.wrap (n.tmod 8)))))) ∧
                                                                      Array.mk (List.map (Value.int IntKind.u8) (tabI seed 32)) = Array.mk (List.map (Value.int IntKind.u8) (tabI seed 32)) ∧ True))
                                                        False)
                                                      False)
                                                    False)
                                                  False))
                                              False)
                                            False)
                                          False)
                                        False)
                                      False)
                                    False)
                                  False)
                                False)
                              (If (decide (IntKind.i64 = IntKind.i64) && !iEq (IntKind.i64.wrap (iAdd 1 (IntKind.i64.wrap (n.tmod 8)))) 0)
                                (If (inU q 18446744073709551616 && O.isH (Array.mk (List.map (Value.int IntKind.u8) (tabI seed 32))))
                                  (If (newB O q (IntKind.i64.wrap (iAdd 1 ((IntKind.i64.wrap m).tmod (IntKind.i64.wrap (iAdd 1 (IntKind.i64.wrap (n.tmod 8)))))))) (Value.bool false = Value.bool true)
                                    (If
                                      (iBeq
                                        (iOf
                                          (blindsO O (Array.mk (List.map (Value.int IntKind.u8) (tabI seed 32)))
                                              (IntKind.i64.wrap (iAdd 1 ((IntKind.i64.wrap m).tmod (IntKind.i64.wrap (iAdd 1 (IntKind.i64.wrap (n.tmod 8)))))))).length)
                                        (IntKind.i64.wrap (iSub (IntKind.i64.wrap (iAdd 1 ((IntKind.i64.wrap m).tmod (IntKind.i64.wrap (iAdd 1 (IntKind.i64.wrap (n.tmod 8))))))) 1)))
                                      (If
                                        (iLe 0 0 && iLe 0 (IntKind.i64.wrap (iSub (IntKind.i64.wrap (iAdd 1 ((IntKind.i64.wrap m).tmod (IntKind.i64.wrap (iAdd 1 (IntKind.i64.wrap (n.tmod 8))))))) 1)) &&
                                          iLe (IntKind.i64.wrap (iSub (IntKind.i64.wrap (iAdd 1 ((IntKind.i64.wrap m).tmod (IntKind.i64.wrap (iAdd 1 (IntKind.i64.wrap (n.tmod 8))))))) 1))
                                            (iOf (Cont.ints IntKind.u64 (blindsO O (AV seed) (iAdd 1 (n % 8)))).n))
                                        (If
                                          ((blindsO O (Array.mk (List.map (Value.int IntKind.u8) (tabI seed 32)))
                                                    (IntKind.i64.wrap (iAdd 1 ((IntKind.i64.wrap m).tmod (IntKind.i64.wrap (iAdd 1 (IntKind.i64.wrap (n.tmod 8)))))))).length.ble
                                              1000 &&
                                            (List.take
                                                    (nSub
                                                      (IntKind.i64.wrap (iSub (IntKind.i64.wrap (iAdd 1 ((IntKind.i64.wrap m).tmod (IntKind.i64.wrap (iAdd 1 (IntKind.i64.wrap (n.tmod 8))))))) 1)).toNat
                                                      0)
                                                    (List.drop 0 (blindsO O (Array.mk (List.map (Value.int IntKind.u8) (tabI seed 32))) (iAdd 1 (n % 8))))).length.ble
                                              1000)
                                          (Value.bool
                                              (eqL2
                                                (blindsO O (Array.mk (List.map (Value.int IntKind.u8) (tabI seed 32)))
                                                  (IntKind.i64.wrap (iAdd 1 ((IntKind.i64.wrap m).tmod (IntKind.i64.wrap (iAdd 1 (IntKind.i64.wrap (n.tmod 8))))))))
                                                (List.take
                                                  (nSub
                                                    (IntKind.i64.wrap (iSub (IntKind.i64.wrap (iAdd 1 ((IntKind.i64.wrap m).tmod (IntKind.i64.wrap (iAdd 1 (IntKind.i64.wrap (n.tmod 8))))))) 1)).toNat 0)
                                                  (List.drop 0 (blindsO O (Array.mk (List.map (Value.int IntKind.u8) (tabI seed 32))) (iAdd 1 (n % 8)))))) =
                                            Value.bool true)
                                          False)
                                        False)
                                      (Value.bool false = Value.bool true)))
                                  False)
                                False)))
                    False)
                  False))))
          (Value.bool false = Value.bool true))
        False))
    False := by
  have hAseed : O.isH (Array.mk (List.map (Value.int IntKind.u8) (tabI seed 32))) = true := h_seed
  have eA : Array.mk (List.map (Value.int IntKind.u8) (tabI seed 32)) = AV seed := rfl
  have hn := h_n
  have hm := h_m
  rw [inU_t] at hn hm
  have et : n.tmod 8 = n % 8 := Int.tmod_eq_emod_of_nonneg hn.1
  have e1 : IntKind.i64.wrap (n % 8) = n % 8 := IntWalk.i64_in _ (by omega)
  have e2 : IntKind.i64.wrap (1 + n % 8) = 1 + n % 8 := IntWalk.i64_in _ (by omega)
  have e3 : IntKind.i64.wrap m = m := IntWalk.i64_in _ (by omega)
  simp only [Sx.app, Sx.nAdd, Sx.nSub, Sx.nMul, Sx.nPow, Sx.nDiv, Sx.nMod, Sx.iAdd, Sx.iSub, Sx.iMul, Sx.iNeg, Sx.iPow, Sx.iOf, Sx.Cont.n, eA, et, e1, e2, e3]
  obtain ⟨L, eL⟩ : ∃ L : Nat, 1 + n % 8 = (L : Int) + 1 := ⟨(n % 8).toNat, by omega⟩
  have hL : L ≤ 7 := by omega
  have e4 : IntKind.i64.wrap ((L : Int) + 1 - 1) = (L : Int) := by rw [IntWalk.i64_in _ (by omega)]; omega
  have e5 : m.tmod ((L : Int) + 1) = m % ((L : Int) + 1) := Int.tmod_eq_emod_of_nonneg hm.1
  obtain ⟨K, eK⟩ : ∃ K : Nat, m % ((L : Int) + 1) = (K : Int) := ⟨(m % ((L : Int) + 1)).toNat, by have := Int.emod_nonneg m (show (L : Int) + 1 ≠ 0 by omega); omega⟩
  have hK : K ≤ L := by have := Int.emod_lt_of_pos m (show 0 < (L : Int) + 1 by omega); omega
  have e6 : IntKind.i64.wrap (1 + (K : Int)) = (K : Int) + 1 := by rw [IntWalk.i64_in _ (by omega)]; omega
  have e7 : IntKind.i64.wrap ((K : Int) + 1 - 1) = (K : Int) := by rw [IntWalk.i64_in _ (by omega)]; omega
  have eb : ∀ L : Nat, blindsO O (AV seed) ((L : Int) + 1) = drawsO O blindB (intsA (AV seed)) L := by intro L; unfold blindsO; rw [show ((L : Int) + 1 - 1).toNat = L by omega]
  simp only [eL, e4, e5, eK, e6, e7, eb]
  generalize intsA (AV seed) = B
  have dl := drawsO_len O blindB B L
  have dk := drawsO_len O blindB B K
  have fl : (fromO O q (drawsO O blindB B L)).length = L + 1 := by rw [fromO_len, dl]
  simp only [fl, dl, dk, Int.toNat_natCast]
  refine Sx.if_true (by rw [h_q, h_seed]; rfl) (Sx.if_both (fun hN => ?_) (fun hN => ?_))
  · refine Sx.if_true h_q (Sx.if_both (fun hr => Sx.if_both (fun hz => ?_) (fun _ => rfl)) (fun _ => rfl))
    exfalso
    have hz' : iBne q 1 = true := by
      cases e : iBne q 1 with
      | true => rfl
      | false => rw [e] at hz; cases hz
    have hf : newB O q ((L : Int) + 1) = false := newB_of hr (by simp only [Bool.and_eq_true, Bool.or_eq_true, Sx.iLt_t, Sx.iLt_f, Sx.iLe_t, Sx.iLe_f, Sx.iEq_t, Sx.iEq_f, Sx.iBeq_t, Sx.iBeq_f, Sx.iBne_t, Sx.iBne_f, Nat.ble_eq, Nat.beq_eq, Sx.Cont.n] at hz' ⊢; exact hz') (by omega) (by omega)
    rw [hf] at hN
    cases hN
  · obtain ⟨hr, hq1, _, _, _, _⟩ := newB_no hN
    have hne : iBne q 1 = true := by simp only [Bool.and_eq_true, Bool.or_eq_true, Sx.iLt_t, Sx.iLt_f, Sx.iLe_t, Sx.iLe_f, Sx.iEq_t, Sx.iEq_f, Sx.iBeq_t, Sx.iBeq_f, Sx.iBne_t, Sx.iBne_f, Nat.ble_eq, Nat.beq_eq, Sx.Cont.n] at hq1 ⊢; exact hq1
    have last : (fromO O q (drawsO O blindB B L)).getD L 0 = q := by have := from_last O q (drawsO O blindB B L); rw [dl] at this; exact this
    refine Sx.if_true h_q (Sx.if_true hr (Sx.if_false (by rw [hne]; rfl) (Sx.if_false (by rw [Sx.iBne_f]; rfl) (Sx.if_false (by rw [Sx.iBne_f]) (Sx.if_true (by simp only [Bool.and_eq_true, Bool.or_eq_true, Sx.iLt_t, Sx.iLt_f, Sx.iLe_t, Sx.iLe_f, Sx.iEq_t, Sx.iEq_f, Sx.iBeq_t, Sx.iBeq_f, Sx.iBne_t, Sx.iBne_f, Nat.ble_eq, Nat.beq_eq, Sx.Cont.n, Nat.blt_eq, and_true, true_and]; omega) (Sx.if_true (by simp only [Bool.and_eq_true, Bool.or_eq_true, Sx.iLt_t, Sx.iLt_f, Sx.iLe_t, Sx.iLe_f, Sx.iEq_t, Sx.iEq_f, Sx.iBeq_t, Sx.iBeq_f, Sx.iBne_t, Sx.iBne_f, Nat.ble_eq, Nat.beq_eq, Sx.Cont.n, Nat.blt_eq, and_true, true_and]; omega) (Sx.if_false (by rw [last, Sx.iBne_f]) ?_)))))))
    refine ⟨⟨0, by omega, ⟨rfl, (by first | rfl | trivial)⟩, (by first | rfl | trivial)⟩, fun x hx => Sx.if_both (fun h => ?_) (fun h => ?_)⟩
    · simp only [Bool.and_eq_true, Bool.or_eq_true, Sx.iLt_t, Sx.iLt_f, Sx.iLe_t, Sx.iLe_f, Sx.iEq_t, Sx.iEq_f, Sx.iBeq_t, Sx.iBeq_f, Sx.iBne_t, Sx.iBne_f, Nat.ble_eq, Nat.beq_eq, Sx.Cont.n] at h
      have hlt : x < L := by omega
      have wx : IntKind.i64.wrap ((x : Int) + 1) = ((x + 1 : Nat) : Int) := wrap_succ (by omega)
      have st := from_step O q (drawsO O blindB B L) x (by rw [dl]; exact hlt)
      have bx := drawsO_at O blindB B hlt
      have ib : inU ((drawsO O blindB B L).getD x 0) 18446744073709551616 = true := by rw [bx]; exact F.ffrom _
      have iy : inU ((fromO O q (drawsO O blindB B L)).getD (x + 1) 0) 18446744073709551616 = true := fromO_in F h_q _ _ (getD_mem (by rw [fl]; omega))
      have ry : O.pright ((fromO O q (drawsO O blindB B L)).getD (x + 1) 0) = true := from_pr G hr _ _ (getD_mem (by rw [fl]; omega))
      simp only [wx, Int.toNat_natCast]
      refine Sx.if_true (by simp only [Bool.and_eq_true, Bool.or_eq_true, Sx.iLt_t, Sx.iLt_f, Sx.iLe_t, Sx.iLe_f, Sx.iEq_t, Sx.iEq_f, Sx.iBeq_t, Sx.iBeq_f, Sx.iBne_t, Sx.iBne_f, Nat.ble_eq, Nat.beq_eq, Sx.Cont.n, Nat.blt_eq, and_true, true_and]; omega) (Sx.if_true (by simp only [Bool.and_eq_true, Bool.or_eq_true, Sx.iLt_t, Sx.iLt_f, Sx.iLe_t, Sx.iLe_f, Sx.iEq_t, Sx.iEq_f, Sx.iBeq_t, Sx.iBeq_f, Sx.iBne_t, Sx.iBne_f, Nat.ble_eq, Nat.beq_eq, Sx.Cont.n, Nat.blt_eq, and_true, true_and]; omega) (Sx.if_true (by simp only [Bool.and_eq_true, Bool.or_eq_true, Sx.iLt_t, Sx.iLt_f, Sx.iLe_t, Sx.iLe_f, Sx.iEq_t, Sx.iEq_f, Sx.iBeq_t, Sx.iBeq_f, Sx.iBne_t, Sx.iBne_f, Nat.ble_eq, Nat.beq_eq, Sx.Cont.n, Nat.blt_eq, and_true, true_and]; omega) (Sx.if_true (by simp only [Bool.and_eq_true, Bool.or_eq_true, Sx.iLt_t, Sx.iLt_f, Sx.iLe_t, Sx.iLe_f, Sx.iEq_t, Sx.iEq_f, Sx.iBeq_t, Sx.iBeq_f, Sx.iBne_t, Sx.iBne_f, Nat.ble_eq, Nat.beq_eq, Sx.Cont.n, Nat.blt_eq, and_true, true_and]; omega) (Sx.if_true ib (Sx.if_true (by rw [iy, F.pbase]; rfl) (Sx.if_true (by simp only [Bool.and_eq_true, Bool.or_eq_true, Sx.iLt_t, Sx.iLt_f, Sx.iLe_t, Sx.iLe_f, Sx.iEq_t, Sx.iEq_f, Sx.iBeq_t, Sx.iBeq_f, Sx.iBne_t, Sx.iBne_f, Nat.ble_eq, Nat.beq_eq, Sx.Cont.n, Nat.blt_eq, and_true, true_and]; omega) (Sx.if_true (by simp only [Bool.and_eq_true, Bool.or_eq_true, Sx.iLt_t, Sx.iLt_f, Sx.iLe_t, Sx.iLe_f, Sx.iEq_t, Sx.iEq_f, Sx.iBeq_t, Sx.iBeq_f, Sx.iBne_t, Sx.iBne_f, Nat.ble_eq, Nat.beq_eq, Sx.Cont.n, Nat.blt_eq, and_true, true_and]; omega) (Sx.if_false (by rw [st, Sx.iBne_f]) (Sx.if_true (by simp only [Bool.and_eq_true, Bool.or_eq_true, Sx.iLt_t, Sx.iLt_f, Sx.iLe_t, Sx.iLe_f, Sx.iEq_t, Sx.iEq_f, Sx.iBeq_t, Sx.iBeq_f, Sx.iBne_t, Sx.iBne_f, Nat.ble_eq, Nat.beq_eq, Sx.Cont.n, Nat.blt_eq, and_true, true_and]; omega) (Sx.if_true (by simp only [Bool.and_eq_true, Bool.or_eq_true, Sx.iLt_t, Sx.iLt_f, Sx.iLe_t, Sx.iLe_f, Sx.iEq_t, Sx.iEq_f, Sx.iBeq_t, Sx.iBeq_f, Sx.iBne_t, Sx.iBne_f, Nat.ble_eq, Nat.beq_eq, Sx.Cont.n, Nat.blt_eq, and_true, true_and]; omega) (Sx.if_true (by simp only [Bool.and_eq_true, Bool.or_eq_true, Sx.iLt_t, Sx.iLt_f, Sx.iLe_t, Sx.iLe_f, Sx.iEq_t, Sx.iEq_f, Sx.iBeq_t, Sx.iBeq_f, Sx.iBne_t, Sx.iBne_f, Nat.ble_eq, Nat.beq_eq, Sx.Cont.n, Nat.blt_eq, and_true, true_and]; omega) (Sx.if_true (by simp only [Bool.and_eq_true, Bool.or_eq_true, Sx.iLt_t, Sx.iLt_f, Sx.iLe_t, Sx.iLe_f, Sx.iEq_t, Sx.iEq_f, Sx.iBeq_t, Sx.iBeq_f, Sx.iBne_t, Sx.iBne_f, Nat.ble_eq, Nat.beq_eq, Sx.Cont.n, Nat.blt_eq, and_true, true_and]; omega) (Sx.if_false ?_ ⟨x + 1, by omega, by omega, ⟨rfl, (by first | rfl | trivial)⟩, (by first | rfl | trivial)⟩)))))))))))))
      rw [Sx.iBeq_f]
      intro hc
      rw [hc] at st
      have := G.pn _ _ iy ib ry st
      rw [bx] at this
      have := G.fr (AV (O.tag blindB [B, [IntKind.u8.wrap (x : Int)]]))
      have e : drawO O blindB B (x : Int) = O.ffrom (AV (O.tag blindB [B, [IntKind.u8.wrap (x : Int)]])) := rfl
      omega
    · have hf : newB O q ((K : Int) + 1) = false := newB_of hr hq1 (by omega) (by omega)
      have hz : (decide (IntKind.i64 = IntKind.i64) && !iEq ((L : Int) + 1) 0) = true := by
        rw [show iEq ((L : Int) + 1) 0 = false by simp only [Bool.and_eq_true, Bool.or_eq_true, Sx.iLt_t, Sx.iLt_f, Sx.iLe_t, Sx.iLe_f, Sx.iEq_t, Sx.iEq_f, Sx.iBeq_t, Sx.iBeq_f, Sx.iBne_t, Sx.iBne_f, Nat.ble_eq, Nat.beq_eq, Sx.Cont.n]; omega]; rfl
      refine Sx.if_true hz (Sx.if_true (by rw [h_q, h_seed]; rfl) (Sx.if_false hf (Sx.if_true (by rw [Sx.iBeq_t]) (Sx.if_true (by simp only [Bool.and_eq_true, Bool.or_eq_true, Sx.iLt_t, Sx.iLt_f, Sx.iLe_t, Sx.iLe_f, Sx.iEq_t, Sx.iEq_f, Sx.iBeq_t, Sx.iBeq_f, Sx.iBne_t, Sx.iBne_f, Nat.ble_eq, Nat.beq_eq, Sx.Cont.n, Nat.blt_eq, and_true, true_and]; omega) (Sx.if_true ?_ ?_)))))
      · simp only [List.drop_zero, List.length_take, dl, Bool.and_eq_true, Bool.or_eq_true, Sx.iLt_t, Sx.iLt_f, Sx.iLe_t, Sx.iLe_f, Sx.iEq_t, Sx.iEq_f, Sx.iBeq_t, Sx.iBeq_f, Sx.iBne_t, Sx.iBne_f, Nat.ble_eq, Nat.beq_eq, Sx.Cont.n]; omega
      · rw [List.drop_zero, Nat.sub_zero, drawsO_take O blindB B hK, eqL2_self]
theorem wpc_paPlans (O : OO) (Z : OZ) (Y : OY) (q n m : Int) (seed : Nat → Int) (F : FO O) (G : FP O) (h_q : inU q 18446744073709551616 = true) (h_n : inU n 256 = true) (h_m : inU m 256 = true) (h_seed : O.isH (AV seed) = true) : wpcI Try.prog (spP3 O Z Y) Try.f5.ntmps [⟨Nat, [0, 3, 5, 9, 10, 11], [(200011, 23, .ints .u64 [])], fun B j => [(13, .v (.int .i64 (j : Int)))], fun B j => [(B, .ro (.ints .u64 (blindsO O (AV seed) (1 + n % 8))))], fun j => j ≤ 7, fun j => 8 - j, 0⟩] (bodyOf Try.f5) 0 0 (argEnv [.int .u64 q, .agg (AV seed), .int .u8 n, .int .u8 m] 0) [] (retK Try.prog Try.f5.results.toList (.bool true)) :=
  Eq.mpr (by kernel_rfl) (vc_paPlans O Z Y q n m seed F G h_q h_n h_m h_seed)
theorem walk_paPlans (q : Nat) (hb_q : q < 18446744073709551616) (l_seed : List Nat) (hl_seed : l_seed.length = 32) (hb_seed : ∀ i, l_seed.getD i 0 < 256) (n : Nat) (hb_n : n < 256) (m : Nat) (hb_m : m < 256) (w : World) : Calls Try.prog 5 #[.int .u64 (q : Int), B8 l_seed, .int .u8 (n : Int), .int .u8 (m : Int)] w fun e w' => e = .returned (.bool true) ∧ Kp w w' := by
  obtain ⟨seed, e_seed, i_seed⟩ := bcs_AV l_seed hl_seed hb_seed
  rw [show (B8 l_seed : Value) = .agg (AV seed) from congrArg Value.agg e_seed]
  exact (calls_realI (I := I0) (spP3_ok I0 oo rfl (zO oo) rfl (yO oo) rfl) (by kernel_rfl) _ (l := [.int .u64 (q : Int), .agg (AV seed), .int .u8 (n : Int), .int .u8 (m : Int)]) Try.func5 (by kernel_rfl) rfl Try.ntmps5 (by simp) (wpc_paPlans oo (zO oo) (yO oo) (q : Int) (n : Int) (m : Int) seed (fo_oo oo rfl) fp_oo (inU_of hb_q) (inU_of hb_n) (inU_of hb_m) (isH_oo i_seed)) w).mono fun _ _ ⟨he, hf⟩ => ⟨he, fr_below hf⟩
end Go.Proofs.Ytheihhjlkefhgaa
