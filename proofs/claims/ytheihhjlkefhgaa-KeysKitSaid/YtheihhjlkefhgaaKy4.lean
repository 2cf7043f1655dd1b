/- KeysTells: the walk, by the symbolic machine (printed by genky4.py; VCs by VcTool). -/
import Derived.Test.YtheihhjlkefhgaaKy3
namespace Go.Proofs.Ytheihhjlkefhgaa
open Go.RowKit Go.Lib Ckp Cfd Cpd Sx
set_option linter.unusedVariables false
set_option linter.unusedSimpArgs false
set_option maxRecDepth 1000000
def isIntV : Value → Bool
  | .int _ _ => true
  | _ => false
theorem eqL_ints : ∀ l : List Value, l.all isIntV = true → eqL l l = true
  | [], _ => rfl
  | v :: l, h => by
    simp only [List.all_cons, Bool.and_eq_true] at h
    cases v <;> simp only [isIntV, Bool.false_eq_true, false_and] at h
    have := eqL_ints l h.2
    simp [eqL, this]
theorem eqv_ints (l : List Value) (h : l.all isIntV = true) : eqv (Array.mk l) (Array.mk l) = true := eqL_ints l h
set_option maxHeartbeats 4000000 in
theorem vc_kyTells (O : OO) (Z : OZ) (Y : OY) (no a b : Int) (seed : Nat → Int) (F : FO O) (G : FZ O Z) (mS : ∀ a p, mixO O Y (O.pbase a) p = O.pbase (msecO O Y a p)) (rS : ∀ a m, revO O Y (O.pbase a) (perO O m) = O.pbase (rsecO O Y a m)) (h_a : inU a 18446744073709551616 = true) (h_b : inU b 18446744073709551616 = true) (h_seed : O.isH (AV seed) = true) :
  If (O.isH (Array.mk (List.map (Value.int IntKind.u8) (tabI seed 32))))
    (If (O.isH (Array.mk (List.map (Value.int IntKind.u8) (tabI seed 32))))
      (If
        (!eqv
            (Array.mk
              (app
                [Value.int IntKind.u64 (O.ffrom (Array.mk (List.map (Value.int IntKind.u8) (tabI (kitF O (Array.mk (List.map (Value.int IntKind.u8) (tabI seed 32))) 1) 32)))),
                  Value.int IntKind.u64 (O.ffrom (Array.mk (List.map (Value.int IntKind.u8) (tabI (kitF O (Array.mk (List.map (Value.int IntKind.u8) (tabI seed 32))) 2) 32)))),
                  Value.int IntKind.u64 (O.ffrom (Array.mk (List.map (Value.int IntKind.u8) (tabI (kitF O (Array.mk (List.map (Value.int IntKind.u8) (tabI seed 32))) 3) 32)))),
                  Value.int IntKind.u64 (O.ffrom (Array.mk (List.map (Value.int IntKind.u8) (tabI (kitF O (Array.mk (List.map (Value.int IntKind.u8) (tabI seed 32))) 4) 32)))),
                  Value.int IntKind.u64 (O.ffrom (Array.mk (List.map (Value.int IntKind.u8) (tabI (kitF O (Array.mk (List.map (Value.int IntKind.u8) (tabI seed 32))) 5) 32))))]
                (List.map (Value.int IntKind.u8) (tabI (kitF O (Array.mk (List.map (Value.int IntKind.u8) (tabI seed 32))) 6) 32))))
            (Array.mk
              (app
                [Value.int IntKind.u64 (O.ffrom (Array.mk (List.map (Value.int IntKind.u8) (tabI (kitF O (Array.mk (List.map (Value.int IntKind.u8) (tabI seed 32))) 1) 32)))),
                  Value.int IntKind.u64 (O.ffrom (Array.mk (List.map (Value.int IntKind.u8) (tabI (kitF O (Array.mk (List.map (Value.int IntKind.u8) (tabI seed 32))) 2) 32)))),
                  Value.int IntKind.u64 (O.ffrom (Array.mk (List.map (Value.int IntKind.u8) (tabI (kitF O (Array.mk (List.map (Value.int IntKind.u8) (tabI seed 32))) 3) 32)))),
                  Value.int IntKind.u64 (O.ffrom (Array.mk (List.map (Value.int IntKind.u8) (tabI (kitF O (Array.mk (List.map (Value.int IntKind.u8) (tabI seed 32))) 4) 32)))),
                  Value.int IntKind.u64 (O.ffrom (Array.mk (List.map (Value.int IntKind.u8) (tabI (kitF O (Array.mk (List.map (Value.int IntKind.u8) (tabI seed 32))) 5) 32))))]
                (List.map (Value.int IntKind.u8) (tabI (kitF O (Array.mk (List.map (Value.int IntKind.u8) (tabI seed 32))) 6) 32)))))
        (Value.bool false = Value.bool true)
        (If
          (inU (O.ffrom (Array.mk (List.map (Value.int IntKind.u8) (tabI (kitF O (Array.mk (List.map (Value.int IntKind.u8) (tabI seed 32))) 1) 32)))) 18446744073709551616 &&
                    inU (O.ffrom (Array.mk (List.map (Value.int IntKind.u8) (tabI (kitF O (Array.mk (List.map (Value.int IntKind.u8) (tabI seed 32))) 2) 32)))) 18446744073709551616 &&
                  inU (O.ffrom (Array.mk (List.map (Value.int IntKind.u8) (tabI (kitF O (Array.mk (List.map (Value.int IntKind.u8) (tabI seed 32))) 3) 32)))) 18446744073709551616 &&
                inU (O.ffrom (Array.mk (List.map (Value.int IntKind.u8) (tabI (kitF O (Array.mk (List.map (Value.int IntKind.u8) (tabI seed 32))) 4) 32)))) 18446744073709551616 &&
              inU (O.ffrom (Array.mk (List.map (Value.int IntKind.u8) (tabI (kitF O (Array.mk (List.map (Value.int IntKind.u8) (tabI seed 32))) 5) 32)))) 18446744073709551616 &&
            O.isH
              (Array.mk
                (List.map (Value.int IntKind.u8)
                  (tabI
                    (fun (i : Nat) =>
                      [kitF O (Array.mk (List.map (Value.int IntKind.u8) (tabI seed 32))) 6 0, kitF O (Array.mk (List.map (Value.int IntKind.u8) (tabI seed 32))) 6 1,
                            kitF O (Array.mk (List.map (Value.int IntKind.u8) (tabI seed 32))) 6 2, kitF O (Array.mk (List.map (Value.int IntKind.u8) (tabI seed 32))) 6 3,
                            kitF O (Array.mk (List.map (Value.int IntKind.u8) (tabI seed 32))) 6 4, kitF O (Array.mk (List.map (Value.int IntKind.u8) (tabI seed 32))) 6 5,
                            kitF O (Array.mk (List.map (Value.int IntKind.u8) (tabI seed 32))) 6 6, kitF O (Array.mk (List.map (Value.int IntKind.u8) (tabI seed 32))) 6 7,
                            kitF O (Array.mk (List.map (Value.int IntKind.u8) (tabI seed 32))) 6 8, kitF O (Array.mk (List.map (Value.int IntKind.u8) (tabI seed 32))) 6 9,
                            kitF O (Array.mk (List.map (Value.int IntKind.u8) (tabI seed 32))) 6 10, kitF O (Array.mk (List.map (Value.int IntKind.u8) (tabI seed 32))) 6 11,
                            kitF O (Array.mk (List.map (Value.int IntKind.u8) (tabI seed 32))) 6 12, kitF O (Array.mk (List.map (Value.int IntKind.u8) (tabI seed 32))) 6 13,
                            kitF O (Array.mk (List.map (Value.int IntKind.u8) (tabI seed 32))) 6 14, kitF O (Array.mk (List.map (Value.int IntKind.u8) (tabI seed 32))) 6 15,
                            kitF O (Array.mk (List.map (Value.int IntKind.u8) (tabI seed 32))) 6 16, kitF O (Array.mk (List.map (Value.int IntKind.u8) (tabI seed 32))) 6 17,
                            kitF O (Array.mk (List.map (Value.int IntKind.u8) (tabI seed 32))) 6 18, kitF O (Array.mk (List.map (Value.int IntKind.u8) (tabI seed 32))) 6 19,
                            kitF O (Array.mk (List.map (Value.int IntKind.u8) (tabI seed 32))) 6 20, kitF O (Array.mk (List.map (Value.int IntKind.u8) (tabI seed 32))) 6 21,
                            kitF O (Array.mk (List.map (Value.int IntKind.u8) (tabI seed 32))) 6 22, kitF O (Array.mk (List.map (Value.int IntKind.u8) (tabI seed 32))) 6 23,
                            kitF O (Array.mk (List.map (Value.int IntKind.u8) (tabI seed 32))) 6 24, kitF O (Array.mk (List.map (Value.int IntKind.u8) (tabI seed 32))) 6 25,
                            kitF O (Array.mk (List.map (Value.int IntKind.u8) (tabI seed 32))) 6 26, kitF O (Array.mk (List.map (Value.int IntKind.u8) (tabI seed 32))) 6 27,
                            kitF O (Array.mk (List.map (Value.int IntKind.u8) (tabI seed 32))) 6 28, kitF O (Array.mk (List.map (Value.int IntKind.u8) (tabI seed 32))) 6 29,
                            kitF O (Array.mk (List.map (Value.int IntKind.u8) (tabI seed 32))) 6 30, kitF O (Array.mk (List.map (Value.int IntKind.u8) (tabI seed 32))) 6 31].getD
                        i 0)
                    32))))
          (If
            (inU (O.ffrom (Array.mk (List.map (Value.int IntKind.u8) (tabI (kitF O (Array.mk (List.map (Value.int IntKind.u8) (tabI seed 32))) 1) 32)))) 18446744073709551616 &&
                      inU (O.ffrom (Array.mk (List.map (Value.int IntKind.u8) (tabI (kitF O (Array.mk (List.map (Value.int IntKind.u8) (tabI seed 32))) 2) 32)))) 18446744073709551616 &&
                    inU (O.ffrom (Array.mk (List.map (Value.int IntKind.u8) (tabI (kitF O (Array.mk (List.map (Value.int IntKind.u8) (tabI seed 32))) 3) 32)))) 18446744073709551616 &&
                  inU (O.ffrom (Array.mk (List.map (Value.int IntKind.u8) (tabI (kitF O (Array.mk (List.map (Value.int IntKind.u8) (tabI seed 32))) 4) 32)))) 18446744073709551616 &&
                inU (O.ffrom (Array.mk (List.map (Value.int IntKind.u8) (tabI (kitF O (Array.mk (List.map (Value.int IntKind.u8) (tabI seed 32))) 5) 32)))) 18446744073709551616 &&
              O.isH
                (Array.mk
                  (List.map (Value.int IntKind.u8)
                    (tabI
                      (fun (i : Nat) =>
                        [kitF O (Array.mk (List.map (Value.int IntKind.u8) (tabI seed 32))) 6 0, kitF O (Array.mk (List.map (Value.int IntKind.u8) (tabI seed 32))) 6 1,
                              kitF O (Array.mk (List.map (Value.int IntKind.u8) (tabI seed 32))) 6 2, kitF O (Array.mk (List.map (Value.int IntKind.u8) (tabI seed 32))) 6 3,
                              kitF O (Array.mk (List.map (Value.int IntKind.u8) (tabI seed 32))) 6 4, kitF O (Array.mk (List.map (Value.int IntKind.u8) (tabI seed 32))) 6 5,
                              kitF O (Array.mk (List.map (Value.int IntKind.u8) (tabI seed 32))) 6 6, kitF O (Array.mk (List.map (Value.int IntKind.u8) (tabI seed 32))) 6 7,
                              kitF O (Array.mk (List.map (Value.int IntKind.u8) (tabI seed 32))) 6 8, kitF O (Array.mk (List.map (Value.int IntKind.u8) (tabI seed 32))) 6 9,
                              kitF O (Array.mk (List.map (Value.int IntKind.u8) (tabI seed 32))) 6 10, kitF O (Array.mk (List.map (Value.int IntKind.u8) (tabI seed 32))) 6 11,
                              kitF O (Array.mk (List.map (Value.int IntKind.u8) (tabI seed 32))) 6 12, kitF O (Array.mk (List.map (Value.int IntKind.u8) (tabI seed 32))) 6 13,
                              kitF O (Array.mk (List.map (Value.int IntKind.u8) (tabI seed 32))) 6 14, kitF O (Array.mk (List.map (Value.int IntKind.u8) (tabI seed 32))) 6 15,
                              kitF O (Array.mk (List.map (Value.int IntKind.u8) (tabI seed 32))) 6 16, kitF O (Array.mk (List.map (Value.int IntKind.u8) (tabI seed 32))) 6 17,
                              kitF O (Array.mk (List.map (Value.int IntKind.u8) (tabI seed 32))) 6 18, kitF O (Array.mk (List.map (Value.int IntKind.u8) (tabI seed 32))) 6 19,
                              kitF O (Array.mk (List.map (Value.int IntKind.u8) (tabI seed 32))) 6 20, kitF O (Array.mk (List.map (Value.int IntKind.u8) (tabI seed 32))) 6 21,
                              kitF O (Array.mk (List.map (Value.int IntKind.u8) (tabI seed 32))) 6 22, kitF O (Array.mk (List.map (Value.int IntKind.u8) (tabI seed 32))) 6 23,
                              kitF O (Array.mk (List.map (Value.int IntKind.u8) (tabI seed 32))) 6 24, kitF O (Array.mk (List.map (Value.int IntKind.u8) (tabI seed 32))) 6 25,
                              kitF O (Array.mk (List.map (Value.int IntKind.u8) (tabI seed 32))) 6 26, kitF O (Array.mk (List.map (Value.int IntKind.u8) (tabI seed 32))) 6 27,
                              kitF O (Array.mk (List.map (Value.int IntKind.u8) (tabI seed 32))) 6 28, kitF O (Array.mk (List.map (Value.int IntKind.u8) (tabI seed 32))) 6 29,
                              kitF O (Array.mk (List.map (Value.int IntKind.u8) (tabI seed 32))) 6 30, kitF O (Array.mk (List.map (Value.int IntKind.u8) (tabI seed 32))) 6 31].getD
                          i 0)
                      32))))
            (If (inU a 18446744073709551616)
              (If (inU b 18446744073709551616)
                (If
                  (iBeq
                    (bif okN no then
                      perO O
                        (Array.mk
                          (List.map (Value.int IntKind.u8)
                            (tabI
                              (secF Y no
                                (Array.mk
                                  (List.map (Value.int IntKind.u8)
                                    (tabI
                                      (fun (i : Nat) =>
                                        [kitF O (Array.mk (List.map (Value.int IntKind.u8) (tabI seed 32))) 6 0, kitF O (Array.mk (List.map (Value.int IntKind.u8) (tabI seed 32))) 6 1,
                                              kitF O (Array.mk (List.map (Value.int IntKind.u8) (tabI seed 32))) 6 2, kitF O (Array.mk (List.map (Value.int IntKind.u8) (tabI seed 32))) 6 3,
                                              kitF O (Array.mk (List.map (Value.int IntKind.u8) (tabI seed 32))) 6 4, kitF O (Array.mk (List.map (Value.int IntKind.u8) (tabI seed 32))) 6 5,
                                              kitF O (Array.mk (List.map (Value.int IntKind.u8) (tabI seed 32))) 6 6, kitF O (Array.mk (List.map (Value.int IntKind.u8) (tabI seed 32))) 6 7,
                                              kitF O (Array.mk (List.map (Value.int IntKind.u8) (tabI seed 32))) 6 8, kitF O (Array.mk (List.map (Value.int IntKind.u8) (tabI seed 32))) 6 9,
                                              kitF O (Array.mk (List.map (Value.int IntKind.u8) (tabI seed 32))) 6 10, kitF O (Array.mk (List.map (Value.int IntKind.u8) (tabI seed 32))) 6 11,
                                              kitF O (Array.mk (List.map (Value.int IntKind.u8) (tabI seed 32))) 6 12, kitF O (Array.mk (List.map (Value.int IntKind.u8) (tabI seed 32))) 6 13,
                                              kitF O (Array.mk (List.map (Value.int IntKind.u8) (tabI seed 32))) 6 14, kitF O (Array.mk (List.map (Value.int IntKind.u8) (tabI seed 32))) 6 15,
                                              kitF O (Array.mk (List.map (Value.int IntKind.u8) (tabI seed 32))) 6 16, kitF O (Array.mk (List.map (Value.int IntKind.u8) (tabI seed 32))) 6 17,
                                              kitF O (Array.mk (List.map (Value.int IntKind.u8) (tabI seed 32))) 6 18, kitF O (Array.mk (List.map (Value.int IntKind.u8) (tabI seed 32))) 6 19,
                                              kitF O (Array.mk (List.map (Value.int IntKind.u8) (tabI seed 32))) 6 20, kitF O (Array.mk (List.map (Value.int IntKind.u8) (tabI seed 32))) 6 21,
                                              kitF O (Array.mk (List.map (Value.int IntKind.u8) (tabI seed 32))) 6 22, kitF O (Array.mk (List.map (Value.int IntKind.u8) (tabI seed 32))) 6 23,
                                              kitF O (Array.mk (List.map (Value.int IntKind.u8) (tabI seed 32))) 6 24, kitF O (Array.mk (List.map (Value.int IntKind.u8) (tabI seed 32))) 6 25,
                                              kitF O (Array.mk (List.map (Value.int IntKind.u8) (tabI seed 32))) 6 26, kitF O (Array.mk (List.map (Value.int IntKind.u8) (tabI seed 32))) 6 27,
                                              kitF O (Array.mk (List.map (Value.int IntKind.u8) (tabI seed 32))) 6 28, kitF O (Array.mk (List.map (Value.int IntKind.u8) (tabI seed 32))) 6 29,
                                              kitF O (Array.mk (List.map (Value.int IntKind.u8) (tabI seed 32))) 6 30, kitF O (Array.mk (List.map (Value.int IntKind.u8) (tabI seed 32))) 6 31].getD
                                          i 0)
                                      32))))
                              32)))
                    else 0)
                    (bif okN no then
                      perO O
                        (Array.mk
                          (List.map (Value.int IntKind.u8)
                            (tabI
                              (secF Y no
                                (Array.mk
                                  (List.map (Value.int IntKind.u8)
                                    (tabI
                                      (fun (i : Nat) =>
                                        [kitF O (Array.mk (List.map (Value.int IntKind.u8) (tabI seed 32))) 6 0, kitF O (Array.mk (List.map (Value.int IntKind.u8) (tabI seed 32))) 6 1,
                                              kitF O (Array.mk (List.map (Value.int IntKind.u8) (tabI seed 32))) 6 2, kitF O (Array.mk (List.map (Value.int IntKind.u8) (tabI seed 32))) 6 3,
                                              kitF O (Array.mk (List.map (Value.int IntKind.u8) (tabI seed 32))) 6 4, kitF O (Array.mk (List.map (Value.int IntKind.u8) (tabI seed 32))) 6 5,
                                              kitF O (Array.mk (List.map (Value.int IntKind.u8) (tabI seed 32))) 6 6, kitF O (Array.mk (List.map (Value.int IntKind.u8) (tabI seed 32))) 6 7,
                                              kitF O (Array.mk (List.map (Value.int IntKind.u8) (tabI seed 32))) 6 8, kitF O (Array.mk (List.map (Value.int IntKind.u8) (tabI seed 32))) 6 9,
                                              kitF O (Array.mk (List.map (Value.int IntKind.u8) (tabI seed 32))) 6 10, kitF O (Array.mk (List.map (Value.int IntKind.u8) (tabI seed 32))) 6 11,
                                              kitF O (Array.mk (List.map (Value.int IntKind.u8) (tabI seed 32))) 6 12, kitF O (Array.mk (List.map (Value.int IntKind.u8) (tabI seed 32))) 6 13,
                                              kitF O (Array.mk (List.map (Value.int IntKind.u8) (tabI seed 32))) 6 14, kitF O (Array.mk (List.map (Value.int IntKind.u8) (tabI seed 32))) 6 15,
                                              kitF O (Array.mk (List.map (Value.int IntKind.u8) (tabI seed 32))) 6 16, kitF O (Array.mk (List.map (Value.int IntKind.u8) (tabI seed 32))) 6 17,
                                              kitF O (Array.mk (List.map (Value.int IntKind.u8) (tabI seed 32))) 6 18, kitF O (Array.mk (List.map (Value.int IntKind.u8) (tabI seed 32))) 6 19,
                                              kitF O (Array.mk (List.map (Value.int IntKind.u8) (tabI seed 32))) 6 20, kitF O (Array.mk (List.map (Value.int IntKind.u8) (tabI seed 32))) 6 21,
                                              kitF O (Array.mk (List.map (Value.int IntKind.u8) (tabI seed 32))) 6 22, kitF O (Array.mk (List.map (Value.int IntKind.u8) (tabI seed 32))) 6 23,
                                              kitF O (Array.mk (List.map (Value.int IntKind.u8) (tabI seed 32))) 6 24, kitF O (Array.mk (List.map (Value.int IntKind.u8) (tabI seed 32))) 6 25,
                                              kitF O (Array.mk (List.map (Value.int IntKind.u8) (tabI seed 32))) 6 26, kitF O (Array.mk (List.map (Value.int IntKind.u8) (tabI seed 32))) 6 27,
                                              kitF O (Array.mk (List.map (Value.int IntKind.u8) (tabI seed 32))) 6 28, kitF O (Array.mk (List.map (Value.int IntKind.u8) (tabI seed 32))) 6 29,
                                              kitF O (Array.mk (List.map (Value.int IntKind.u8) (tabI seed 32))) 6 30, kitF O (Array.mk (List.map (Value.int IntKind.u8) (tabI seed 32))) 6 31].getD
                                          i 0)
                                      32))))
                              32)))
                    else 0))
                  (If (okN no == okN no)
                    (If
                      (inU (O.ffrom (Array.mk (List.map (Value.int IntKind.u8) (tabI (kitF O (Array.mk (List.map (Value.int IntKind.u8) (tabI seed 32))) 1) 32)))) 18446744073709551616 &&
                              inU (O.ffrom (Array.mk (List.map (Value.int IntKind.u8) (tabI (kitF O (Array.mk (List.map (Value.int IntKind.u8) (tabI seed 32))) 2) 32)))) 18446744073709551616 &&
                            inU (O.ffrom (Array.mk (List.map (Value.int IntKind.u8) (tabI (kitF O (Array.mk (List.map (Value.int IntKind.u8) (tabI seed 32))) 3) 32)))) 18446744073709551616 &&
                          inU (O.ffrom (Array.mk (List.map (Value.int IntKind.u8) (tabI (kitF O (Array.mk (List.map (Value.int IntKind.u8) (tabI seed 32))) 4) 32)))) 18446744073709551616 &&
                        inU (O.ffrom (Array.mk (List.map (Value.int IntKind.u8) (tabI (kitF O (Array.mk (List.map (Value.int IntKind.u8) (tabI seed 32))) 5) 32)))) 18446744073709551616)
                      (If
                        (inU (O.ffrom (Array.mk (List.map (Value.int IntKind.u8) (tabI (kitF O (Array.mk (List.map (Value.int IntKind.u8) (tabI seed 32))) 1) 32)))) 18446744073709551616 &&
                                inU (O.ffrom (Array.mk (List.map (Value.int IntKind.u8) (tabI (kitF O (Array.mk (List.map (Value.int IntKind.u8) (tabI seed 32))) 2) 32)))) 18446744073709551616 &&
                              inU (O.ffrom (Array.mk (List.map (Value.int IntKind.u8) (tabI (kitF O (Array.mk (List.map (Value.int IntKind.u8) (tabI seed 32))) 3) 32)))) 18446744073709551616 &&
                            inU (O.ffrom (Array.mk (List.map (Value.int IntKind.u8) (tabI (kitF O (Array.mk (List.map (Value.int IntKind.u8) (tabI seed 32))) 4) 32)))) 18446744073709551616 &&
                          inU (O.ffrom (Array.mk (List.map (Value.int IntKind.u8) (tabI (kitF O (Array.mk (List.map (Value.int IntKind.u8) (tabI seed 32))) 5) 32)))) 18446744073709551616)
                        (If
                          (eqv
                            (Array.mk
                              [Value.int IntKind.u64 (O.pbase (O.ffrom (Array.mk (List.map (Value.int IntKind.u8) (tabI (kitF O (Array.mk (List.map (Value.int IntKind.u8) (tabI seed 32))) 1) 32))))),
                                Value.int IntKind.u64 (O.pbase (O.ffrom (Array.mk (List.map (Value.int IntKind.u8) (tabI (kitF O (Array.mk (List.map (Value.int IntKind.u8) (tabI seed 32))) 2) 32))))),
                                Value.int IntKind.u64 (O.pbase (O.ffrom (Array.mk (List.map (Value.int IntKind.u8) (tabI (kitF O (Array.mk (List.map (Value.int IntKind.u8) (tabI seed 32))) 3) 32))))),
                                Value.int IntKind.u64 (O.pbase (O.ffrom (Array.mk (List.map (Value.int IntKind.u8) (tabI (kitF O (Array.mk (List.map (Value.int IntKind.u8) (tabI seed 32))) 4) 32))))),
                                Value.int IntKind.u64 (O.pbase (O.ffrom (Array.mk (List.map (Value.int IntKind.u8) (tabI (kitF O (Array.mk (List.map (Value.int IntKind.u8) (tabI seed 32))) 5) 32)))))])
                            (Array.mk
                              [Value.int IntKind.u64 (O.pbase (O.ffrom (Array.mk (List.map (Value.int IntKind.u8) (tabI (kitF O (Array.mk (List.map (Value.int IntKind.u8) (tabI seed 32))) 1) 32))))),
                                Value.int IntKind.u64 (O.pbase (O.ffrom (Array.mk (List.map (Value.int IntKind.u8) (tabI (kitF O (Array.mk (List.map (Value.int IntKind.u8) (tabI seed 32))) 2) 32))))),
                                Value.int IntKind.u64 (O.pbase (O.ffrom (Array.mk (List.map (Value.int IntKind.u8) (tabI (kitF O (Array.mk (List.map (Value.int IntKind.u8) (tabI seed 32))) 3) 32))))),
                                Value.int IntKind.u64 (O.pbase (O.ffrom (Array.mk (List.map (Value.int IntKind.u8) (tabI (kitF O (Array.mk (List.map (Value.int IntKind.u8) (tabI seed 32))) 4) 32))))),
                                Value.int IntKind.u64 (O.pbase (O.ffrom (Array.mk (List.map (Value.int IntKind.u8) (tabI (kitF O (Array.mk (List.map (Value.int IntKind.u8) (tabI seed 32))) 5) 32)))))]))
                          (If (O.isH (Array.mk (List.map (Value.int IntKind.u8) (tabI seed 32))))
                            (If (O.isH (Array.mk (List.map (Value.int IntKind.u8) (tabI seed 32))))
                              (If (iBeq (perO O (Array.mk (List.map (Value.int IntKind.u8) (tabI seed 32)))) (perO O (Array.mk (List.map (Value.int IntKind.u8) (tabI seed 32)))))
                                (If (inU (O.pbase a) 18446744073709551616 && inU (O.pbase b) 18446744073709551616)
                                  (If (inU (O.pbase a) 18446744073709551616 && inU (O.pbase b) 18446744073709551616)
                                    (If (iBeq (mixO O Y (O.pbase a) (O.pbase b)) (mixO O Y (O.pbase a) (O.pbase b)))
                                      (If (inU a 18446744073709551616 && inU (O.pbase b) 18446744073709551616)
                                        (If (inU a 18446744073709551616 && inU (O.pbase b) 18446744073709551616)
                                          (If (iBeq (msecO O Y a (O.pbase b)) (msecO O Y a (O.pbase b)))
                                            (If (inU (O.pbase a) 18446744073709551616 && inU (O.pbase b) 18446744073709551616)
                                              (If (inU (O.pbase a) 18446744073709551616 && inU (O.pbase b) 18446744073709551616)
                                                (If (iBeq (revO O Y (O.pbase a) (O.pbase b)) (revO O Y (O.pbase a) (O.pbase b)))
                                                  (If (inU a 18446744073709551616 && O.isH (Array.mk (List.map (Value.int IntKind.u8) (tabI seed 32))))
                                                    (If (inU a 18446744073709551616 && O.isH (Array.mk (List.map (Value.int IntKind.u8) (tabI seed 32))))
                                                      (Value.bool
                                                          (iBeq (rsecO O Y a (Array.mk (List.map (Value.int IntKind.u8) (tabI seed 32))))
                                                            (rsecO O Y a (Array.mk (List.map (Value.int IntKind.u8) (tabI seed 32))))) =
                                                        Value.bool true)
                                                      False)
                                                    False)
                                                  (Value.bool false = Value.bool true))
                                                False)
                                              False)
                                            (Value.bool false = Value.bool true))
                                          False)
                                        False)
                                      (Value.bool false = Value.bool true))
                                    False)
                                  False)
                                (Value.bool false = Value.bool true))
                              False)
                            False)
                          (Value.bool false = Value.bool true))
                        False)
                      False)
                    (Value.bool false = Value.bool true))
                  (Value.bool false = Value.bool true))
                False)
              False)
            False)
          False))
      False)
    False := by
  have hAseed : O.isH (Array.mk (List.map (Value.int IntKind.u8) (tabI seed 32))) = true := h_seed
  have hC : O.isH (AV (kitF O (AV seed) 6)) = true := F.tH _ _
  refine Sx.if_true hAseed (Sx.if_true hAseed (Sx.if_false (by rw [eqv_ints _ (by kernel_rfl)]; rfl) ?_))
  refine Sx.if_true (by simp only [F.ffrom, Bool.and_self, Bool.true_and]; exact hC) ?_
  refine Sx.if_true (by simp only [F.ffrom, Bool.and_self, Bool.true_and]; exact hC) ?_
  refine Sx.if_true h_a (Sx.if_true h_b (Sx.if_true (iBeq_self _) (Sx.if_true (beq_b _) ?_)))
  refine Sx.if_true (by simp only [F.ffrom, Bool.and_self]) (Sx.if_true (by simp only [F.ffrom, Bool.and_self]) (Sx.if_true (eqv_ints _ (by kernel_rfl)) ?_))
  refine Sx.if_true hAseed (Sx.if_true hAseed (Sx.if_true (iBeq_self _) ?_))
  repeat (first | refine Sx.if_true (iBeq_self _) ?_ | refine Sx.if_true (by simp only [F.pbase, h_a, h_b, hAseed, Bool.and_self]) ?_)
  exact congrArg Value.bool (iBeq_self _)
theorem wpc_kyTells (O : OO) (Z : OZ) (Y : OY) (no a b : Int) (seed : Nat → Int) (F : FO O) (G : FZ O Z) (mS : ∀ a p, mixO O Y (O.pbase a) p = O.pbase (msecO O Y a p)) (rS : ∀ a m, revO O Y (O.pbase a) (perO O m) = O.pbase (rsecO O Y a m)) (h_a : inU a 18446744073709551616 = true) (h_b : inU b 18446744073709551616 = true) (h_seed : O.isH (AV seed) = true) : wpcI Try.prog (spY6 O Z Y) Try.f7.ntmps [] (bodyOf Try.f7) 0 0 (argEnv [.agg (AV seed), .int .i64 no, .int .u64 a, .int .u64 b] 0) [] (retK Try.prog Try.f7.results.toList (.bool true)) :=
  Eq.mpr (by kernel_rfl) (vc_kyTells O Z Y no a b seed F G mS rS h_a h_b h_seed)
theorem walk_kyTells (l_seed : List Nat) (hl_seed : l_seed.length = 32) (hb_seed : ∀ i, l_seed.getD i 0 < 256) (no : Int) (hb_no : -9223372036854775808 ≤ no ∧ no ≤ 9223372036854775807) (a : Nat) (hb_a : a < 18446744073709551616) (b : Nat) (hb_b : b < 18446744073709551616) (w : World) : Calls Try.prog 7 #[B8 l_seed, .int .i64 no, .int .u64 (a : Int), .int .u64 (b : Int)] w fun e w' => e = .returned (.bool true) ∧ Kp w w' := by
  obtain ⟨seed, e_seed, i_seed⟩ := bcs_AV l_seed hl_seed hb_seed
  rw [show (B8 l_seed : Value) = .agg (AV seed) from congrArg Value.agg e_seed]
  exact (calls_realI (I := I0) (spY6_ok I0 oo rfl (zO oo) rfl (yO oo) rfl) (by kernel_rfl) [] (l := [.agg (AV seed), .int .i64 no, .int .u64 (a : Int), .int .u64 (b : Int)]) Try.func7 (by kernel_rfl) rfl Try.ntmps7 (by simp) (wpc_kyTells oo (zO oo) (yO oo) (no : Int) (a : Int) (b : Int) seed (fo_oo oo rfl) fz_oo mS' rS' (inU_of hb_a) (inU_of hb_b) (isH_oo i_seed)) w).mono fun _ _ ⟨he, hf⟩ => ⟨he, fr_below hf⟩
end Go.Proofs.Ytheihhjlkefhgaa
