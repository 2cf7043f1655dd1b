/- KeysKit: the walk, by the symbolic machine (printed by genky5.py; VCs by VcTool). -/
import Derived.Test.YtheihhjlkefhgaaKy4
namespace Go.Proofs.Ytheihhjlkefhgaa
open Go.RowKit Go.Lib Ckp Cfd Cpd Sx
set_option linter.unusedVariables false
set_option linter.unusedSimpArgs false
set_option maxRecDepth 1000000
theorem pos' (a : Array Value) : iLt 0 (oo.ffrom a) = true := by
  have e : oo.ffrom a = ((ffrom (natsA a) : Nat) : Int) := by kernel_rfl
  rw [e, iLt_t]; have := ffrom_pos (natsA a); omega
theorem frF' (a : Array Value) : oo.fright (oo.ffrom a) = true := by
  have e : oo.ffrom a = ((ffrom (natsA a) : Nat) : Int) := by kernel_rfl
  rw [e, fr_iff, Int.toNat_natCast]; exact ffrom_lt _
theorem pb0 (a : Int) : oo.pbase (oo.fadd a 0) = oo.pbase a := by
  rw [o_fadd, o_pbase, o_pbase a, Int.toNat_natCast, show (0 : Int).toNat = 0 from rfl, base_add, base_0, add_one, taken_of (right_base _)]
theorem ad0 (a x : Int) : oo.fadd (oo.fadd a 0) x = oo.fadd a x := by
  rw [o_fadd a 0, o_fadd, o_fadd, Int.toNat_natCast, show (0 : Int).toNat = 0 from rfl]
  congr 1
  unfold fadd; omega
theorem mu0 (a x : Int) : oo.fmul (oo.fadd a 0) x = oo.fmul a x := by
  rw [o_fadd a 0, o_fmul, o_fmul, Int.toNat_natCast, show (0 : Int).toNat = 0 from rfl]
  congr 1
  unfold fmul fadd; rw [Nat.add_zero, Nat.mod_mul_mod]
theorem m0' (a p : Int) : msecO oo (yO oo) (oo.fadd a 0) p = msecO oo (yO oo) a p := by
  unfold msecO; rw [pb0, ad0]
theorem r0' (a : Int) (m : Array Value) : rsecO oo (yO oo) (oo.fadd a 0) m = rsecO oo (yO oo) a m := by
  unfold rsecO; rw [pb0, mu0]
set_option maxHeartbeats 4000000 in
theorem vc_kyKit (O : OO) (Z : OZ) (Y : OY) (a : Int) (seed secret : Nat → Int) (F : FO O) (G : FZ O Z) (mS : ∀ a p, mixO O Y (O.pbase a) p = O.pbase (msecO O Y a p)) (rS : ∀ a m, revO O Y (O.pbase a) (perO O m) = O.pbase (rsecO O Y a m)) (ps : ∀ a, iLt 0 (O.ffrom a) = true) (ff : ∀ a, O.fright (O.ffrom a) = true) (m0 : ∀ a p, msecO O Y (O.fadd a 0) p = msecO O Y a p) (r0 : ∀ a m, rsecO O Y (O.fadd a 0) m = rsecO O Y a m) (h_a : inU a 18446744073709551616 = true) (h_seed : O.isH (AV seed) = true) (h_secret : O.isH (AV secret) = true) :
  If (O.isH (Array.mk (List.map (Value.int IntKind.u8) (tabI seed 32))))
    (If
      (inU (O.ffrom (Array.mk (List.map (Value.int IntKind.u8) (tabI (kitF O (Array.mk (List.map (Value.int IntKind.u8) (tabI seed 32))) 1) 32)))) 18446744073709551616 &&
              inU (O.ffrom (Array.mk (List.map (Value.int IntKind.u8) (tabI (kitF O (Array.mk (List.map (Value.int IntKind.u8) (tabI seed 32))) 2) 32)))) 18446744073709551616 &&
            inU (O.ffrom (Array.mk (List.map (Value.int IntKind.u8) (tabI (kitF O (Array.mk (List.map (Value.int IntKind.u8) (tabI seed 32))) 3) 32)))) 18446744073709551616 &&
          inU (O.ffrom (Array.mk (List.map (Value.int IntKind.u8) (tabI (kitF O (Array.mk (List.map (Value.int IntKind.u8) (tabI seed 32))) 4) 32)))) 18446744073709551616 &&
        inU (O.ffrom (Array.mk (List.map (Value.int IntKind.u8) (tabI (kitF O (Array.mk (List.map (Value.int IntKind.u8) (tabI seed 32))) 5) 32)))) 18446744073709551616)
      (If (iLt 0 (O.ffrom (AV (kitF O (AV seed) 1))))
        (If (iLt 0 (O.ffrom (AV (kitF O (AV seed) 2))))
          (If (iLt 0 (O.ffrom (AV (kitF O (AV seed) 3))))
            (If (iLt 0 (O.ffrom (AV (kitF O (AV seed) 4))))
              (If (iLt 0 (O.ffrom (AV (kitF O (AV seed) 5))))
                (If (inU (O.ffrom (Array.mk (List.map (Value.int IntKind.u8) (tabI (kitF O (Array.mk (List.map (Value.int IntKind.u8) (tabI seed 32))) 1) 32)))) 18446744073709551616)
                  (If (O.fright (O.ffrom (Array.mk (List.map (Value.int IntKind.u8) (tabI (kitF O (Array.mk (List.map (Value.int IntKind.u8) (tabI seed 32))) 1) 32)))))
                    (If (inU (O.ffrom (Array.mk (List.map (Value.int IntKind.u8) (tabI (kitF O (Array.mk (List.map (Value.int IntKind.u8) (tabI seed 32))) 2) 32)))) 18446744073709551616)
                      (If (O.fright (O.ffrom (Array.mk (List.map (Value.int IntKind.u8) (tabI (kitF O (Array.mk (List.map (Value.int IntKind.u8) (tabI seed 32))) 2) 32)))))
                        (If (inU (O.ffrom (Array.mk (List.map (Value.int IntKind.u8) (tabI (kitF O (Array.mk (List.map (Value.int IntKind.u8) (tabI seed 32))) 3) 32)))) 18446744073709551616)
                          (If (O.fright (O.ffrom (Array.mk (List.map (Value.int IntKind.u8) (tabI (kitF O (Array.mk (List.map (Value.int IntKind.u8) (tabI seed 32))) 3) 32)))))
                            (If (inU (O.ffrom (Array.mk (List.map (Value.int IntKind.u8) (tabI (kitF O (Array.mk (List.map (Value.int IntKind.u8) (tabI seed 32))) 4) 32)))) 18446744073709551616)
                              (If (O.fright (O.ffrom (Array.mk (List.map (Value.int IntKind.u8) (tabI (kitF O (Array.mk (List.map (Value.int IntKind.u8) (tabI seed 32))) 4) 32)))))
                                (If (inU (O.ffrom (Array.mk (List.map (Value.int IntKind.u8) (tabI (kitF O (Array.mk (List.map (Value.int IntKind.u8) (tabI seed 32))) 5) 32)))) 18446744073709551616)
                                  (If (inU (O.ffrom (Array.mk (List.map (Value.int IntKind.u8) (tabI (kitF O (Array.mk (List.map (Value.int IntKind.u8) (tabI seed 32))) 1) 32)))) 18446744073709551616)
                                    (If
                                      (iBeq (O.pbase (O.ffrom (Array.mk (List.map (Value.int IntKind.u8) (tabI (kitF O (Array.mk (List.map (Value.int IntKind.u8) (tabI seed 32))) 1) 32)))))
                                        (O.pbase (O.ffrom (Array.mk (List.map (Value.int IntKind.u8) (tabI (kitF O (Array.mk (List.map (Value.int IntKind.u8) (tabI seed 32))) 1) 32))))))
                                      (If
                                        (inU (O.ffrom (Array.mk (List.map (Value.int IntKind.u8) (tabI (kitF O (Array.mk (List.map (Value.int IntKind.u8) (tabI seed 32))) 2) 32)))) 18446744073709551616)
                                        (If
                                          (iBeq (O.pbase (O.ffrom (Array.mk (List.map (Value.int IntKind.u8) (tabI (kitF O (Array.mk (List.map (Value.int IntKind.u8) (tabI seed 32))) 2) 32)))))
                                            (O.pbase (O.ffrom (Array.mk (List.map (Value.int IntKind.u8) (tabI (kitF O (Array.mk (List.map (Value.int IntKind.u8) (tabI seed 32))) 2) 32))))))
                                          (If
                                            (inU (O.ffrom (Array.mk (List.map (Value.int IntKind.u8) (tabI (kitF O (Array.mk (List.map (Value.int IntKind.u8) (tabI seed 32))) 3) 32))))
                                              18446744073709551616)
                                            (If
                                              (iBeq (O.pbase (O.ffrom (Array.mk (List.map (Value.int IntKind.u8) (tabI (kitF O (Array.mk (List.map (Value.int IntKind.u8) (tabI seed 32))) 3) 32)))))
                                                (O.pbase (O.ffrom (Array.mk (List.map (Value.int IntKind.u8) (tabI (kitF O (Array.mk (List.map (Value.int IntKind.u8) (tabI seed 32))) 3) 32))))))
                                              (If
                                                (inU (O.ffrom (Array.mk (List.map (Value.int IntKind.u8) (tabI (kitF O (Array.mk (List.map (Value.int IntKind.u8) (tabI seed 32))) 4) 32))))
                                                  18446744073709551616)
                                                (If
                                                  (iBeq (O.pbase (O.ffrom (Array.mk (List.map (Value.int IntKind.u8) (tabI (kitF O (Array.mk (List.map (Value.int IntKind.u8) (tabI seed 32))) 4) 32)))))
                                                    (O.pbase (O.ffrom (Array.mk (List.map (Value.int IntKind.u8) (tabI (kitF O (Array.mk (List.map (Value.int IntKind.u8) (tabI seed 32))) 4) 32))))))
                                                  (If
                                                    (inU (O.ffrom (Array.mk (List.map (Value.int IntKind.u8) (tabI (kitF O (Array.mk (List.map (Value.int IntKind.u8) (tabI seed 32))) 5) 32))))
                                                      18446744073709551616)
                                                    (If
                                                      (iBeq
                                                        (O.pbase (O.ffrom (Array.mk (List.map (Value.int IntKind.u8) (tabI (kitF O (Array.mk (List.map (Value.int IntKind.u8) (tabI seed 32))) 5) 32)))))
                                                        (O.pbase (O.ffrom (Array.mk (List.map (Value.int IntKind.u8) (tabI (kitF O (Array.mk (List.map (Value.int IntKind.u8) (tabI seed 32))) 5) 32))))))
                                                      (If
                                                        (inU
                                                          (O.pbase
                                                            (O.ffrom (Array.mk (List.map (Value.int IntKind.u8) (tabI (kitF O (Array.mk (List.map (Value.int IntKind.u8) (tabI seed 32))) 1) 32)))))
                                                          18446744073709551616)
                                                        (If
                                                          (O.pright
                                                            (O.pbase
                                                              (O.ffrom (Array.mk (List.map (Value.int IntKind.u8) (tabI (kitF O (Array.mk (List.map (Value.int IntKind.u8) (tabI seed 32))) 1) 32))))))
                                                          (If (O.isH (Array.mk (List.map (Value.int IntKind.u8) (tabI secret 32))))
                                                            (If (inU (perO O (Array.mk (List.map (Value.int IntKind.u8) (tabI secret 32)))) 18446744073709551616)
                                                              (If (O.isH (Array.mk (List.map (Value.int IntKind.u8) (tabI secret 32))))
                                                                (If
                                                                  (O.fright
                                                                    (O.ffrom
                                                                      (Array.mk (List.map (Value.int IntKind.u8) (tabI (kitF O (Array.mk (List.map (Value.int IntKind.u8) (tabI seed 32))) 5) 32)))))
                                                                  (If (O.pright (perO O (Array.mk (List.map (Value.int IntKind.u8) (tabI secret 32)))))
                                                                    (If (inU a 18446744073709551616 && inU (perO O (Array.mk (List.map (Value.int IntKind.u8) (tabI secret 32)))) 18446744073709551616)
                                                                      (If (inU a 18446744073709551616 && inU 0 18446744073709551616)
                                                                        (If
                                                                          (inU (O.fadd a 0) 18446744073709551616 &&
                                                                            inU (perO O (Array.mk (List.map (Value.int IntKind.u8) (tabI secret 32)))) 18446744073709551616)
                                                                          (If
                                                                            (iBeq (msecO O Y a (perO O (Array.mk (List.map (Value.int IntKind.u8) (tabI secret 32)))))
                                                                              (msecO O Y (O.fadd a 0) (perO O (Array.mk (List.map (Value.int IntKind.u8) (tabI secret 32))))))
                                                                            (If (inU a 18446744073709551616 && O.isH (Array.mk (List.map (Value.int IntKind.u8) (tabI secret 32))))
                                                                              (If (inU a 18446744073709551616 && inU 0 18446744073709551616)
                                                                                (If (inU (O.fadd a 0) 18446744073709551616 && O.isH (Array.mk (List.map (Value.int IntKind.u8) (tabI secret 32))))
                                                                                  (Value.bool
                                                                                      (iBeq (rsecO O Y a (Array.mk (List.map (Value.int IntKind.u8) (tabI secret 32))))
                                                                                        (rsecO O Y (O.fadd a 0) (Array.mk (List.map (Value.int IntKind.u8) (tabI secret 32))))) =
                                                                                    Value.bool true)
                                                                                  False)
                                                                                False)
                                                                              False)
                                                                            (Value.bool false = Value.bool true))
                                                                          False)
                                                                        False)
                                                                      False)
                                                                    (Value.bool false = Value.bool true))
                                                                  (Value.bool false = Value.bool true))
                                                                False)
                                                              False)
                                                            False)
                                                          (If (O.isH (Array.mk (List.map (Value.int IntKind.u8) (tabI secret 32))))
                                                            (If
                                                              (O.fright
                                                                (O.ffrom (Array.mk (List.map (Value.int IntKind.u8) (tabI (kitF O (Array.mk (List.map (Value.int IntKind.u8) (tabI seed 32))) 5) 32)))))
                                                              (Value.bool false = Value.bool true) (Value.bool false = Value.bool true))
                                                            False))
                                                        False)
                                                      (If (O.isH (Array.mk (List.map (Value.int IntKind.u8) (tabI secret 32))))
                                                        (If
                                                          (O.fright
                                                            (O.ffrom (Array.mk (List.map (Value.int IntKind.u8) (tabI (kitF O (Array.mk (List.map (Value.int IntKind.u8) (tabI seed 32))) 5) 32)))))
                                                          (Value.bool false = Value.bool true) (Value.bool false = Value.bool true))
                                                        False))
                                                    False)
                                                  (If (O.isH (Array.mk (List.map (Value.int IntKind.u8) (tabI secret 32))))
                                                    (If (O.fright (O.ffrom (Array.mk (List.map (Value.int IntKind.u8) (tabI (kitF O (Array.mk (List.map (Value.int IntKind.u8) (tabI seed 32))) 5) 32)))))
                                                      (Value.bool false = Value.bool true) (Value.bool false = Value.bool true))
                                                    False))
                                                False)
                                              (If (O.isH (Array.mk (List.map (Value.int IntKind.u8) (tabI secret 32))))
                                                (If (O.fright (O.ffrom (Array.mk (List.map (Value.int IntKind.u8) (tabI (kitF O (Array.mk (List.map (Value.int IntKind.u8) (tabI seed 32))) 5) 32)))))
                                                  (Value.bool false = Value.bool true) (Value.bool false = Value.bool true))
                                                False))
                                            False)
                                          (If (O.isH (Array.mk (List.map (Value.int IntKind.u8) (tabI secret 32))))
                                            (If (O.fright (O.ffrom (Array.mk (List.map (Value.int IntKind.u8) (tabI (kitF O (Array.mk (List.map (Value.int IntKind.u8) (tabI seed 32))) 5) 32)))))
                                              (Value.bool false = Value.bool true) (Value.bool false = Value.bool true))
                                            False))
                                        False)
                                      (If (O.isH (Array.mk (List.map (Value.int IntKind.u8) (tabI secret 32))))
                                        (If (O.fright (O.ffrom (Array.mk (List.map (Value.int IntKind.u8) (tabI (kitF O (Array.mk (List.map (Value.int IntKind.u8) (tabI seed 32))) 5) 32)))))
                                          (Value.bool false = Value.bool true) (Value.bool false = Value.bool true))
                                        False))
                                    False)
                                  False)
                                (If (inU (O.ffrom (Array.mk (List.map (Value.int IntKind.u8) (tabI (kitF O (Array.mk (List.map (Value.int IntKind.u8) (tabI seed 32))) 1) 32)))) 18446744073709551616)
                                  (If
                                    (iBeq (O.pbase (O.ffrom (Array.mk (List.map (Value.int IntKind.u8) (tabI (kitF O (Array.mk (List.map (Value.int IntKind.u8) (tabI seed 32))) 1) 32)))))
                                      (O.pbase (O.ffrom (Array.mk (List.map (Value.int IntKind.u8) (tabI (kitF O (Array.mk (List.map (Value.int IntKind.u8) (tabI seed 32))) 1) 32))))))
                                    (If (inU (O.ffrom (Array.mk (List.map (Value.int IntKind.u8) (tabI (kitF O (Array.mk (List.map (Value.int IntKind.u8) (tabI seed 32))) 2) 32)))) 18446744073709551616)
                                      (If
                                        (iBeq (O.pbase (O.ffrom (Array.mk (List.map (Value.int IntKind.u8) (tabI (kitF O (Array.mk (List.map (Value.int IntKind.u8) (tabI seed 32))) 2) 32)))))
                                          (O.pbase (O.ffrom (Array.mk (List.map (Value.int IntKind.u8) (tabI (kitF O (Array.mk (List.map (Value.int IntKind.u8) (tabI seed 32))) 2) 32))))))
                                        (If
                                          (inU (O.ffrom (Array.mk (List.map (Value.int IntKind.u8) (tabI (kitF O (Array.mk (List.map (Value.int IntKind.u8) (tabI seed 32))) 3) 32))))
                                            18446744073709551616)
                                          (If
                                            (iBeq (O.pbase (O.ffrom (Array.mk (List.map (Value.int IntKind.u8) (tabI (kitF O (Array.mk (List.map (Value.int IntKind.u8) (tabI seed 32))) 3) 32)))))
                                              (O.pbase (O.ffrom (Array.mk (List.map (Value.int IntKind.u8) (tabI (kitF O (Array.mk (List.map (Value.int IntKind.u8) (tabI seed 32))) 3) 32))))))
                                            (If
                                              (inU (O.ffrom (Array.mk (List.map (Value.int IntKind.u8) (tabI (kitF O (Array.mk (List.map (Value.int IntKind.u8) (tabI seed 32))) 4) 32))))
                                                18446744073709551616)
                                              (If
                                                (iBeq (O.pbase (O.ffrom (Array.mk (List.map (Value.int IntKind.u8) (tabI (kitF O (Array.mk (List.map (Value.int IntKind.u8) (tabI seed 32))) 4) 32)))))
                                                  (O.pbase (O.ffrom (Array.mk (List.map (Value.int IntKind.u8) (tabI (kitF O (Array.mk (List.map (Value.int IntKind.u8) (tabI seed 32))) 4) 32))))))
                                                (If
                                                  (inU (O.ffrom (Array.mk (List.map (Value.int IntKind.u8) (tabI (kitF O (Array.mk (List.map (Value.int IntKind.u8) (tabI seed 32))) 5) 32))))
                                                    18446744073709551616)
                                                  (If
                                                    (iBeq
                                                      (O.pbase (O.ffrom (Array.mk (List.map (Value.int IntKind.u8) (tabI (kitF O (Array.mk (List.map (Value.int IntKind.u8) (tabI seed 32))) 5) 32)))))
                                                      (O.pbase (O.ffrom (Array.mk (List.map (Value.int IntKind.u8) (tabI (kitF O (Array.mk (List.map (Value.int IntKind.u8) (tabI seed 32))) 5) 32))))))
                                                    (If
                                                      (inU
                                                        (O.pbase (O.ffrom (Array.mk (List.map (Value.int IntKind.u8) (tabI (kitF O (Array.mk (List.map (Value.int IntKind.u8) (tabI seed 32))) 1) 32)))))
                                                        18446744073709551616)
                                                      (If
                                                        (O.pright
                                                          (O.pbase
                                                            (O.ffrom (Array.mk (List.map (Value.int IntKind.u8) (tabI (kitF O (Array.mk (List.map (Value.int IntKind.u8) (tabI seed 32))) 1) 32))))))
                                                        (If (O.isH (Array.mk (List.map (Value.int IntKind.u8) (tabI secret 32))))
                                                          (If (inU (perO O (Array.mk (List.map (Value.int IntKind.u8) (tabI secret 32)))) 18446744073709551616)
                                                            (If (O.isH (Array.mk (List.map (Value.int IntKind.u8) (tabI secret 32)))) (Value.bool false = Value.bool true) False) False)
                                                          False)
                                                        (If (O.isH (Array.mk (List.map (Value.int IntKind.u8) (tabI secret 32)))) (Value.bool false = Value.bool true) False))
                                                      False)
                                                    (If (O.isH (Array.mk (List.map (Value.int IntKind.u8) (tabI secret 32)))) (Value.bool false = Value.bool true) False))
                                                  False)
                                                (If (O.isH (Array.mk (List.map (Value.int IntKind.u8) (tabI secret 32)))) (Value.bool false = Value.bool true) False))
                                              False)
                                            (If (O.isH (Array.mk (List.map (Value.int IntKind.u8) (tabI secret 32)))) (Value.bool false = Value.bool true) False))
                                          False)
                                        (If (O.isH (Array.mk (List.map (Value.int IntKind.u8) (tabI secret 32)))) (Value.bool false = Value.bool true) False))
                                      False)
                                    (If (O.isH (Array.mk (List.map (Value.int IntKind.u8) (tabI secret 32)))) (Value.bool false = Value.bool true) False))
                                  False))
                              False)
                            (If (inU (O.ffrom (Array.mk (List.map (Value.int IntKind.u8) (tabI (kitF O (Array.mk (List.map (Value.int IntKind.u8) (tabI seed 32))) 1) 32)))) 18446744073709551616)
                              (If
                                (iBeq (O.pbase (O.ffrom (Array.mk (List.map (Value.int IntKind.u8) (tabI (kitF O (Array.mk (List.map (Value.int IntKind.u8) (tabI seed 32))) 1) 32)))))
                                  (O.pbase (O.ffrom (Array.mk (List.map (Value.int IntKind.u8) (tabI (kitF O (Array.mk (List.map (Value.int IntKind.u8) (tabI seed 32))) 1) 32))))))
                                (If (inU (O.ffrom (Array.mk (List.map (Value.int IntKind.u8) (tabI (kitF O (Array.mk (List.map (Value.int IntKind.u8) (tabI seed 32))) 2) 32)))) 18446744073709551616)
                                  (If
                                    (iBeq (O.pbase (O.ffrom (Array.mk (List.map (Value.int IntKind.u8) (tabI (kitF O (Array.mk (List.map (Value.int IntKind.u8) (tabI seed 32))) 2) 32)))))
                                      (O.pbase (O.ffrom (Array.mk (List.map (Value.int IntKind.u8) (tabI (kitF O (Array.mk (List.map (Value.int IntKind.u8) (tabI seed 32))) 2) 32))))))
                                    (If (inU (O.ffrom (Array.mk (List.map (Value.int IntKind.u8) (tabI (kitF O (Array.mk (List.map (Value.int IntKind.u8) (tabI seed 32))) 3) 32)))) 18446744073709551616)
                                      (If
                                        (iBeq (O.pbase (O.ffrom (Array.mk (List.map (Value.int IntKind.u8) (tabI (kitF O (Array.mk (List.map (Value.int IntKind.u8) (tabI seed 32))) 3) 32)))))
                                          (O.pbase (O.ffrom (Array.mk (List.map (Value.int IntKind.u8) (tabI (kitF O (Array.mk (List.map (Value.int IntKind.u8) (tabI seed 32))) 3) 32))))))
                                        (If
                                          (inU (O.ffrom (Array.mk (List.map (Value.int IntKind.u8) (tabI (kitF O (Array.mk (List.map (Value.int IntKind.u8) (tabI seed 32))) 4) 32))))
                                            18446744073709551616)
                                          (If
                                            (iBeq (O.pbase (O.ffrom (Array.mk (List.map (Value.int IntKind.u8) (tabI (kitF O (Array.mk (List.map (Value.int IntKind.u8) (tabI seed 32))) 4) 32)))))
                                              (O.pbase (O.ffrom (Array.mk (List.map (Value.int IntKind.u8) (tabI (kitF O (Array.mk (List.map (Value.int IntKind.u8) (tabI seed 32))) 4) 32))))))
                                            (If
                                              (inU (O.ffrom (Array.mk (List.map (Value.int IntKind.u8) (tabI (kitF O (Array.mk (List.map (Value.int IntKind.u8) (tabI seed 32))) 5) 32))))
                                                18446744073709551616)
                                              (If
                                                (iBeq (O.pbase (O.ffrom (Array.mk (List.map (Value.int IntKind.u8) (tabI (kitF O (Array.mk (List.map (Value.int IntKind.u8) (tabI seed 32))) 5) 32)))))
                                                  (O.pbase (O.ffrom (Array.mk (List.map (Value.int IntKind.u8) (tabI (kitF O (Array.mk (List.map (Value.int IntKind.u8) (tabI seed 32))) 5) 32))))))
                                                (If
                                                  (inU (O.pbase (O.ffrom (Array.mk (List.map (Value.int IntKind.u8) (tabI (kitF O (Array.mk (List.map (Value.int IntKind.u8) (tabI seed 32))) 1) 32)))))
                                                    18446744073709551616)
                                                  (If
                                                    (O.pright
                                                      (O.pbase (O.ffrom (Array.mk (List.map (Value.int IntKind.u8) (tabI (kitF O (Array.mk (List.map (Value.int IntKind.u8) (tabI seed 32))) 1) 32))))))
                                                    (If (O.isH (Array.mk (List.map (Value.int IntKind.u8) (tabI secret 32))))
                                                      (If (inU (perO O (Array.mk (List.map (Value.int IntKind.u8) (tabI secret 32)))) 18446744073709551616)
                                                        (If (O.isH (Array.mk (List.map (Value.int IntKind.u8) (tabI secret 32)))) (Value.bool false = Value.bool true) False) False)
                                                      False)
                                                    (If (O.isH (Array.mk (List.map (Value.int IntKind.u8) (tabI secret 32)))) (Value.bool false = Value.bool true) False))
                                                  False)
                                                (If (O.isH (Array.mk (List.map (Value.int IntKind.u8) (tabI secret 32)))) (Value.bool false = Value.bool true) False))
                                              False)
                                            (If (O.isH (Array.mk (List.map (Value.int IntKind.u8) (tabI secret 32)))) (Value.bool false = Value.bool true) False))
                                          False)
                                        (If (O.isH (Array.mk (List.map (Value.int IntKind.u8) (tabI secret 32)))) (Value.bool false = Value.bool true) False))
                                      False)
                                    (If (O.isH (Array.mk (List.map (Value.int IntKind.u8) (tabI secret 32)))) (Value.bool false = Value.bool true) False))
                                  False)
                                (If (O.isH (Array.mk (List.map (Value.int IntKind.u8) (tabI secret 32)))) (Value.bool false = Value.bool true) False))
                              False))
                          False)
                        (If (inU (O.ffrom (Array.mk (List.map (Value.int IntKind.u8) (tabI (kitF O (Array.mk (List.map (Value.int IntKind.u8) (tabI seed 32))) 1) 32)))) 18446744073709551616)
                          (If
                            (iBeq (O.pbase (O.ffrom (Array.mk (List.map (Value.int IntKind.u8) (tabI (kitF O (Array.mk (List.map (Value.int IntKind.u8) (tabI seed 32))) 1) 32)))))
                              (O.pbase (O.ffrom (Array.mk (List.map (Value.int IntKind.u8) (tabI (kitF O (Array.mk (List.map (Value.int IntKind.u8) (tabI seed 32))) 1) 32))))))
                            (If (inU (O.ffrom (Array.mk (List.map (Value.int IntKind.u8) (tabI (kitF O (Array.mk (List.map (Value.int IntKind.u8) (tabI seed 32))) 2) 32)))) 18446744073709551616)
                              (If
                                (iBeq (O.pbase (O.ffrom (Array.mk (List.map (Value.int IntKind.u8) (tabI (kitF O (Array.mk (List.map (Value.int IntKind.u8) (tabI seed 32))) 2) 32)))))
                                  (O.pbase (O.ffrom (Array.mk (List.map (Value.int IntKind.u8) (tabI (kitF O (Array.mk (List.map (Value.int IntKind.u8) (tabI seed 32))) 2) 32))))))
                                (If (inU (O.ffrom (Array.mk (List.map (Value.int IntKind.u8) (tabI (kitF O (Array.mk (List.map (Value.int IntKind.u8) (tabI seed 32))) 3) 32)))) 18446744073709551616)
                                  (If
                                    (iBeq (O.pbase (O.ffrom (Array.mk (List.map (Value.int IntKind.u8) (tabI (kitF O (Array.mk (List.map (Value.int IntKind.u8) (tabI seed 32))) 3) 32)))))
                                      (O.pbase (O.ffrom (Array.mk (List.map (Value.int IntKind.u8) (tabI (kitF O (Array.mk (List.map (Value.int IntKind.u8) (tabI seed 32))) 3) 32))))))
                                    (If (inU (O.ffrom (Array.mk (List.map (Value.int IntKind.u8) (tabI (kitF O (Array.mk (List.map (Value.int IntKind.u8) (tabI seed 32))) 4) 32)))) 18446744073709551616)
                                      (If
                                        (iBeq (O.pbase (O.ffrom (Array.mk (List.map (Value.int IntKind.u8) (tabI (kitF O (Array.mk (List.map (Value.int IntKind.u8) (tabI seed 32))) 4) 32)))))
                                          (O.pbase (O.ffrom (Array.mk (List.map (Value.int IntKind.u8) (tabI (kitF O (Array.mk (List.map (Value.int IntKind.u8) (tabI seed 32))) 4) 32))))))
                                        (If
                                          (inU (O.ffrom (Array.mk (List.map (Value.int IntKind.u8) (tabI (kitF O (Array.mk (List.map (Value.int IntKind.u8) (tabI seed 32))) 5) 32))))
                                            18446744073709551616)
                                          (If
                                            (iBeq (O.pbase (O.ffrom (Array.mk (List.map (Value.int IntKind.u8) (tabI (kitF O (Array.mk (List.map (Value.int IntKind.u8) (tabI seed 32))) 5) 32)))))
                                              (O.pbase (O.ffrom (Array.mk (List.map (Value.int IntKind.u8) (tabI (kitF O (Array.mk (List.map (Value.int IntKind.u8) (tabI seed 32))) 5) 32))))))
                                            (If
                                              (inU (O.pbase (O.ffrom (Array.mk (List.map (Value.int IntKind.u8) (tabI (kitF O (Array.mk (List.map (Value.int IntKind.u8) (tabI seed 32))) 1) 32)))))
                                                18446744073709551616)
                                              (If
                                                (O.pright
                                                  (O.pbase (O.ffrom (Array.mk (List.map (Value.int IntKind.u8) (tabI (kitF O (Array.mk (List.map (Value.int IntKind.u8) (tabI seed 32))) 1) 32))))))
                                                (If (O.isH (Array.mk (List.map (Value.int IntKind.u8) (tabI secret 32))))
                                                  (If (inU (perO O (Array.mk (List.map (Value.int IntKind.u8) (tabI secret 32)))) 18446744073709551616)
                                                    (If (O.isH (Array.mk (List.map (Value.int IntKind.u8) (tabI secret 32)))) (Value.bool false = Value.bool true) False) False)
                                                  False)
                                                (If (O.isH (Array.mk (List.map (Value.int IntKind.u8) (tabI secret 32)))) (Value.bool false = Value.bool true) False))
                                              False)
                                            (If (O.isH (Array.mk (List.map (Value.int IntKind.u8) (tabI secret 32)))) (Value.bool false = Value.bool true) False))
                                          False)
                                        (If (O.isH (Array.mk (List.map (Value.int IntKind.u8) (tabI secret 32)))) (Value.bool false = Value.bool true) False))
                                      False)
                                    (If (O.isH (Array.mk (List.map (Value.int IntKind.u8) (tabI secret 32)))) (Value.bool false = Value.bool true) False))
                                  False)
                                (If (O.isH (Array.mk (List.map (Value.int IntKind.u8) (tabI secret 32)))) (Value.bool false = Value.bool true) False))
                              False)
                            (If (O.isH (Array.mk (List.map (Value.int IntKind.u8) (tabI secret 32)))) (Value.bool false = Value.bool true) False))
                          False))
                      False)
                    (If (inU (O.ffrom (Array.mk (List.map (Value.int IntKind.u8) (tabI (kitF O (Array.mk (List.map (Value.int IntKind.u8) (tabI seed 32))) 1) 32)))) 18446744073709551616)
                      (If
                        (iBeq (O.pbase (O.ffrom (Array.mk (List.map (Value.int IntKind.u8) (tabI (kitF O (Array.mk (List.map (Value.int IntKind.u8) (tabI seed 32))) 1) 32)))))
                          (O.pbase (O.ffrom (Array.mk (List.map (Value.int IntKind.u8) (tabI (kitF O (Array.mk (List.map (Value.int IntKind.u8) (tabI seed 32))) 1) 32))))))
                        (If (inU (O.ffrom (Array.mk (List.map (Value.int IntKind.u8) (tabI (kitF O (Array.mk (List.map (Value.int IntKind.u8) (tabI seed 32))) 2) 32)))) 18446744073709551616)
                          (If
                            (iBeq (O.pbase (O.ffrom (Array.mk (List.map (Value.int IntKind.u8) (tabI (kitF O (Array.mk (List.map (Value.int IntKind.u8) (tabI seed 32))) 2) 32)))))
                              (O.pbase (O.ffrom (Array.mk (List.map (Value.int IntKind.u8) (tabI (kitF O (Array.mk (List.map (Value.int IntKind.u8) (tabI seed 32))) 2) 32))))))
                            (If (inU (O.ffrom (Array.mk (List.map (Value.int IntKind.u8) (tabI (kitF O (Array.mk (List.map (Value.int IntKind.u8) (tabI seed 32))) 3) 32)))) 18446744073709551616)
                              (If
                                (iBeq (O.pbase (O.ffrom (Array.mk (List.map (Value.int IntKind.u8) (tabI (kitF O (Array.mk (List.map (Value.int IntKind.u8) (tabI seed 32))) 3) 32)))))
                                  (O.pbase (O.ffrom (Array.mk (List.map (Value.int IntKind.u8) (tabI (kitF O (Array.mk (List.map (Value.int IntKind.u8) (tabI seed 32))) 3) 32))))))
                                (If (inU (O.ffrom (Array.mk (List.map (Value.int IntKind.u8) (tabI (kitF O (Array.mk (List.map (Value.int IntKind.u8) (tabI seed 32))) 4) 32)))) 18446744073709551616)
                                  (If
                                    (iBeq (O.pbase (O.ffrom (Array.mk (List.map (Value.int IntKind.u8) (tabI (kitF O (Array.mk (List.map (Value.int IntKind.u8) (tabI seed 32))) 4) 32)))))
                                      (O.pbase (O.ffrom (Array.mk (List.map (Value.int IntKind.u8) (tabI (kitF O (Array.mk (List.map (Value.int IntKind.u8) (tabI seed 32))) 4) 32))))))
                                    (If (inU (O.ffrom (Array.mk (List.map (Value.int IntKind.u8) (tabI (kitF O (Array.mk (List.map (Value.int IntKind.u8) (tabI seed 32))) 5) 32)))) 18446744073709551616)
                                      (If
                                        (iBeq (O.pbase (O.ffrom (Array.mk (List.map (Value.int IntKind.u8) (tabI (kitF O (Array.mk (List.map (Value.int IntKind.u8) (tabI seed 32))) 5) 32)))))
                                          (O.pbase (O.ffrom (Array.mk (List.map (Value.int IntKind.u8) (tabI (kitF O (Array.mk (List.map (Value.int IntKind.u8) (tabI seed 32))) 5) 32))))))
                                        (If
                                          (inU (O.pbase (O.ffrom (Array.mk (List.map (Value.int IntKind.u8) (tabI (kitF O (Array.mk (List.map (Value.int IntKind.u8) (tabI seed 32))) 1) 32)))))
                                            18446744073709551616)
                                          (If (O.pright (O.pbase (O.ffrom (Array.mk (List.map (Value.int IntKind.u8) (tabI (kitF O (Array.mk (List.map (Value.int IntKind.u8) (tabI seed 32))) 1) 32))))))
                                            (If (O.isH (Array.mk (List.map (Value.int IntKind.u8) (tabI secret 32))))
                                              (If (inU (perO O (Array.mk (List.map (Value.int IntKind.u8) (tabI secret 32)))) 18446744073709551616)
                                                (If (O.isH (Array.mk (List.map (Value.int IntKind.u8) (tabI secret 32)))) (Value.bool false = Value.bool true) False) False)
                                              False)
                                            (If (O.isH (Array.mk (List.map (Value.int IntKind.u8) (tabI secret 32)))) (Value.bool false = Value.bool true) False))
                                          False)
                                        (If (O.isH (Array.mk (List.map (Value.int IntKind.u8) (tabI secret 32)))) (Value.bool false = Value.bool true) False))
                                      False)
                                    (If (O.isH (Array.mk (List.map (Value.int IntKind.u8) (tabI secret 32)))) (Value.bool false = Value.bool true) False))
                                  False)
                                (If (O.isH (Array.mk (List.map (Value.int IntKind.u8) (tabI secret 32)))) (Value.bool false = Value.bool true) False))
                              False)
                            (If (O.isH (Array.mk (List.map (Value.int IntKind.u8) (tabI secret 32)))) (Value.bool false = Value.bool true) False))
                          False)
                        (If (O.isH (Array.mk (List.map (Value.int IntKind.u8) (tabI secret 32)))) (Value.bool false = Value.bool true) False))
                      False))
                  False)
                (If (inU (O.ffrom (Array.mk (List.map (Value.int IntKind.u8) (tabI (kitF O (Array.mk (List.map (Value.int IntKind.u8) (tabI seed 32))) 1) 32)))) 18446744073709551616)
                  (If
                    (iBeq (O.pbase (O.ffrom (Array.mk (List.map (Value.int IntKind.u8) (tabI (kitF O (Array.mk (List.map (Value.int IntKind.u8) (tabI seed 32))) 1) 32)))))
                      (O.pbase (O.ffrom (Array.mk (List.map (Value.int IntKind.u8) (tabI (kitF O (Array.mk (List.map (Value.int IntKind.u8) (tabI seed 32))) 1) 32))))))
                    (If (inU (O.ffrom (Array.mk (List.map (Value.int IntKind.u8) (tabI (kitF O (Array.mk (List.map (Value.int IntKind.u8) (tabI seed 32))) 2) 32)))) 18446744073709551616)
                      (If
                        (iBeq (O.pbase (O.ffrom (Array.mk (List.map (Value.int IntKind.u8) (tabI (kitF O (Array.mk (List.map (Value.int IntKind.u8) (tabI seed 32))) 2) 32)))))
                          (O.pbase (O.ffrom (Array.mk (List.map (Value.int IntKind.u8) (tabI (kitF O (Array.mk (List.map (Value.int IntKind.u8) (tabI seed 32))) 2) 32))))))
                        (If (inU (O.ffrom (Array.mk (List.map (Value.int IntKind.u8) (tabI (kitF O (Array.mk (List.map (Value.int IntKind.u8) (tabI seed 32))) 3) 32)))) 18446744073709551616)
                          (If
                            (iBeq (O.pbase (O.ffrom (Array.mk (List.map (Value.int IntKind.u8) (tabI (kitF O (Array.mk (List.map (Value.int IntKind.u8) (tabI seed 32))) 3) 32)))))
                              (O.pbase (O.ffrom (Array.mk (List.map (Value.int IntKind.u8) (tabI (kitF O (Array.mk (List.map (Value.int IntKind.u8) (tabI seed 32))) 3) 32))))))
                            (If (inU (O.ffrom (Array.mk (List.map (Value.int IntKind.u8) (tabI (kitF O (Array.mk (List.map (Value.int IntKind.u8) (tabI seed 32))) 4) 32)))) 18446744073709551616)
                              (If
                                (iBeq (O.pbase (O.ffrom (Array.mk (List.map (Value.int IntKind.u8) (tabI (kitF O (Array.mk (List.map (Value.int IntKind.u8) (tabI seed 32))) 4) 32)))))
                                  (O.pbase (O.ffrom (Array.mk (List.map (Value.int IntKind.u8) (tabI (kitF O (Array.mk (List.map (Value.int IntKind.u8) (tabI seed 32))) 4) 32))))))
                                (If (inU (O.ffrom (Array.mk (List.map (Value.int IntKind.u8) (tabI (kitF O (Array.mk (List.map (Value.int IntKind.u8) (tabI seed 32))) 5) 32)))) 18446744073709551616)
                                  (If
                                    (iBeq (O.pbase (O.ffrom (Array.mk (List.map (Value.int IntKind.u8) (tabI (kitF O (Array.mk (List.map (Value.int IntKind.u8) (tabI seed 32))) 5) 32)))))
                                      (O.pbase (O.ffrom (Array.mk (List.map (Value.int IntKind.u8) (tabI (kitF O (Array.mk (List.map (Value.int IntKind.u8) (tabI seed 32))) 5) 32))))))
                                    (If
                                      (inU (O.pbase (O.ffrom (Array.mk (List.map (Value.int IntKind.u8) (tabI (kitF O (Array.mk (List.map (Value.int IntKind.u8) (tabI seed 32))) 1) 32)))))
                                        18446744073709551616)
                                      (If (O.pright (O.pbase (O.ffrom (Array.mk (List.map (Value.int IntKind.u8) (tabI (kitF O (Array.mk (List.map (Value.int IntKind.u8) (tabI seed 32))) 1) 32))))))
                                        (If (O.isH (Array.mk (List.map (Value.int IntKind.u8) (tabI secret 32))))
                                          (If (inU (perO O (Array.mk (List.map (Value.int IntKind.u8) (tabI secret 32)))) 18446744073709551616)
                                            (If (O.isH (Array.mk (List.map (Value.int IntKind.u8) (tabI secret 32)))) (Value.bool false = Value.bool true) False) False)
                                          False)
                                        (If (O.isH (Array.mk (List.map (Value.int IntKind.u8) (tabI secret 32)))) (Value.bool false = Value.bool true) False))
                                      False)
                                    (If (O.isH (Array.mk (List.map (Value.int IntKind.u8) (tabI secret 32)))) (Value.bool false = Value.bool true) False))
                                  False)
                                (If (O.isH (Array.mk (List.map (Value.int IntKind.u8) (tabI secret 32)))) (Value.bool false = Value.bool true) False))
                              False)
                            (If (O.isH (Array.mk (List.map (Value.int IntKind.u8) (tabI secret 32)))) (Value.bool false = Value.bool true) False))
                          False)
                        (If (O.isH (Array.mk (List.map (Value.int IntKind.u8) (tabI secret 32)))) (Value.bool false = Value.bool true) False))
                      False)
                    (If (O.isH (Array.mk (List.map (Value.int IntKind.u8) (tabI secret 32)))) (Value.bool false = Value.bool true) False))
                  False))
              (If (inU (O.ffrom (Array.mk (List.map (Value.int IntKind.u8) (tabI (kitF O (Array.mk (List.map (Value.int IntKind.u8) (tabI seed 32))) 1) 32)))) 18446744073709551616)
                (If
                  (iBeq (O.pbase (O.ffrom (Array.mk (List.map (Value.int IntKind.u8) (tabI (kitF O (Array.mk (List.map (Value.int IntKind.u8) (tabI seed 32))) 1) 32)))))
                    (O.pbase (O.ffrom (Array.mk (List.map (Value.int IntKind.u8) (tabI (kitF O (Array.mk (List.map (Value.int IntKind.u8) (tabI seed 32))) 1) 32))))))
                  (If (inU (O.ffrom (Array.mk (List.map (Value.int IntKind.u8) (tabI (kitF O (Array.mk (List.map (Value.int IntKind.u8) (tabI seed 32))) 2) 32)))) 18446744073709551616)
                    (If
                      (iBeq (O.pbase (O.ffrom (Array.mk (List.map (Value.int IntKind.u8) (tabI (kitF O (Array.mk (List.map (Value.int IntKind.u8) (tabI seed 32))) 2) 32)))))
                        (O.pbase (O.ffrom (Array.mk (List.map (Value.int IntKind.u8) (tabI (kitF O (Array.mk (List.map (Value.int IntKind.u8) (tabI seed 32))) 2) 32))))))
                      (If (inU (O.ffrom (Array.mk (List.map (Value.int IntKind.u8) (tabI (kitF O (Array.mk (List.map (Value.int IntKind.u8) (tabI seed 32))) 3) 32)))) 18446744073709551616)
                        (If
                          (iBeq (O.pbase (O.ffrom (Array.mk (List.map (Value.int IntKind.u8) (tabI (kitF O (Array.mk (List.map (Value.int IntKind.u8) (tabI seed 32))) 3) 32)))))
                            (O.pbase (O.ffrom (Array.mk (List.map (Value.int IntKind.u8) (tabI (kitF O (Array.mk (List.map (Value.int IntKind.u8) (tabI seed 32))) 3) 32))))))
                          (If (inU (O.ffrom (Array.mk (List.map (Value.int IntKind.u8) (tabI (kitF O (Array.mk (List.map (Value.int IntKind.u8) (tabI seed 32))) 4) 32)))) 18446744073709551616)
                            (If
                              (iBeq (O.pbase (O.ffrom (Array.mk (List.map (Value.int IntKind.u8) (tabI (kitF O (Array.mk (List.map (Value.int IntKind.u8) (tabI seed 32))) 4) 32)))))
                                (O.pbase (O.ffrom (Array.mk (List.map (Value.int IntKind.u8) (tabI (kitF O (Array.mk (List.map (Value.int IntKind.u8) (tabI seed 32))) 4) 32))))))
                              (If (inU (O.ffrom (Array.mk (List.map (Value.int IntKind.u8) (tabI (kitF O (Array.mk (List.map (Value.int IntKind.u8) (tabI seed 32))) 5) 32)))) 18446744073709551616)
                                (If
                                  (iBeq (O.pbase (O.ffrom (Array.mk (List.map (Value.int IntKind.u8) (tabI (kitF O (Array.mk (List.map (Value.int IntKind.u8) (tabI seed 32))) 5) 32)))))
                                    (O.pbase (O.ffrom (Array.mk (List.map (Value.int IntKind.u8) (tabI (kitF O (Array.mk (List.map (Value.int IntKind.u8) (tabI seed 32))) 5) 32))))))
                                  (If
                                    (inU (O.pbase (O.ffrom (Array.mk (List.map (Value.int IntKind.u8) (tabI (kitF O (Array.mk (List.map (Value.int IntKind.u8) (tabI seed 32))) 1) 32)))))
                                      18446744073709551616)
                                    (If (O.pright (O.pbase (O.ffrom (Array.mk (List.map (Value.int IntKind.u8) (tabI (kitF O (Array.mk (List.map (Value.int IntKind.u8) (tabI seed 32))) 1) 32))))))
                                      (If (O.isH (Array.mk (List.map (Value.int IntKind.u8) (tabI secret 32))))
                                        (If (inU (perO O (Array.mk (List.map (Value.int IntKind.u8) (tabI secret 32)))) 18446744073709551616)
                                          (If (O.isH (Array.mk (List.map (Value.int IntKind.u8) (tabI secret 32)))) (Value.bool false = Value.bool true) False) False)
                                        False)
                                      (If (O.isH (Array.mk (List.map (Value.int IntKind.u8) (tabI secret 32)))) (Value.bool false = Value.bool true) False))
                                    False)
                                  (If (O.isH (Array.mk (List.map (Value.int IntKind.u8) (tabI secret 32)))) (Value.bool false = Value.bool true) False))
                                False)
                              (If (O.isH (Array.mk (List.map (Value.int IntKind.u8) (tabI secret 32)))) (Value.bool false = Value.bool true) False))
                            False)
                          (If (O.isH (Array.mk (List.map (Value.int IntKind.u8) (tabI secret 32)))) (Value.bool false = Value.bool true) False))
                        False)
                      (If (O.isH (Array.mk (List.map (Value.int IntKind.u8) (tabI secret 32)))) (Value.bool false = Value.bool true) False))
                    False)
                  (If (O.isH (Array.mk (List.map (Value.int IntKind.u8) (tabI secret 32)))) (Value.bool false = Value.bool true) False))
                False))
            (If (inU (O.ffrom (Array.mk (List.map (Value.int IntKind.u8) (tabI (kitF O (Array.mk (List.map (Value.int IntKind.u8) (tabI seed 32))) 1) 32)))) 18446744073709551616)
              (If
                (iBeq (O.pbase (O.ffrom (Array.mk (List.map (Value.int IntKind.u8) (tabI (kitF O (Array.mk (List.map (Value.int IntKind.u8) (tabI seed 32))) 1) 32)))))
                  (O.pbase (O.ffrom (Array.mk (List.map (Value.int IntKind.u8) (tabI (kitF O (Array.mk (List.map (Value.int IntKind.u8) (tabI seed 32))) 1) 32))))))
                (If (inU (O.ffrom (Array.mk (List.map (Value.int IntKind.u8) (tabI (kitF O (Array.mk (List.map (Value.int IntKind.u8) (tabI seed 32))) 2) 32)))) 18446744073709551616)
                  (If
                    (iBeq (O.pbase (O.ffrom (Array.mk (List.map (Value.int IntKind.u8) (tabI (kitF O (Array.mk (List.map (Value.int IntKind.u8) (tabI seed 32))) 2) 32)))))
                      (O.pbase (O.ffrom (Array.mk (List.map (Value.int IntKind.u8) (tabI (kitF O (Array.mk (List.map (Value.int IntKind.u8) (tabI seed 32))) 2) 32))))))
                    (If (inU (O.ffrom (Array.mk (List.map (Value.int IntKind.u8) (tabI (kitF O (Array.mk (List.map (Value.int IntKind.u8) (tabI seed 32))) 3) 32)))) 18446744073709551616)
                      (If
                        (iBeq (O.pbase (O.ffrom (Array.mk (List.map (Value.int IntKind.u8) (tabI (kitF O (Array.mk (List.map (Value.int IntKind.u8) (tabI seed 32))) 3) 32)))))
                          (O.pbase (O.ffrom (Array.mk (List.map (Value.int IntKind.u8) (tabI (kitF O (Array.mk (List.map (Value.int IntKind.u8) (tabI seed 32))) 3) 32))))))
                        (If (inU (O.ffrom (Array.mk (List.map (Value.int IntKind.u8) (tabI (kitF O (Array.mk (List.map (Value.int IntKind.u8) (tabI seed 32))) 4) 32)))) 18446744073709551616)
                          (If
                            (iBeq (O.pbase (O.ffrom (Array.mk (List.map (Value.int IntKind.u8) (tabI (kitF O (Array.mk (List.map (Value.int IntKind.u8) (tabI seed 32))) 4) 32)))))
                              (O.pbase (O.ffrom (Array.mk (List.map (Value.int IntKind.u8) (tabI (kitF O (Array.mk (List.map (Value.int IntKind.u8) (tabI seed 32))) 4) 32))))))
                            (If (inU (O.ffrom (Array.mk (List.map (Value.int IntKind.u8) (tabI (kitF O (Array.mk (List.map (Value.int IntKind.u8) (tabI seed 32))) 5) 32)))) 18446744073709551616)
                              (If
                                (iBeq (O.pbase (O.ffrom (Array.mk (List.map (Value.int IntKind.u8) (tabI (kitF O (Array.mk (List.map (Value.int IntKind.u8) (tabI seed 32))) 5) 32)))))
                                  (O.pbase (O.ffrom (Array.mk (List.map (Value.int IntKind.u8) (tabI (kitF O (Array.mk (List.map (Value.int IntKind.u8) (tabI seed 32))) 5) 32))))))
                                (If
                                  (inU (O.pbase (O.ffrom (Array.mk (List.map (Value.int IntKind.u8) (tabI (kitF O (Array.mk (List.map (Value.int IntKind.u8) (tabI seed 32))) 1) 32)))))
                                    18446744073709551616)
                                  (If (O.pright (O.pbase (O.ffrom (Array.mk (List.map (Value.int IntKind.u8) (tabI (kitF O (Array.mk (List.map (Value.int IntKind.u8) (tabI seed 32))) 1) 32))))))
                                    (If (O.isH (Array.mk (List.map (Value.int IntKind.u8) (tabI secret 32))))
                                      (If (inU (perO O (Array.mk (List.map (Value.int IntKind.u8) (tabI secret 32)))) 18446744073709551616)
                                        (If (O.isH (Array.mk (List.map (Value.int IntKind.u8) (tabI secret 32)))) (Value.bool false = Value.bool true) False) False)
                                      False)
                                    (If (O.isH (Array.mk (List.map (Value.int IntKind.u8) (tabI secret 32)))) (Value.bool false = Value.bool true) False))
                                  False)
                                (If (O.isH (Array.mk (List.map (Value.int IntKind.u8) (tabI secret 32)))) (Value.bool false = Value.bool true) False))
                              False)
                            (If (O.isH (Array.mk (List.map (Value.int IntKind.u8) (tabI secret 32)))) (Value.bool false = Value.bool true) False))
                          False)
                        (If (O.isH (Array.mk (List.map (Value.int IntKind.u8) (tabI secret 32)))) (Value.bool false = Value.bool true) False))
                      False)
                    (If (O.isH (Array.mk (List.map (Value.int IntKind.u8) (tabI secret 32)))) (Value.bool false = Value.bool true) False))
                  False)
                (If (O.isH (Array.mk (List.map (Value.int IntKind.u8) (tabI secret 32)))) (Value.bool false = Value.bool true) False))
              False))
          (If (inU (O.ffrom (Array.mk (List.map (Value.int IntKind.u8) (tabI (kitF O (Array.mk (List.map (Value.int IntKind.u8) (tabI seed 32))) 1) 32)))) 18446744073709551616)
            (If
              (iBeq (O.pbase (O.ffrom (Array.mk (List.map (Value.int IntKind.u8) (tabI (kitF O (Array.mk (List.map (Value.int IntKind.u8) (tabI seed 32))) 1) 32)))))
                (O.pbase (O.ffrom (Array.mk (List.map (Value.int IntKind.u8) (tabI (kitF O (Array.mk (List.map (Value.int IntKind.u8) (tabI seed 32))) 1) 32))))))
              (If (inU (O.ffrom (Array.mk (List.map (Value.int IntKind.u8) (tabI (kitF O (Array.mk (List.map (Value.int IntKind.u8) (tabI seed 32))) 2) 32)))) 18446744073709551616)
                (If
                  (iBeq (O.pbase (O.ffrom (Array.mk (List.map (Value.int IntKind.u8) (tabI (kitF O (Array.mk (List.map (Value.int IntKind.u8) (tabI seed 32))) 2) 32)))))
                    (O.pbase (O.ffrom (Array.mk (List.map (Value.int IntKind.u8) (tabI (kitF O (Array.mk (List.map (Value.int IntKind.u8) (tabI seed 32))) 2) 32))))))
                  (If (inU (O.ffrom (Array.mk (List.map (Value.int IntKind.u8) (tabI (kitF O (Array.mk (List.map (Value.int IntKind.u8) (tabI seed 32))) 3) 32)))) 18446744073709551616)
                    (If
                      (iBeq (O.pbase (O.ffrom (Array.mk (List.map (Value.int IntKind.u8) (tabI (kitF O (Array.mk (List.map (Value.int IntKind.u8) (tabI seed 32))) 3) 32)))))
                        (O.pbase (O.ffrom (Array.mk (List.map (Value.int IntKind.u8) (tabI (kitF O (Array.mk (List.map (Value.int IntKind.u8) (tabI seed 32))) 3) 32))))))
                      (If (inU (O.ffrom (Array.mk (List.map (Value.int IntKind.u8) (tabI (kitF O (Array.mk (List.map (Value.int IntKind.u8) (tabI seed 32))) 4) 32)))) 18446744073709551616)
                        (If
                          (iBeq (O.pbase (O.ffrom (Array.mk (List.map (Value.int IntKind.u8) (tabI (kitF O (Array.mk (List.map (Value.int IntKind.u8) (tabI seed 32))) 4) 32)))))
                            (O.pbase (O.ffrom (Array.mk (List.map (Value.int IntKind.u8) (tabI (kitF O (Array.mk (List.map (Value.int IntKind.u8) (tabI seed 32))) 4) 32))))))
                          (If (inU (O.ffrom (Array.mk (List.map (Value.int IntKind.u8) (tabI (kitF O (Array.mk (List.map (Value.int IntKind.u8) (tabI seed 32))) 5) 32)))) 18446744073709551616)
                            (If
                              (iBeq (O.pbase (O.ffrom (Array.mk (List.map (Value.int IntKind.u8) (tabI (kitF O (Array.mk (List.map (Value.int IntKind.u8) (tabI seed 32))) 5) 32)))))
                                (O.pbase (O.ffrom (Array.mk (List.map (Value.int IntKind.u8) (tabI (kitF O (Array.mk (List.map (Value.int IntKind.u8) (tabI seed 32))) 5) 32))))))
                              (If
                                (inU (O.pbase (O.ffrom (Array.mk (List.map (Value.int IntKind.u8) (tabI (kitF O (Array.mk (List.map (Value.int IntKind.u8) (tabI seed 32))) 1) 32)))))
                                  18446744073709551616)
                                (If (O.pright (O.pbase (O.ffrom (Array.mk (List.map (Value.int IntKind.u8) (tabI (kitF O (Array.mk (List.map (Value.int IntKind.u8) (tabI seed 32))) 1) 32))))))
                                  (If (O.isH (Array.mk (List.map (Value.int IntKind.u8) (tabI secret 32))))
                                    (If (inU (perO O (Array.mk (List.map (Value.int IntKind.u8) (tabI secret 32)))) 18446744073709551616)
                                      (If (O.isH (Array.mk (List.map (Value.int IntKind.u8) (tabI secret 32)))) (Value.bool false = Value.bool true) False) False)
                                    False)
                                  (If (O.isH (Array.mk (List.map (Value.int IntKind.u8) (tabI secret 32)))) (Value.bool false = Value.bool true) False))
                                False)
                              (If (O.isH (Array.mk (List.map (Value.int IntKind.u8) (tabI secret 32)))) (Value.bool false = Value.bool true) False))
                            False)
                          (If (O.isH (Array.mk (List.map (Value.int IntKind.u8) (tabI secret 32)))) (Value.bool false = Value.bool true) False))
                        False)
                      (If (O.isH (Array.mk (List.map (Value.int IntKind.u8) (tabI secret 32)))) (Value.bool false = Value.bool true) False))
                    False)
                  (If (O.isH (Array.mk (List.map (Value.int IntKind.u8) (tabI secret 32)))) (Value.bool false = Value.bool true) False))
                False)
              (If (O.isH (Array.mk (List.map (Value.int IntKind.u8) (tabI secret 32)))) (Value.bool false = Value.bool true) False))
            False))
        (If (inU (O.ffrom (Array.mk (List.map (Value.int IntKind.u8) (tabI (kitF O (Array.mk (List.map (Value.int IntKind.u8) (tabI seed 32))) 1) 32)))) 18446744073709551616)
          (If
            (iBeq (O.pbase (O.ffrom (Array.mk (List.map (Value.int IntKind.u8) (tabI (kitF O (Array.mk (List.map (Value.int IntKind.u8) (tabI seed 32))) 1) 32)))))
              (O.pbase (O.ffrom (Array.mk (List.map (Value.int IntKind.u8) (tabI (kitF O (Array.mk (List.map (Value.int IntKind.u8) (tabI seed 32))) 1) 32))))))
            (If (inU (O.ffrom (Array.mk (List.map (Value.int IntKind.u8) (tabI (kitF O (Array.mk (List.map (Value.int IntKind.u8) (tabI seed 32))) 2) 32)))) 18446744073709551616)
              (If
                (iBeq (O.pbase (O.ffrom (Array.mk (List.map (Value.int IntKind.u8) (tabI (kitF O (Array.mk (List.map (Value.int IntKind.u8) (tabI seed 32))) 2) 32)))))
                  (O.pbase (O.ffrom (Array.mk (List.map (Value.int IntKind.u8) (tabI (kitF O (Array.mk (List.map (Value.int IntKind.u8) (tabI seed 32))) 2) 32))))))
                (If (inU (O.ffrom (Array.mk (List.map (Value.int IntKind.u8) (tabI (kitF O (Array.mk (List.map (Value.int IntKind.u8) (tabI seed 32))) 3) 32)))) 18446744073709551616)
                  (If
                    (iBeq (O.pbase (O.ffrom (Array.mk (List.map (Value.int IntKind.u8) (tabI (kitF O (Array.mk (List.map (Value.int IntKind.u8) (tabI seed 32))) 3) 32)))))
                      (O.pbase (O.ffrom (Array.mk (List.map (Value.int IntKind.u8) (tabI (kitF O (Array.mk (List.map (Value.int IntKind.u8) (tabI seed 32))) 3) 32))))))
                    (If (inU (O.ffrom (Array.mk (List.map (Value.int IntKind.u8) (tabI (kitF O (Array.mk (List.map (Value.int IntKind.u8) (tabI seed 32))) 4) 32)))) 18446744073709551616)
                      (If
                        (iBeq (O.pbase (O.ffrom (Array.mk (List.map (Value.int IntKind.u8) (tabI (kitF O (Array.mk (List.map (Value.int IntKind.u8) (tabI seed 32))) 4) 32)))))
                          (O.pbase (O.ffrom (Array.mk (List.map (Value.int IntKind.u8) (tabI (kitF O (Array.mk (List.map (Value.int IntKind.u8) (tabI seed 32))) 4) 32))))))
                        (If (inU (O.ffrom (Array.mk (List.map (Value.int IntKind.u8) (tabI (kitF O (Array.mk (List.map (Value.int IntKind.u8) (tabI seed 32))) 5) 32)))) 18446744073709551616)
                          (If
                            (iBeq (O.pbase (O.ffrom (Array.mk (List.map (Value.int IntKind.u8) (tabI (kitF O (Array.mk (List.map (Value.int IntKind.u8) (tabI seed 32))) 5) 32)))))
                              (O.pbase (O.ffrom (Array.mk (List.map (Value.int IntKind.u8) (tabI (kitF O (Array.mk (List.map (Value.int IntKind.u8) (tabI seed 32))) 5) 32))))))
                            (If
                              (inU (O.pbase (O.ffrom (Array.mk (List.map (Value.int IntKind.u8) (tabI (kitF O (Array.mk (List.map (Value.int IntKind.u8) (tabI seed 32))) 1) 32))))) 18446744073709551616)
                              (If (O.pright (O.pbase (O.ffrom (Array.mk (List.map (Value.int IntKind.u8) (tabI (kitF O (Array.mk (List.map (Value.int IntKind.u8) (tabI seed 32))) 1) 32))))))
                                (If (O.isH (Array.mk (List.map (Value.int IntKind.u8) (tabI secret 32))))
                                  (If (inU (perO O (Array.mk (List.map (Value.int IntKind.u8) (tabI secret 32)))) 18446744073709551616)
                                    (If (O.isH (Array.mk (List.map (Value.int IntKind.u8) (tabI secret 32)))) (Value.bool false = Value.bool true) False) False)
                                  False)
                                (If (O.isH (Array.mk (List.map (Value.int IntKind.u8) (tabI secret 32)))) (Value.bool false = Value.bool true) False))
                              False)
                            (If (O.isH (Array.mk (List.map (Value.int IntKind.u8) (tabI secret 32)))) (Value.bool false = Value.bool true) False))
                          False)
                        (If (O.isH (Array.mk (List.map (Value.int IntKind.u8) (tabI secret 32)))) (Value.bool false = Value.bool true) False))
                      False)
                    (If (O.isH (Array.mk (List.map (Value.int IntKind.u8) (tabI secret 32)))) (Value.bool false = Value.bool true) False))
                  False)
                (If (O.isH (Array.mk (List.map (Value.int IntKind.u8) (tabI secret 32)))) (Value.bool false = Value.bool true) False))
              False)
            (If (O.isH (Array.mk (List.map (Value.int IntKind.u8) (tabI secret 32)))) (Value.bool false = Value.bool true) False))
          False))
      False)
    False := by
  have hAseed : O.isH (Array.mk (List.map (Value.int IntKind.u8) (tabI seed 32))) = true := h_seed
  have hAsecret : O.isH (Array.mk (List.map (Value.int IntKind.u8) (tabI secret 32))) = true := h_secret
  have iP : ∀ m, inU (perO O m) 18446744073709551616 = true := fun _ => F.pbase _
  have pP : ∀ m, O.pright (perO O m) = true := fun _ => G.pb _
  simp only [hAseed, hAsecret, h_a, F.fadd, F.ffrom, F.pbase, iP, pP, ps, ff, m0, r0, G.pb, Bool.and_self, Bool.and_true, Bool.true_and, cond_true, cond_false, If_t, If_f, beq_b, iBeq_self, inU_1, inU_0]
theorem wpc_kyKit (O : OO) (Z : OZ) (Y : OY) (a : Int) (seed secret : Nat → Int) (F : FO O) (G : FZ O Z) (mS : ∀ a p, mixO O Y (O.pbase a) p = O.pbase (msecO O Y a p)) (rS : ∀ a m, revO O Y (O.pbase a) (perO O m) = O.pbase (rsecO O Y a m)) (ps : ∀ a, iLt 0 (O.ffrom a) = true) (ff : ∀ a, O.fright (O.ffrom a) = true) (m0 : ∀ a p, msecO O Y (O.fadd a 0) p = msecO O Y a p) (r0 : ∀ a m, rsecO O Y (O.fadd a 0) m = rsecO O Y a m) (h_a : inU a 18446744073709551616 = true) (h_seed : O.isH (AV seed) = true) (h_secret : O.isH (AV secret) = true) : wpcI Try.prog (spY6 O Z Y) Try.f9.ntmps [] (bodyOf Try.f9) 0 0 (argEnv [.agg (AV seed), .int .u64 a, .agg (AV secret)] 0) [] (retK Try.prog Try.f9.results.toList (.bool true)) :=
  Eq.mpr (by kernel_rfl) (vc_kyKit O Z Y a seed secret F G mS rS ps ff m0 r0 h_a h_seed h_secret)
theorem walk_kyKit (l_seed : List Nat) (hl_seed : l_seed.length = 32) (hb_seed : ∀ i, l_seed.getD i 0 < 256) (a : Nat) (hb_a : a < 18446744073709551616) (l_secret : List Nat) (hl_secret : l_secret.length = 32) (hb_secret : ∀ i, l_secret.getD i 0 < 256) (w : World) : Calls Try.prog 9 #[B8 l_seed, .int .u64 (a : Int), B8 l_secret] w fun e w' => e = .returned (.bool true) ∧ Kp w w' := by
  obtain ⟨seed, e_seed, i_seed⟩ := bcs_AV l_seed hl_seed hb_seed
  obtain ⟨secret, e_secret, i_secret⟩ := bcs_AV l_secret hl_secret hb_secret
  rw [show (B8 l_seed : Value) = .agg (AV seed) from congrArg Value.agg e_seed]
  rw [show (B8 l_secret : Value) = .agg (AV secret) from congrArg Value.agg e_secret]
  exact (calls_realI (I := I0) (spY6_ok I0 oo rfl (zO oo) rfl (yO oo) rfl) (by kernel_rfl) [] (l := [.agg (AV seed), .int .u64 (a : Int), .agg (AV secret)]) Try.func9 (by kernel_rfl) rfl Try.ntmps9 (by simp) (wpc_kyKit oo (zO oo) (yO oo) (a : Int) seed secret (fo_oo oo rfl) fz_oo mS' rS' pos' frF' m0' r0' (inU_of hb_a) (isH_oo i_seed) (isH_oo i_secret)) w).mono fun _ _ ⟨he, hf⟩ => ⟨he, fr_below hf⟩
end Go.Proofs.Ytheihhjlkefhgaa
