/- PayBack: the walk, by the symbolic machine (printed by genpa4.py; VC by VcTool). -/
import Derived.Test.YtheihhjlkefhgaaPa3
namespace Go.Proofs.Ytheihhjlkefhgaa
open Go.RowKit Go.Lib Ckp Cfd Cpd Sx
set_option linter.unusedVariables false
set_option linter.unusedSimpArgs false
set_option maxRecDepth 1000000

def tO (O : OO) (a : Int) : List Int → Int
  | [] => a
  | b :: r => O.fadd (O.fadd 0 (tO O a r)) b
theorem tO_in {O : OO} (F : FO O) {a : Int} (ha : inU a 18446744073709551616 = true) : ∀ l, inU (tO O a l) 18446744073709551616 = true
  | [] => ha
  | b :: l => F.fadd _ _
theorem base_zero {O : OO} (G : FP O) {t : Int} (ht : inU t 18446744073709551616 = true) : O.pbase (O.fadd 0 t) = O.pbase t := by
  rw [G.fv 0 t (by decide) ht, Int.zero_add, G.bm t ht]
theorem back_at {O : OO} (F : FO O) (G : FP O) {a : Int} (ha : inU a 18446744073709551616 = true) : ∀ (l : List Int) (k : Nat), k ≤ l.length → (fromO O (O.pbase a) l).getD k 0 = O.pbase (tO O a (l.drop k))
  | [], k, hk => by
    have : k = 0 := Nat.le_zero.1 hk
    subst this
    rfl
  | b :: l, k, hk => by
    obtain ⟨x, r, e⟩ := fromO_ne O (O.pbase a) l
    have ih := back_at F G ha l
    unfold fromO
    rw [e] at ih ⊢
    cases k with
    | zero =>
      have h0 : x = O.pbase (tO O a l) := ih 0 (Nat.zero_le _)
      show O.padd x (O.pbase b) = O.pbase (O.fadd (O.fadd 0 (tO O a l)) b)
      rw [← G.ba, base_zero G (tO_in F ha l), h0]
    | succ k =>
      exact ih k (Nat.le_of_succ_le_succ hk)
theorem tO_val {O : OO} (F : FO O) (G : FP O) {a : Int} (ha : inU a 18446744073709551616 = true) : ∀ l, inUs 18446744073709551616 l = true → tO O a l % 2305843009213688669 = (a + l.sum) % 2305843009213688669
  | [], _ => by simp [tO]
  | b :: l, h => by
    have hb : inU b 18446744073709551616 = true := List.all_eq_true.1 h b List.mem_cons_self
    have hl : inUs 18446744073709551616 l = true := List.all_eq_true.2 fun x hx => List.all_eq_true.1 h x (List.mem_cons_of_mem _ hx)
    have ih := tO_val F G ha l hl
    show O.fadd (O.fadd 0 (tO O a l)) b % 2305843009213688669 = _
    rw [G.fv _ _ (F.fadd _ _) hb, G.fv 0 _ (by decide) (tO_in F ha l), List.sum_cons]
    omega
theorem sum_val {O : OO} (F : FO O) (G : FP O) : ∀ (l : List Int), inUs 18446744073709551616 l = true → ∀ s, inU s 18446744073709551616 = true → l.foldl O.fadd s % 2305843009213688669 = (s + l.sum) % 2305843009213688669
  | [], _, s, hs => by simp
  | b :: l, h, s, hs => by
    have hb : inU b 18446744073709551616 = true := List.all_eq_true.1 h b List.mem_cons_self
    have hl : inUs 18446744073709551616 l = true := List.all_eq_true.2 fun x hx => List.all_eq_true.1 h x (List.mem_cons_of_mem _ hx)
    rw [List.foldl_cons, sum_val F G l hl _ (F.fadd _ _), G.fv s b hs hb, List.sum_cons]
    omega
theorem proof_back {O : OO} (F : FO O) (G : FP O) {a : Int} (ha : inU a 18446744073709551616 = true) {l : List Int} (hl : inUs 18446744073709551616 l = true) : O.fsub (tO O a l) (sumO O l) = a % 2305843009213688669 := by
  rw [G.sv _ _ (tO_in F ha l) (sum_in F l)]
  have h1 := tO_val F G ha l hl
  have h2 : sumO O l % 2305843009213688669 = (0 + l.sum) % 2305843009213688669 := sum_val F G l hl 0 (by decide)
  omega
theorem tmod_in {a : Int} (ha : inU a 18446744073709551616 = true) (n : Int) : a.tmod n = a % n := by
  rw [inU_t] at ha
  exact Int.tmod_eq_emod_of_nonneg ha.1
theorem spec_genAI {I : Sx.Interp} {P : Program} {sp : FuncId → Option Sx.Spec} (hsp : ∀ f s, sp f = some s → Sx.SpecOK I P f s) (hm : P.follows .mixedOrders = true) (an : List Sx.Arg → List Ann) {f : FuncId} {fn : Func} {c : Code} {N : Nat}
    (hf : P.funcs[f]? = some fn) (hname : (fn.name == "runtime.NumGoroutine") = false) (hb' : fn.body.isSome = true) (hc : bodyOf fn = c) (hN : fn.ntmps = N) {ks : List AK} {g : List Sx.Arg → Option (Bool × List Ret)} (hks : ks.length ≤ N ∧ ks.length ≤ 64) (hrs : ∀ ar p rs, g ar = some (p, rs) → rs.length ≤ 8)
    (h : ∀ ar rs, ar.length = ks.length → g ar = some (true, rs) → wpcI P sp N (an ar) c 0 64 (envA ks ar 0) (memA ks ar 0) (retG P fn.results.toList rs)) : Sx.SpecOK I P f (gspec ks g) := spec_genA hsp hm an hf hname hb' hc hN hks hrs fun ar rs hl hg => wpcI_of (h ar rs hl hg)
def g_paBack (O : OO) (Z : OZ) (Y : OY) (xs : List Sx.Arg) : Option (Bool × List Ret) := match xs with
  | [.v (.int .u64 a), .ints l] => some ((inU a 18446744073709551616) && (inUs 18446744073709551616 l) && (Nat.ble l.length 9223372036854775807), [.v (.bool true)])
  | _ => none
set_option maxHeartbeats 4000000 in
theorem vc_paBack (O : OO) (Z : OZ) (Y : OY) (a : Int) (l : List Int) (F : FO O) (G : FP O) (h_a : inU a 18446744073709551616 = true) (h_l : inUs 18446744073709551616 l = true) (g_l : Nat.ble l.length 9223372036854775807 = true) :
  If (iLt 7 (iOf (Cont.ints IntKind.u64 l).n)) (Value.bool true = Value.bool true ∧ True)
    (If (inU a 18446744073709551616 && inUs 18446744073709551616 l && l.length.ble 1000)
      (If (frB O (O.pbase a) (iOf l.length))
        (If (iBne (iOf 0) (IntKind.i64.wrap (iAdd (iOf l.length) 1))) (Value.bool false = Value.bool true ∧ True)
          ((∃ (x : Nat),
              x ≤ nAdd l.length 1 ∧
                (Value.int IntKind.u64 a = Value.int IntKind.u64 (tO O a (List.drop (nSub l.length x) l)) ∧
                    Value.int IntKind.i64 (iOf l.length) = Value.int IntKind.i64 (iSub (iOf l.length) (iOf x)) ∧
                      Value.int IntKind.u64 a = Value.int IntKind.u64 a ∧ Value.bool true = Value.bool true ∧ True) ∧
                  EqI l l ∧ True) ∧
            ∀ (x : Nat),
              x ≤ nAdd l.length 1 →
                If (iLe 0 (iSub (iOf l.length) (iOf x))) (If (inU (tO O a (List.drop (nSub l.length x) l)) 18446744073709551616) False False)
                  (If (inU (tO O a (List.drop (nSub l.length x) l)) 18446744073709551616 && inUs 18446744073709551616 l && l.length.ble 1000)
                    (If (iBeq (O.fsub (tO O a (List.drop (nSub l.length x) l)) (sumO O l)) (a.tmod 2305843009213688669)) False (Value.bool false = Value.bool true ∧ True)) False)))
        (If (iBne (iOf (fromO O (O.pbase a) l).length) (IntKind.i64.wrap (iAdd (iOf l.length) 1))) (Value.bool false = Value.bool true ∧ True)
          ((∃ (x : Nat),
              x ≤ nAdd l.length 1 ∧
                (Value.int IntKind.u64 a = Value.int IntKind.u64 (tO O a (List.drop (nSub l.length x) l)) ∧
                    Value.int IntKind.i64 (iOf l.length) = Value.int IntKind.i64 (iSub (iOf l.length) (iOf x)) ∧
                      Value.int IntKind.u64 a = Value.int IntKind.u64 a ∧ Value.bool true = Value.bool true ∧ True) ∧
                  EqI (fromO O (O.pbase a) l) (fromO O (O.pbase a) l) ∧ EqI l l ∧ True) ∧
            ∀ (x : Nat),
              x ≤ nAdd l.length 1 →
                If (iLe 0 (iSub (iOf l.length) (iOf x)))
                  (If (inU (tO O a (List.drop (nSub l.length x) l)) 18446744073709551616)
                    (If (iLe 0 (iSub (iOf l.length) (iOf x)) && (iSub (iOf l.length) (iOf x)).toNat.blt (fromO O (O.pbase a) l).length)
                      (If (true && Nat.beq 1 1 && (iSub (iOf l.length) (iOf x)).toNat.blt (fromO O (O.pbase a) l).length)
                        (If (iBne (O.pbase (tO O a (List.drop (nSub l.length x) l))) ((fromO O (O.pbase a) l).getD (iSub (iOf l.length) (iOf x)).toNat 0)) (Value.bool false = Value.bool true ∧ True)
                          (If (iLe 0 (iSub (iOf l.length) (iOf x)) && (iSub (iOf l.length) (iOf x)).toNat.blt (fromO O (O.pbase a) l).length)
                            (If (true && Nat.beq 1 1 && (iSub (iOf l.length) (iOf x)).toNat.blt (fromO O (O.pbase a) l).length)
                              (If (inU ((fromO O (O.pbase a) l).getD (iSub (iOf l.length) (iOf x)).toNat 0) 18446744073709551616 && inU (tO O a (List.drop (nSub l.length x) l)) 18446744073709551616)
                                (If
                                  (!bif O.pright ((fromO O (O.pbase a) l).getD (iSub (iOf l.length) (iOf x)).toNat 0) then
                                      iBeq (O.pbase (tO O a (List.drop (nSub l.length x) l))) ((fromO O (O.pbase a) l).getD (iSub (iOf l.length) (iOf x)).toNat 0)
                                    else false)
                                  (Value.bool false = Value.bool true ∧ True)
                                  (If (iLt 0 (iSub (iOf l.length) (iOf x)))
                                    (If (iLe 0 (IntKind.i64.wrap (iSub (iSub (iOf l.length) (iOf x)) 1)) && (IntKind.i64.wrap (iSub (iSub (iOf l.length) (iOf x)) 1)).toNat.blt l.length)
                                      (If (true && Nat.beq 1 1 && (IntKind.i64.wrap (iSub (iSub (iOf l.length) (iOf x)) 1)).toNat.blt l.length)
                                        (If
                                          (inU (tO O a (List.drop (nSub l.length x) l)) 18446744073709551616 &&
                                            inU (l.getD (IntKind.i64.wrap (iSub (iSub (iOf l.length) (iOf x)) 1)).toNat 0) 18446744073709551616)
                                          (∃ (x' : Nat),
                                            x' ≤ nAdd l.length 1 ∧
                                              (nSub (nAdd l.length 1) x').succ ≤ nSub (nAdd l.length 1) x ∧
                                                (Value.int IntKind.u64
                                                        (O.fadd (O.fadd 0 (tO O a (List.drop (nSub l.length x) l))) (l.getD (IntKind.i64.wrap (iSub (iSub (iOf l.length) (iOf x)) 1)).toNat 0)) =
                                                      Value.int IntKind.u64 (tO O a (List.drop (nSub l.length x') l)) ∧
                                                    Value.int IntKind.i64 (IntKind.i64.wrap (iSub (iSub (iOf l.length) (iOf x)) 1)) = Value.int IntKind.i64 (iSub (iOf l.length) (iOf x')) ∧
                                                      Value.int IntKind.u64 a = Value.int IntKind.u64 a ∧ Value.bool true = Value.bool true ∧ True) ∧
                                                  EqI (fromO O (O.pbase a) l) (fromO O (O.pbase a) l) ∧ EqI l l ∧ True)
                                          False)
                                        False)
                                      False)
                                    (∃ (x' : Nat),
                                      x' ≤ nAdd l.length 1 ∧
                                        (nSub (nAdd l.length 1) x').succ ≤ nSub (nAdd l.length 1) x ∧
                                          (Value.int IntKind.u64 (tO O a (List.drop (nSub l.length x) l)) = Value.int IntKind.u64 (tO O a (List.drop (nSub l.length x') l)) ∧
                                              Value.int IntKind.i64 (IntKind.i64.wrap (iSub (iSub (iOf l.length) (iOf x)) 1)) = Value.int IntKind.i64 (iSub (iOf l.length) (iOf x')) ∧
                                                Value.int IntKind.u64 a = Value.int IntKind.u64 a ∧ Value.bool true = Value.bool true ∧ True) ∧
                                            EqI (fromO O (O.pbase a) l) (fromO O (O.pbase a) l) ∧ EqI l l ∧ True)))
                                False)
                              False)
                            False))
                        False)
                      False)
                    False)
                  (If (inU (tO O a (List.drop (nSub l.length x) l)) 18446744073709551616 && inUs 18446744073709551616 l && l.length.ble 1000)
                    (If (iBeq (O.fsub (tO O a (List.drop (nSub l.length x) l)) (sumO O l)) (a.tmod 2305843009213688669))
                      (If (iLe 0 (iOf (Cont.ints IntKind.u64 l).n) && (iOf l.length).toNat.blt (fromO O (O.pbase a) l).length)
                        (If (true && Nat.beq 1 1 && (iOf l.length).toNat.blt (fromO O (O.pbase a) l).length)
                          (If (inU (tO O a (List.drop (nSub l.length x) l)) 18446744073709551616 && inUs 18446744073709551616 l && l.length.ble 1000)
                            (If (inU ((fromO O (O.pbase a) l).getD (iOf l.length).toNat 0) 18446744073709551616 && inU (O.fsub (tO O a (List.drop (nSub l.length x) l)) (sumO O l)) 18446744073709551616)
                              (Value.bool
                                    (bif O.pright ((fromO O (O.pbase a) l).getD (iOf l.length).toNat 0) then
                                      iBeq (O.pbase (O.fsub (tO O a (List.drop (nSub l.length x) l)) (sumO O l))) ((fromO O (O.pbase a) l).getD (iOf l.length).toNat 0)
                                    else false) =
                                  Value.bool true ∧
                                True)
                              False)
                            False)
                          False)
                        False)
                      (Value.bool false = Value.bool true ∧ True))
                    False))))
      False) := by
  simp only [Sx.app, Sx.nAdd, Sx.nSub, Sx.nMul, Sx.nPow, Sx.nDiv, Sx.nMod, Sx.iAdd, Sx.iSub, Sx.iMul, Sx.iNeg, Sx.iPow, Sx.iOf, Sx.Cont.n]
  refine Sx.if_both (fun h => (by first | rfl | trivial)) (fun h => ?_)
  simp only [Bool.and_eq_true, Bool.or_eq_true, Sx.iLt_t, Sx.iLt_f, Sx.iLe_t, Sx.iLe_f, Sx.iEq_t, Sx.iEq_f, Sx.iBeq_t, Sx.iBeq_f, Sx.iBne_t, Sx.iBne_f, Nat.ble_eq, Nat.beq_eq, Sx.Cont.n] at h
  have h7 : l.length ≤ 7 := by omega
  have e0 : IntKind.i64.wrap ((l.length : Int) + 1) = ((l.length + 1 : Nat) : Int) := wrap_succ (by omega)
  have hbl : l.length.ble 1000 = true := by rw [Nat.ble_eq]; omega
  refine Sx.if_true (by rw [h_a, h_l, hbl]; rfl) (Sx.if_false (frB_of (G.pb a) (by omega)) (Sx.if_false (by rw [e0, fromO_len, Sx.iBne_f]) ?_))
  have bt := back_at F G h_a l
  have ti := tO_in F h_a
  refine ⟨⟨0, Nat.zero_le _, ⟨by rw [Nat.sub_zero, List.drop_length]; rfl, by simp, (by first | rfl | trivial)⟩, (by first | rfl | trivial)⟩, fun x hx => Sx.if_both (fun h1 => ?_) (fun h1 => ?_)⟩
  · simp only [Bool.and_eq_true, Bool.or_eq_true, Sx.iLt_t, Sx.iLt_f, Sx.iLe_t, Sx.iLe_f, Sx.iEq_t, Sx.iEq_f, Sx.iBeq_t, Sx.iBeq_f, Sx.iBne_t, Sx.iBne_f, Nat.ble_eq, Nat.beq_eq, Sx.Cont.n] at h1
    have hx' : x ≤ l.length := by omega
    have ei : ((l.length : Int) - x).toNat = l.length - x := by omega
    have c1 : iLe 0 ((l.length : Int) - x) = true := by simp only [Bool.and_eq_true, Bool.or_eq_true, Sx.iLt_t, Sx.iLt_f, Sx.iLe_t, Sx.iLe_f, Sx.iEq_t, Sx.iEq_f, Sx.iBeq_t, Sx.iBeq_f, Sx.iBne_t, Sx.iBne_f, Nat.ble_eq, Nat.beq_eq, Sx.Cont.n]; omega
    have hlt : (l.length - x).blt (fromO O (O.pbase a) l).length = true := by rw [Nat.blt_eq, fromO_len]; omega
    simp only [ei, bt (l.length - x) (by omega), hlt, c1]
    refine Sx.if_true (ti _) (Sx.if_true rfl (Sx.if_true rfl (Sx.if_false (by rw [Sx.iBne_f]) (Sx.if_true rfl (Sx.if_true rfl (Sx.if_true (by rw [F.pbase, ti]; rfl) (Sx.if_false (by rw [G.pb, show ∀ z : Int, iBeq z z = true by intro z; rw [Sx.iBeq_t]]; rfl) (Sx.if_both (fun h2 => ?_) (fun h2 => ?_)))))))))
    · simp only [Bool.and_eq_true, Bool.or_eq_true, Sx.iLt_t, Sx.iLt_f, Sx.iLe_t, Sx.iLe_f, Sx.iEq_t, Sx.iEq_f, Sx.iBeq_t, Sx.iBeq_f, Sx.iBne_t, Sx.iBne_f, Nat.ble_eq, Nat.beq_eq, Sx.Cont.n] at h2
      obtain ⟨k, hk⟩ : ∃ k, l.length - x = k + 1 := ⟨l.length - x - 1, by omega⟩
      have e2 : IntKind.i64.wrap ((l.length : Int) - x - 1) = (k : Int) := by rw [IntWalk.i64_in _ (by omega)]; omega
      have hkl : k < l.length := by omega
      have hkb : k.blt l.length = true := by rw [Nat.blt_eq]; exact hkl
      simp only [e2, Int.toNat_natCast, hkb, hk]
      refine Sx.if_true (by simp only [Bool.and_eq_true, Bool.or_eq_true, Sx.iLt_t, Sx.iLt_f, Sx.iLe_t, Sx.iLe_f, Sx.iEq_t, Sx.iEq_f, Sx.iBeq_t, Sx.iBeq_f, Sx.iBne_t, Sx.iBne_f, Nat.ble_eq, Nat.beq_eq, Sx.Cont.n, and_true]; omega) (Sx.if_true rfl (Sx.if_true (by rw [ti, inUs_at h_l hkl]; rfl) ⟨x + 1, by omega, by omega, ⟨?_, by rw [show (k : Int) = (l.length : Int) - ((x + 1 : Nat) : Int) by omega], (by first | rfl | trivial)⟩, (by first | rfl | trivial)⟩))
      rw [show l.length - (x + 1) = k by omega, List.drop_eq_getElem_cons hkl, List.getD_eq_getElem?_getD, List.getElem?_eq_getElem hkl]
      rfl
    · simp only [Bool.and_eq_true, Bool.or_eq_true, Sx.iLt_t, Sx.iLt_f, Sx.iLe_t, Sx.iLe_f, Sx.iEq_t, Sx.iEq_f, Sx.iBeq_t, Sx.iBeq_f, Sx.iBne_t, Sx.iBne_f, Nat.ble_eq, Nat.beq_eq, Sx.Cont.n] at h2
      have e2 : IntKind.i64.wrap ((l.length : Int) - x - 1) = (l.length : Int) - ((x + 1 : Nat) : Int) := by rw [IntWalk.i64_in _ (by omega)]; omega
      exact ⟨x + 1, by omega, by omega, ⟨by rw [show l.length - (x + 1) = l.length - x by omega], by rw [e2], (by first | rfl | trivial)⟩, (by first | rfl | trivial)⟩
  · simp only [Bool.and_eq_true, Bool.or_eq_true, Sx.iLt_t, Sx.iLt_f, Sx.iLe_t, Sx.iLe_f, Sx.iEq_t, Sx.iEq_f, Sx.iBeq_t, Sx.iBeq_f, Sx.iBne_t, Sx.iBne_f, Nat.ble_eq, Nat.beq_eq, Sx.Cont.n] at h1
    have hx2 : x = l.length + 1 := by omega
    subst hx2
    have hlt : l.length.blt (fromO O (O.pbase a) l).length = true := by rw [Nat.blt_eq, fromO_len]; omega
    have b1 := bt l.length (Nat.le_refl _)
    rw [List.drop_length] at b1
    have b2 : (fromO O (O.pbase a) l).getD l.length 0 = O.pbase a := b1
    simp only [show l.length - (l.length + 1) = 0 by omega, List.drop_zero, Int.toNat_natCast, hlt, proof_back F G h_a h_l, tmod_in h_a, b2, G.bm a h_a]
    refine Sx.if_true (by rw [ti, h_l, hbl]; rfl) (Sx.if_true (by rw [Sx.iBeq_t]) (Sx.if_true (by simp only [Bool.and_eq_true, Bool.or_eq_true, Sx.iLt_t, Sx.iLt_f, Sx.iLe_t, Sx.iLe_f, Sx.iEq_t, Sx.iEq_f, Sx.iBeq_t, Sx.iBeq_f, Sx.iBne_t, Sx.iBne_f, Nat.ble_eq, Nat.beq_eq, Sx.Cont.n, and_true]; omega) (Sx.if_true rfl (Sx.if_true (by rw [ti, h_l, hbl]; rfl) (Sx.if_true ?_ ⟨?_, trivial⟩)))))
    · have := h_a
      rw [inU_t] at this
      rw [F.pbase, show inU (a % 2305843009213688669) 18446744073709551616 = true by rw [inU_t]; omega]
      rfl
    · rw [G.pb, show iBeq (O.pbase a) (O.pbase a) = true by rw [Sx.iBeq_t]]
      rfl
theorem wpc_paBack (O : OO) (Z : OZ) (Y : OY) (a : Int) (l : List Int) (F : FO O) (G : FP O) (h_a : inU a 18446744073709551616 = true) (h_l : inUs 18446744073709551616 l = true) (g_l : Nat.ble l.length 9223372036854775807 = true) : wpcI Try.prog (spP3 O Z Y) Try.f4.ntmps [⟨Nat, [0, 1, 5, 6], [], fun B j => [(7, .v (.int .u64 (tO O a (l.drop (l.length - j))))), (8, .v (.int .i64 ((l.length : Int) - (j : Int))))], fun B j => [], fun j => j ≤ l.length + 1, fun j => l.length + 1 - j, 0⟩] (bodyOf Try.f4) 0 64 (envA [.v, .ro .u64] [.v (.int .u64 a), .ints l] 0) (memA [.v, .ro .u64] [.v (.int .u64 a), .ints l] 0) (retG Try.prog Try.f4.results.toList [.v (.bool true)]) :=
  Eq.mpr (by kernel_rfl) (vc_paBack O Z Y a l F G h_a h_l g_l)
theorem ok_paBack : Sx.SpecOK I0 Try.prog 4 (gspec [.v, .ro .u64] (g_paBack oo (zO oo) (yO oo))) := by
  refine spec_genAI (spP3_ok I0 oo rfl (zO oo) rfl (yO oo) rfl) (by kernel_rfl) (fun xs => match xs with | [.v (.int .u64 a), .ints l] => [⟨Nat, [0, 1, 5, 6], [], fun B j => [(7, .v (.int .u64 (tO oo a (l.drop (l.length - j))))), (8, .v (.int .i64 ((l.length : Int) - (j : Int))))], fun B j => [], fun j => j ≤ l.length + 1, fun j => l.length + 1 - j, 0⟩] | _ => []) Try.func4 (by kernel_rfl) (by kernel_rfl) rfl Try.ntmps4 (by decide) ?_ ?_
  · intro xs p rs h; unfold g_paBack at h; split at h <;> first | (simp only [Option.some.injEq, Prod.mk.injEq] at h; rw [← h.2]; simp) | cases h
  · intro xs rs hl h
    unfold g_paBack at h
    split at h
    · rename_i a l
      simp only [Option.some.injEq, Prod.mk.injEq, Bool.and_eq_true] at h
      obtain ⟨⟨⟨h_a, h_l⟩, g_l⟩, rfl⟩ := h
      exact wpc_paBack oo (zO oo) (yO oo) a l (fo_oo oo rfl) fp_oo h_a h_l g_l
    · cases h
theorem walk_paBack (w : World) (a : Nat) (hb_a : a < 18446744073709551616) (a_l : Option Addr) (len_l cap_l : Nat) (z_l : List Int) (hr_l : IsRow .u64 w a_l len_l cap_l z_l) (hs_l : ∀ x, a_l = some x → x.spot = none ∧ x.block < w.heap.size) : Calls Try.prog 4 #[.int .u64 (a : Int), .slice a_l len_l cap_l] w fun e w' => e = .returned (.bool true) ∧ Kp w w' := by
  have hg : g_paBack oo (zO oo) (yO oo) [.v (.int .u64 (a : Int)), .ints (z_l.take len_l)] = some (true, [.v (.bool true)]) := by
    unfold g_paBack
    simp only [Option.some.injEq, Prod.mk.injEq, Bool.and_eq_true, and_true]
    exact ⟨⟨inU_of hb_a, isRow_in hr_l⟩, (by rw [(isRow_len hr_l).1]; exact (isRow_len hr_l).2)⟩
  exact (calls_ro ok_paBack (.slice a_l len_l cap_l) _ (xs := [.v (.int .u64 (a : Int)), .row 0]) (isRow_reads hr_l hs_l) (fun b hb => by obtain ⟨x, hx, rfl⟩ := hb; exact (hs_l x hx).2) rfl rfl rfl hg).mono fun _ _ ⟨he, hf⟩ => ⟨he, fr_below hf⟩
end Go.Proofs.Ytheihhjlkefhgaa
