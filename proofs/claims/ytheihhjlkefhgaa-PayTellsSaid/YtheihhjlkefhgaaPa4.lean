/- PayTells: the walk, by the symbolic machine (printed by genpa4.py; VC by VcTool). -/
import Derived.Test.YtheihhjlkefhgaaPa3
namespace Go.Proofs.Ytheihhjlkefhgaa
open Go.RowKit Go.Lib Ckp Cfd Cpd Sx
set_option linter.unusedVariables false
set_option linter.unusedSimpArgs false
set_option maxRecDepth 1000000

/-- A contract with results of two shapes, where the test is known. -/
def fixS (s : Sx.Spec) (t : Bool) : Sx.Spec where
  rd := s.rd
  fits args M := s.fits args M && (match s.sel args M with
    | [b] => bif t then b else !b
    | _ => false)
  sel _ _ := []
  outs args M _ b := s.outs args M [t] b
  loc args M M' hf h := by
    rw [Bool.and_eq_true] at hf
    obtain ⟨h1, h2, h3, h4⟩ := s.loc args M M' hf.1 h
    exact ⟨h1, by rw [h2, h3], rfl, fun _ b => h4 _ b⟩
theorem fix_ok {I : Sx.Interp} {P : Program} {f : FuncId} {s : Sx.Spec} (h : Sx.SpecOK I P f s) (t : Bool) : Sx.SpecOK I P f (fixS s t) := by
  refine ⟨h.enters, fun γ D M args w b hM hD hids hfr hfit => ?_⟩
  have hfit' : (s.fits args M && (match s.sel args M with
    | [b] => bif t then b else !b
    | _ => false)) = true := hfit
  rw [Bool.and_eq_true] at hfit'
  obtain ⟨h1, h2⟩ := hfit'
  have hs : s.sel args M = [t] := by
    split at h2
    · rename_i b e
      rw [e]
      cases t <;> cases b <;> first | rfl | cases h2
    · cases h2
  have ho : (fixS s t).out args M b = s.out args M b := by
    show s.outs args M [t] b = s.outs args M (s.sel args M) b
    rw [hs]
  rw [ho]
  exact h.calls γ D M args w b hM hD hids hfr h1
def spPT (t1 t2 t3 t4 : Bool) (O : OO) (Z : OZ) (Y : OY) (f : FuncId) : Option Sx.Spec := match f with
  | 14 => some (fixS (pspec [.v, .v, .v] false (g_pnew O Y)) t1)
  | 15 => some (fixS (pspec [.v, .v, .v] false (g_rnew O Y)) t1)
  | 18 => some (fixS (pspec [.v, .ro .u64] false (g_plocks O Y)) t2)
  | 19 => some (fixS (pspec [.v, .ro .u64] false (g_rlocks O Y)) t2)
  | 20 => some (fixS (pspec [.v, .ro .u64] false (g_pfrom O Y)) t3)
  | 21 => some (fixS (pspec [.v, .ro .u64] false (g_rfrom O Y)) t3)
  | 26 => some (fixS (pspec [.v, .v] false (g_pparts O Y)) t4)
  | 27 => some (fixS (pspec [.v, .v] false (g_rparts O Y)) t4)
  | f => spP3 O Z Y f
theorem spPT_ok (I : Sx.Interp) (t1 t2 t3 t4 : Bool) (O : OO) (hO : O = oo) (Z : OZ) (hZ : Z = zO O) (Y : OY) (hY : Y = yO O) : ∀ f s, spPT t1 t2 t3 t4 O Z Y f = some s → Sx.SpecOK I Try.prog f s := by
  intro f s h
  unfold spPT at h
  split at h
  · cases h; exact fix_ok (ok_pnew I O hO Y hY) _
  · cases h; exact fix_ok (ok_rnew I O hO Y hY) _
  · cases h; exact fix_ok (ok_plocks I O hO Y hY) _
  · cases h; exact fix_ok (ok_rlocks I O hO Y hY) _
  · cases h; exact fix_ok (ok_pfrom I O hO Y hY) _
  · cases h; exact fix_ok (ok_rfrom I O hO Y hY) _
  · cases h; exact fix_ok (ok_pparts I O hO Y hY) _
  · cases h; exact fix_ok (ok_rparts I O hO Y hY) _
  · exact spP3_ok I O hO Z hZ Y hY _ s h
theorem spec_genAI {I : Sx.Interp} {P : Program} {sp : FuncId → Option Sx.Spec} (hsp : ∀ f s, sp f = some s → Sx.SpecOK I P f s) (hm : P.follows .mixedOrders = true) (an : List Sx.Arg → List Ann) {f : FuncId} {fn : Func} {c : Code} {N : Nat}
    (hf : P.funcs[f]? = some fn) (hname : (fn.name == "runtime.NumGoroutine") = false) (hb' : fn.body.isSome = true) (hc : bodyOf fn = c) (hN : fn.ntmps = N) {ks : List AK} {g : List Sx.Arg → Option (Bool × List Ret)} (hks : ks.length ≤ N ∧ ks.length ≤ 64) (hrs : ∀ ar p rs, g ar = some (p, rs) → rs.length ≤ 8)
    (h : ∀ ar rs, ar.length = ks.length → g ar = some (true, rs) → wpcI P sp N (an ar) c 0 64 (envA ks ar 0) (memA ks ar 0) (retG P fn.results.toList rs)) : Sx.SpecOK I P f (gspec ks g) := spec_genA hsp hm an hf hname hb' hc hN hks hrs fun ar rs hl hg => wpcI_of (h ar rs hl hg)
theorem pc' (q a b : Int) : oo.padd (oo.padd q (oo.pbase a)) (oo.pbase b) = oo.padd (oo.padd q (oo.pbase b)) (oo.pbase a) := by
  rw [o_padd, o_padd, o_padd, o_padd, o_pbase, o_pbase]
  rw [Int.toNat_natCast, Int.toNat_natCast, Int.toNat_natCast, Int.toNat_natCast, add_assoc, add_assoc, add_comm (pbase b.toNat)]
theorem inU_wrap (x : Int) : inU (IntKind.u64.wrap x) 18446744073709551616 = true := by
  rw [inU_t, IntKind.wrap_u64]; omega
theorem step_last {O : OO} (pc : ∀ q a b, O.padd (O.padd q (O.pbase a)) (O.pbase b) = O.padd (O.padd q (O.pbase b)) (O.pbase a)) : ∀ (l : List Int) (q b : Int), l.foldl (stepR O) (O.padd q (O.pbase b)) = O.padd (l.foldl (stepR O) q) (O.pbase b)
  | [], q, b => rfl
  | x :: l, q, b => by
    rw [List.foldl_cons, List.foldl_cons]
    show l.foldl (stepR O) (O.padd (O.padd q (O.pbase b)) (O.pbase x)) = O.padd (l.foldl (stepR O) (O.padd q (O.pbase x))) (O.pbase b)
    rw [pc, step_last pc l]
theorem from_ref {O : OO} (pc : ∀ q a b, O.padd (O.padd q (O.pbase a)) (O.pbase b) = O.padd (O.padd q (O.pbase b)) (O.pbase a)) (q : Int) : ∀ (l : List Int), rfromO O q l (l.length + 1) = fromO O q l
  | [] => rfl
  | b :: l => by
    have ih := from_ref pc q l
    have e : ∀ (l : List Int), rfromO O q l (l.length + 1) = l.foldl (stepR O) q :: ((List.range l.length).map fun i => (l.drop (i + 1)).foldl (stepR O) q) := fun l => by
      unfold rfromO
      rw [List.range_succ_eq_map, List.map_cons, List.map_map]
      rfl
    have e2 : rfromO O q (b :: l) ((b :: l).length + 1) = (b :: l).foldl (stepR O) q :: rfromO O q l (l.length + 1) := by
      rw [e (b :: l)]
      rfl
    rw [e2, List.foldl_cons]
    show l.foldl (stepR O) (O.padd q (O.pbase b)) :: _ = _
    rw [step_last pc]
    unfold fromO
    rw [← ih, e l]
    rfl
def g_paTells_0 (O : OO) (Z : OZ) (Y : OY) (xs : List Sx.Arg) : Option (Bool × List Ret) := match xs with
  | [.v (.int .u64 a), .ints l, .v (.int .u64 q), .v (.agg m), .v (.int .i64 n)] => some ((inU a 18446744073709551616) && (inUs 18446744073709551616 l) && (Nat.ble l.length 9223372036854775807) && (inU q 18446744073709551616) && (O.isH m) && (newB O q n) && (frB O (O.pbase a) l.length) && (frB O q l.length) && (prtB n), [.v (.bool true)])
  | _ => none
set_option maxHeartbeats 4000000 in
theorem vc_paTells_0 (O : OO) (Z : OZ) (Y : OY) (a q n : Int) (l : List Int) (m : Nat → Int) (F : FO O) (G : FP O) (pc : ∀ q a b, O.padd (O.padd q (O.pbase a)) (O.pbase b) = O.padd (O.padd q (O.pbase b)) (O.pbase a)) (h_a : inU a 18446744073709551616 = true) (h_l : inUs 18446744073709551616 l = true) (g_l : Nat.ble l.length 9223372036854775807 = true) (h_q : inU q 18446744073709551616 = true) (h_m : O.isH (AV m) = true) (c0 : newB O q n = true) (c1 : frB O (O.pbase a) l.length = true) (c2 : frB O q l.length = true) (c3 : prtB n = true) :
  If (iLt 20 (iOf (Cont.ints IntKind.u64 l).n)) (Value.bool true = Value.bool true ∧ True)
    (If (inU q 18446744073709551616 && O.isH (Array.mk (List.map (Value.int IntKind.u8) (tabI m 32))) && newB O q n)
      (If (inU q 18446744073709551616 && O.isH (Array.mk (List.map (Value.int IntKind.u8) (tabI m 32))) && newB O q n)
        (If (inU a 18446744073709551616 && inUs 18446744073709551616 l && l.length.ble 1000 && frB O (O.pbase a) (iOf l.length))
          (If (inU a 18446744073709551616 && inUs 18446744073709551616 l && l.length.ble 1000 && frB O (O.pbase a) (iOf l.length))
            (If (inU q 18446744073709551616 && inUs 18446744073709551616 l && l.length.ble 1000 && frB O q (iOf l.length))
              (If (inU q 18446744073709551616 && inUs 18446744073709551616 l && l.length.ble 1000 && frB O q (iOf l.length))
                (If (inU a 18446744073709551616 && inUs 18446744073709551616 l && l.length.ble 1000)
                  (If (inU a 18446744073709551616 && inUs 18446744073709551616 l && l.length.ble 1000)
                    (If (iBeq (O.fsub a (sumO O l)) (O.fsub a (sumO O l)))
                      (If (inU q 18446744073709551616 && inU a 18446744073709551616)
                        (If (inU q 18446744073709551616 && inU a 18446744073709551616)
                          (If ((bif O.pright q then iBeq (O.pbase a) q else false) == iBeq (O.pbase a) q)
                            (If (inU a 18446744073709551616 && prtB n)
                              (If (inU a 18446744073709551616 && prtB n)
                                (If (inUs 18446744073709551616 l && l.length.ble 1000)
                                  (If (inUs 18446744073709551616 l && l.length.ble 1000)
                                    (If (iBeq (sumO O l) (sumO O l))
                                      (If (inU a 18446744073709551616 && inU (IntKind.u64.wrap (m 0)) 18446744073709551616)
                                        (If (inU a 18446744073709551616 && inU (IntKind.u64.wrap (m 0)) 18446744073709551616)
                                          (Value.bool (iBeq (O.fadd (O.fadd 0 a) (IntKind.u64.wrap (m 0))) (O.fadd a (IntKind.u64.wrap (m 0)))) = Value.bool true ∧ True) False)
                                        False)
                                      (Value.bool false = Value.bool true ∧ True))
                                    False)
                                  False)
                                False)
                              False)
                            (Value.bool false = Value.bool true ∧ True))
                          False)
                        False)
                      (Value.bool false = Value.bool true ∧ True))
                    False)
                  False)
                False)
              False)
            False)
          False)
        False)
      False) := by
  have hAm : O.isH (Array.mk (List.map (Value.int IntKind.u8) (tabI m 32))) = true := h_m
  have hw : inU (IntKind.u64.wrap (m 0)) 18446744073709551616 = true := inU_wrap _
  have eA : Array.mk (List.map (Value.int IntKind.u8) (tabI m 32)) = AV m := rfl
  simp only [Sx.app, Sx.nAdd, Sx.nSub, Sx.nMul, Sx.nPow, Sx.nDiv, Sx.nMod, Sx.iAdd, Sx.iSub, Sx.iMul, Sx.iNeg, Sx.iPow, Sx.iOf, Sx.Cont.n, eA]
  refine Sx.if_both (fun h => (by first | rfl | trivial)) (fun h => ?_)
  simp only [Bool.and_eq_true, Bool.or_eq_true, Sx.iLt_t, Sx.iLt_f, Sx.iLe_t, Sx.iLe_f, Sx.iEq_t, Sx.iEq_f, Sx.iBeq_t, Sx.iBeq_f, Sx.iBne_t, Sx.iBne_f, Nat.ble_eq, Nat.beq_eq, Sx.Cont.n] at h
  have hbl : l.length.ble 1000 = true := by rw [Nat.ble_eq]; omega
  have hb1 : (l.length + 1).ble 1000 = true := by rw [Nat.ble_eq]; omega
  have f1 : O.fadd (O.fadd 0 a) (IntKind.u64.wrap (m 0)) = O.fadd a (IntKind.u64.wrap (m 0)) := by
    rw [G.fv _ _ (F.fadd _ _) hw, G.fv 0 a (by decide) h_a, G.fv a _ h_a hw]; omega
  have f2 : ((bif O.pright q then iBeq (O.pbase a) q else false) == iBeq (O.pbase a) q) = true := by
    cases e : O.pright q with
    | true => rw [beq_iff_eq]; rfl
    | false =>
      have : iBeq (O.pbase a) q = false := by
        rw [Sx.iBeq_f]
        intro hc
        have := G.pb a
        rw [hc, e] at this
        cases this
      rw [this]; rfl
  have f5 : O.fadd a 0 = O.fadd 0 a := by rw [G.fv a 0 h_a (by decide), G.fv 0 a (by decide) h_a, Int.add_comm]
  have rf := from_ref pc
  have bs : ∀ z : Int, iBeq z z = true := fun z => by rw [Sx.iBeq_t]
  simp only [h_m, h_a, h_l, h_q, hbl, hb1, c0, c1, c2, c3, hw, f1, f2, f5, rf, bs, eqL2_self, fromO_len, Bool.and_self, Bool.and_true, Bool.true_and, Bool.not_true, If_t, If_f, and_true]
theorem wpc_paTells_0 (O : OO) (Z : OZ) (Y : OY) (a q n : Int) (l : List Int) (m : Nat → Int) (F : FO O) (G : FP O) (pc : ∀ q a b, O.padd (O.padd q (O.pbase a)) (O.pbase b) = O.padd (O.padd q (O.pbase b)) (O.pbase a)) (h_a : inU a 18446744073709551616 = true) (h_l : inUs 18446744073709551616 l = true) (g_l : Nat.ble l.length 9223372036854775807 = true) (h_q : inU q 18446744073709551616 = true) (h_m : O.isH (AV m) = true) (c0 : newB O q n = true) (c1 : frB O (O.pbase a) l.length = true) (c2 : frB O q l.length = true) (c3 : prtB n = true) : wpcI Try.prog (spPT true true true true O Z Y) Try.f3.ntmps [] (bodyOf Try.f3) 0 64 (envA [.v, .ro .u64, .v, .v, .v] [.v (.int .u64 a), .ints l, .v (.int .u64 q), .v (.agg (AV m)), .v (.int .i64 n)] 0) (memA [.v, .ro .u64, .v, .v, .v] [.v (.int .u64 a), .ints l, .v (.int .u64 q), .v (.agg (AV m)), .v (.int .i64 n)] 0) (retG Try.prog Try.f3.results.toList [.v (.bool true)]) :=
  Eq.mpr (by kernel_rfl) (vc_paTells_0 O Z Y a q n l m F G pc h_a h_l g_l h_q h_m c0 c1 c2 c3)
theorem ok_paTells_0 : Sx.SpecOK I0 Try.prog 3 (gspec [.v, .ro .u64, .v, .v, .v] (g_paTells_0 oo (zO oo) (yO oo))) := by
  refine spec_genAI (spPT_ok I0 true true true true oo rfl (zO oo) rfl (yO oo) rfl) (by kernel_rfl) (fun xs => match xs with | [.v (.int .u64 a), .ints l, .v (.int .u64 q), .v (.agg m), .v (.int .i64 n)] => [] | _ => []) Try.func3 (by kernel_rfl) (by kernel_rfl) rfl Try.ntmps3 (by decide) ?_ ?_
  · intro xs p rs h; unfold g_paTells_0 at h; split at h <;> first | (simp only [Option.some.injEq, Prod.mk.injEq] at h; rw [← h.2]; simp) | cases h
  · intro xs rs hl h
    unfold g_paTells_0 at h
    split at h
    · rename_i a l q m n
      simp only [Option.some.injEq, Prod.mk.injEq, Bool.and_eq_true] at h
      obtain ⟨⟨⟨⟨⟨⟨⟨⟨⟨h_a, h_l⟩, g_l⟩, h_q⟩, h_m⟩, c0⟩, c1⟩, c2⟩, c3⟩, rfl⟩ := h
      obtain ⟨m, rfl⟩ := isH_AV h_m
      exact wpc_paTells_0 oo (zO oo) (yO oo) a q n l m (fo_oo oo rfl) fp_oo pc' h_a h_l g_l h_q h_m c0 c1 c2 c3
    · cases h
def g_paTells_1 (O : OO) (Z : OZ) (Y : OY) (xs : List Sx.Arg) : Option (Bool × List Ret) := match xs with
  | [.v (.int .u64 a), .ints l, .v (.int .u64 q), .v (.agg m), .v (.int .i64 n)] => some ((inU a 18446744073709551616) && (inUs 18446744073709551616 l) && (Nat.ble l.length 9223372036854775807) && (inU q 18446744073709551616) && (O.isH m) && (newB O q n) && (frB O (O.pbase a) l.length) && (frB O q l.length) && ((!(prtB n))), [.v (.bool true)])
  | _ => none
set_option maxHeartbeats 4000000 in
theorem vc_paTells_1 (O : OO) (Z : OZ) (Y : OY) (a q n : Int) (l : List Int) (m : Nat → Int) (F : FO O) (G : FP O) (pc : ∀ q a b, O.padd (O.padd q (O.pbase a)) (O.pbase b) = O.padd (O.padd q (O.pbase b)) (O.pbase a)) (h_a : inU a 18446744073709551616 = true) (h_l : inUs 18446744073709551616 l = true) (g_l : Nat.ble l.length 9223372036854775807 = true) (h_q : inU q 18446744073709551616 = true) (h_m : O.isH (AV m) = true) (c0 : newB O q n = true) (c1 : frB O (O.pbase a) l.length = true) (c2 : frB O q l.length = true) (c3 : (!(prtB n)) = true) :
  If (iLt 20 (iOf (Cont.ints IntKind.u64 l).n)) (Value.bool true = Value.bool true ∧ True)
    (If (inU q 18446744073709551616 && O.isH (Array.mk (List.map (Value.int IntKind.u8) (tabI m 32))) && newB O q n)
      (If (inU q 18446744073709551616 && O.isH (Array.mk (List.map (Value.int IntKind.u8) (tabI m 32))) && newB O q n)
        (If (inU a 18446744073709551616 && inUs 18446744073709551616 l && l.length.ble 1000 && frB O (O.pbase a) (iOf l.length))
          (If (inU a 18446744073709551616 && inUs 18446744073709551616 l && l.length.ble 1000 && frB O (O.pbase a) (iOf l.length))
            (If (inU q 18446744073709551616 && inUs 18446744073709551616 l && l.length.ble 1000 && frB O q (iOf l.length))
              (If (inU q 18446744073709551616 && inUs 18446744073709551616 l && l.length.ble 1000 && frB O q (iOf l.length))
                (If (inU a 18446744073709551616 && inUs 18446744073709551616 l && l.length.ble 1000)
                  (If (inU a 18446744073709551616 && inUs 18446744073709551616 l && l.length.ble 1000)
                    (If (iBeq (O.fsub a (sumO O l)) (O.fsub a (sumO O l)))
                      (If (inU q 18446744073709551616 && inU a 18446744073709551616)
                        (If (inU q 18446744073709551616 && inU a 18446744073709551616)
                          (If ((bif O.pright q then iBeq (O.pbase a) q else false) == iBeq (O.pbase a) q)
                            (If (inU a 18446744073709551616 && !prtB n)
                              (If (inU a 18446744073709551616 && !prtB n)
                                (If ((partsO O (b8 (O.fadd 0 a)) a n).length.ble 1000 && (partsO O (b8 (O.fadd a 0)) a n).length.ble 1000)
                                  (If (eqL2 (partsO O (b8 (O.fadd 0 a)) a n) (partsO O (b8 (O.fadd a 0)) a n))
                                    (If (inUs 18446744073709551616 l && l.length.ble 1000)
                                      (If (inUs 18446744073709551616 l && l.length.ble 1000)
                                        (If (iBeq (sumO O l) (sumO O l))
                                          (If (inU a 18446744073709551616 && inU (IntKind.u64.wrap (m 0)) 18446744073709551616)
                                            (If (inU a 18446744073709551616 && inU (IntKind.u64.wrap (m 0)) 18446744073709551616)
                                              (Value.bool (iBeq (O.fadd (O.fadd 0 a) (IntKind.u64.wrap (m 0))) (O.fadd a (IntKind.u64.wrap (m 0)))) = Value.bool true ∧ True) False)
                                            False)
                                          (Value.bool false = Value.bool true ∧ True))
                                        False)
                                      False)
                                    (Value.bool false = Value.bool true ∧ True))
                                  False)
                                False)
                              False)
                            (Value.bool false = Value.bool true ∧ True))
                          False)
                        False)
                      (Value.bool false = Value.bool true ∧ True))
                    False)
                  False)
                False)
              False)
            False)
          False)
        False)
      False) := by
  have hAm : O.isH (Array.mk (List.map (Value.int IntKind.u8) (tabI m 32))) = true := h_m
  have hw : inU (IntKind.u64.wrap (m 0)) 18446744073709551616 = true := inU_wrap _
  have eA : Array.mk (List.map (Value.int IntKind.u8) (tabI m 32)) = AV m := rfl
  simp only [Sx.app, Sx.nAdd, Sx.nSub, Sx.nMul, Sx.nPow, Sx.nDiv, Sx.nMod, Sx.iAdd, Sx.iSub, Sx.iMul, Sx.iNeg, Sx.iPow, Sx.iOf, Sx.Cont.n, eA]
  refine Sx.if_both (fun h => (by first | rfl | trivial)) (fun h => ?_)
  simp only [Bool.and_eq_true, Bool.or_eq_true, Sx.iLt_t, Sx.iLt_f, Sx.iLe_t, Sx.iLe_f, Sx.iEq_t, Sx.iEq_f, Sx.iBeq_t, Sx.iBeq_f, Sx.iBne_t, Sx.iBne_f, Nat.ble_eq, Nat.beq_eq, Sx.Cont.n] at h
  have hbl : l.length.ble 1000 = true := by rw [Nat.ble_eq]; omega
  have hb1 : (l.length + 1).ble 1000 = true := by rw [Nat.ble_eq]; omega
  have f1 : O.fadd (O.fadd 0 a) (IntKind.u64.wrap (m 0)) = O.fadd a (IntKind.u64.wrap (m 0)) := by
    rw [G.fv _ _ (F.fadd _ _) hw, G.fv 0 a (by decide) h_a, G.fv a _ h_a hw]; omega
  have f2 : ((bif O.pright q then iBeq (O.pbase a) q else false) == iBeq (O.pbase a) q) = true := by
    cases e : O.pright q with
    | true => rw [beq_iff_eq]; rfl
    | false =>
      have : iBeq (O.pbase a) q = false := by
        rw [Sx.iBeq_f]
        intro hc
        have := G.pb a
        rw [hc, e] at this
        cases this
      rw [this]; rfl
  have f5 : O.fadd a 0 = O.fadd 0 a := by rw [G.fv a 0 h_a (by decide), G.fv 0 a (by decide) h_a, Int.add_comm]
  have rf := from_ref pc
  have bs : ∀ z : Int, iBeq z z = true := fun z => by rw [Sx.iBeq_t]
  have lP : (partsO O (b8 (O.fadd 0 a)) a n).length.ble 1000 = true := by
    have hn := prtB_no (n := n) (by cases e : prtB n with
      | true => rw [e] at c3; cases c3
      | false => rfl)
    unfold partsO
    rw [List.length_append, drawsO_len, Nat.ble_eq]
    simp only [List.length_cons, List.length_nil]
    omega
  simp only [h_m, h_a, h_l, h_q, hbl, hb1, c0, c1, c2, c3, hw, f1, f2, f5, rf, bs, eqL2_self, fromO_len, lP, Bool.and_self, Bool.and_true, Bool.true_and, Bool.not_true, If_t, If_f, and_true]
theorem wpc_paTells_1 (O : OO) (Z : OZ) (Y : OY) (a q n : Int) (l : List Int) (m : Nat → Int) (F : FO O) (G : FP O) (pc : ∀ q a b, O.padd (O.padd q (O.pbase a)) (O.pbase b) = O.padd (O.padd q (O.pbase b)) (O.pbase a)) (h_a : inU a 18446744073709551616 = true) (h_l : inUs 18446744073709551616 l = true) (g_l : Nat.ble l.length 9223372036854775807 = true) (h_q : inU q 18446744073709551616 = true) (h_m : O.isH (AV m) = true) (c0 : newB O q n = true) (c1 : frB O (O.pbase a) l.length = true) (c2 : frB O q l.length = true) (c3 : (!(prtB n)) = true) : wpcI Try.prog (spPT true true true false O Z Y) Try.f3.ntmps [] (bodyOf Try.f3) 0 64 (envA [.v, .ro .u64, .v, .v, .v] [.v (.int .u64 a), .ints l, .v (.int .u64 q), .v (.agg (AV m)), .v (.int .i64 n)] 0) (memA [.v, .ro .u64, .v, .v, .v] [.v (.int .u64 a), .ints l, .v (.int .u64 q), .v (.agg (AV m)), .v (.int .i64 n)] 0) (retG Try.prog Try.f3.results.toList [.v (.bool true)]) :=
  Eq.mpr (by kernel_rfl) (vc_paTells_1 O Z Y a q n l m F G pc h_a h_l g_l h_q h_m c0 c1 c2 c3)
theorem ok_paTells_1 : Sx.SpecOK I0 Try.prog 3 (gspec [.v, .ro .u64, .v, .v, .v] (g_paTells_1 oo (zO oo) (yO oo))) := by
  refine spec_genAI (spPT_ok I0 true true true false oo rfl (zO oo) rfl (yO oo) rfl) (by kernel_rfl) (fun xs => match xs with | [.v (.int .u64 a), .ints l, .v (.int .u64 q), .v (.agg m), .v (.int .i64 n)] => [] | _ => []) Try.func3 (by kernel_rfl) (by kernel_rfl) rfl Try.ntmps3 (by decide) ?_ ?_
  · intro xs p rs h; unfold g_paTells_1 at h; split at h <;> first | (simp only [Option.some.injEq, Prod.mk.injEq] at h; rw [← h.2]; simp) | cases h
  · intro xs rs hl h
    unfold g_paTells_1 at h
    split at h
    · rename_i a l q m n
      simp only [Option.some.injEq, Prod.mk.injEq, Bool.and_eq_true] at h
      obtain ⟨⟨⟨⟨⟨⟨⟨⟨⟨h_a, h_l⟩, g_l⟩, h_q⟩, h_m⟩, c0⟩, c1⟩, c2⟩, c3⟩, rfl⟩ := h
      obtain ⟨m, rfl⟩ := isH_AV h_m
      exact wpc_paTells_1 oo (zO oo) (yO oo) a q n l m (fo_oo oo rfl) fp_oo pc' h_a h_l g_l h_q h_m c0 c1 c2 c3
    · cases h
def g_paTells_2 (O : OO) (Z : OZ) (Y : OY) (xs : List Sx.Arg) : Option (Bool × List Ret) := match xs with
  | [.v (.int .u64 a), .ints l, .v (.int .u64 q), .v (.agg m), .v (.int .i64 n)] => some ((inU a 18446744073709551616) && (inUs 18446744073709551616 l) && (Nat.ble l.length 9223372036854775807) && (inU q 18446744073709551616) && (O.isH m) && (newB O q n) && (frB O (O.pbase a) l.length) && ((!(frB O q l.length))) && (prtB n), [.v (.bool true)])
  | _ => none
set_option maxHeartbeats 4000000 in
theorem vc_paTells_2 (O : OO) (Z : OZ) (Y : OY) (a q n : Int) (l : List Int) (m : Nat → Int) (F : FO O) (G : FP O) (pc : ∀ q a b, O.padd (O.padd q (O.pbase a)) (O.pbase b) = O.padd (O.padd q (O.pbase b)) (O.pbase a)) (h_a : inU a 18446744073709551616 = true) (h_l : inUs 18446744073709551616 l = true) (g_l : Nat.ble l.length 9223372036854775807 = true) (h_q : inU q 18446744073709551616 = true) (h_m : O.isH (AV m) = true) (c0 : newB O q n = true) (c1 : frB O (O.pbase a) l.length = true) (c2 : (!(frB O q l.length)) = true) (c3 : prtB n = true) :
  If (iLt 20 (iOf (Cont.ints IntKind.u64 l).n)) (Value.bool true = Value.bool true ∧ True)
    (If (inU q 18446744073709551616 && O.isH (Array.mk (List.map (Value.int IntKind.u8) (tabI m 32))) && newB O q n)
      (If (inU q 18446744073709551616 && O.isH (Array.mk (List.map (Value.int IntKind.u8) (tabI m 32))) && newB O q n)
        (If (inU a 18446744073709551616 && inUs 18446744073709551616 l && l.length.ble 1000 && frB O (O.pbase a) (iOf l.length))
          (If (inU a 18446744073709551616 && inUs 18446744073709551616 l && l.length.ble 1000 && frB O (O.pbase a) (iOf l.length))
            (If (inU q 18446744073709551616 && inUs 18446744073709551616 l && l.length.ble 1000 && !frB O q (iOf l.length))
              (If (inU q 18446744073709551616 && inUs 18446744073709551616 l && l.length.ble 1000 && !frB O q (iOf l.length))
                (If ((fromO O q l).length.ble 1000 && (rfromO O q l (nAdd l.length 1)).length.ble 1000)
                  (If (!eqL2 (fromO O q l) (rfromO O q l (nAdd l.length 1))) (Value.bool false = Value.bool true ∧ True)
                    (If (inU a 18446744073709551616 && inUs 18446744073709551616 l && l.length.ble 1000)
                      (If (inU a 18446744073709551616 && inUs 18446744073709551616 l && l.length.ble 1000)
                        (If (iBeq (O.fsub a (sumO O l)) (O.fsub a (sumO O l)))
                          (If (inU q 18446744073709551616 && inU a 18446744073709551616)
                            (If (inU q 18446744073709551616 && inU a 18446744073709551616)
                              (If ((bif O.pright q then iBeq (O.pbase a) q else false) == iBeq (O.pbase a) q)
                                (If (inU a 18446744073709551616 && prtB n)
                                  (If (inU a 18446744073709551616 && prtB n)
                                    (If (inUs 18446744073709551616 l && l.length.ble 1000)
                                      (If (inUs 18446744073709551616 l && l.length.ble 1000)
                                        (If (iBeq (sumO O l) (sumO O l))
                                          (If (inU a 18446744073709551616 && inU (IntKind.u64.wrap (m 0)) 18446744073709551616)
                                            (If (inU a 18446744073709551616 && inU (IntKind.u64.wrap (m 0)) 18446744073709551616)
                                              (Value.bool (iBeq (O.fadd (O.fadd 0 a) (IntKind.u64.wrap (m 0))) (O.fadd a (IntKind.u64.wrap (m 0)))) = Value.bool true ∧ True) False)
                                            False)
                                          (Value.bool false = Value.bool true ∧ True))
                                        False)
                                      False)
                                    False)
                                  False)
                                (Value.bool false = Value.bool true ∧ True))
                              False)
                            False)
                          (Value.bool false = Value.bool true ∧ True))
                        False)
                      False))
                  False)
                False)
              False)
            False)
          False)
        False)
      False) := by
  have hAm : O.isH (Array.mk (List.map (Value.int IntKind.u8) (tabI m 32))) = true := h_m
  have hw : inU (IntKind.u64.wrap (m 0)) 18446744073709551616 = true := inU_wrap _
  have eA : Array.mk (List.map (Value.int IntKind.u8) (tabI m 32)) = AV m := rfl
  simp only [Sx.app, Sx.nAdd, Sx.nSub, Sx.nMul, Sx.nPow, Sx.nDiv, Sx.nMod, Sx.iAdd, Sx.iSub, Sx.iMul, Sx.iNeg, Sx.iPow, Sx.iOf, Sx.Cont.n, eA]
  refine Sx.if_both (fun h => (by first | rfl | trivial)) (fun h => ?_)
  simp only [Bool.and_eq_true, Bool.or_eq_true, Sx.iLt_t, Sx.iLt_f, Sx.iLe_t, Sx.iLe_f, Sx.iEq_t, Sx.iEq_f, Sx.iBeq_t, Sx.iBeq_f, Sx.iBne_t, Sx.iBne_f, Nat.ble_eq, Nat.beq_eq, Sx.Cont.n] at h
  have hbl : l.length.ble 1000 = true := by rw [Nat.ble_eq]; omega
  have hb1 : (l.length + 1).ble 1000 = true := by rw [Nat.ble_eq]; omega
  have f1 : O.fadd (O.fadd 0 a) (IntKind.u64.wrap (m 0)) = O.fadd a (IntKind.u64.wrap (m 0)) := by
    rw [G.fv _ _ (F.fadd _ _) hw, G.fv 0 a (by decide) h_a, G.fv a _ h_a hw]; omega
  have f2 : ((bif O.pright q then iBeq (O.pbase a) q else false) == iBeq (O.pbase a) q) = true := by
    cases e : O.pright q with
    | true => rw [beq_iff_eq]; rfl
    | false =>
      have : iBeq (O.pbase a) q = false := by
        rw [Sx.iBeq_f]
        intro hc
        have := G.pb a
        rw [hc, e] at this
        cases this
      rw [this]; rfl
  have f5 : O.fadd a 0 = O.fadd 0 a := by rw [G.fv a 0 h_a (by decide), G.fv 0 a (by decide) h_a, Int.add_comm]
  have rf := from_ref pc
  have bs : ∀ z : Int, iBeq z z = true := fun z => by rw [Sx.iBeq_t]
  simp only [h_m, h_a, h_l, h_q, hbl, hb1, c0, c1, c2, c3, hw, f1, f2, f5, rf, bs, eqL2_self, fromO_len, Bool.and_self, Bool.and_true, Bool.true_and, Bool.not_true, If_t, If_f, and_true]
theorem wpc_paTells_2 (O : OO) (Z : OZ) (Y : OY) (a q n : Int) (l : List Int) (m : Nat → Int) (F : FO O) (G : FP O) (pc : ∀ q a b, O.padd (O.padd q (O.pbase a)) (O.pbase b) = O.padd (O.padd q (O.pbase b)) (O.pbase a)) (h_a : inU a 18446744073709551616 = true) (h_l : inUs 18446744073709551616 l = true) (g_l : Nat.ble l.length 9223372036854775807 = true) (h_q : inU q 18446744073709551616 = true) (h_m : O.isH (AV m) = true) (c0 : newB O q n = true) (c1 : frB O (O.pbase a) l.length = true) (c2 : (!(frB O q l.length)) = true) (c3 : prtB n = true) : wpcI Try.prog (spPT true true false true O Z Y) Try.f3.ntmps [] (bodyOf Try.f3) 0 64 (envA [.v, .ro .u64, .v, .v, .v] [.v (.int .u64 a), .ints l, .v (.int .u64 q), .v (.agg (AV m)), .v (.int .i64 n)] 0) (memA [.v, .ro .u64, .v, .v, .v] [.v (.int .u64 a), .ints l, .v (.int .u64 q), .v (.agg (AV m)), .v (.int .i64 n)] 0) (retG Try.prog Try.f3.results.toList [.v (.bool true)]) :=
  Eq.mpr (by kernel_rfl) (vc_paTells_2 O Z Y a q n l m F G pc h_a h_l g_l h_q h_m c0 c1 c2 c3)
theorem ok_paTells_2 : Sx.SpecOK I0 Try.prog 3 (gspec [.v, .ro .u64, .v, .v, .v] (g_paTells_2 oo (zO oo) (yO oo))) := by
  refine spec_genAI (spPT_ok I0 true true false true oo rfl (zO oo) rfl (yO oo) rfl) (by kernel_rfl) (fun xs => match xs with | [.v (.int .u64 a), .ints l, .v (.int .u64 q), .v (.agg m), .v (.int .i64 n)] => [] | _ => []) Try.func3 (by kernel_rfl) (by kernel_rfl) rfl Try.ntmps3 (by decide) ?_ ?_
  · intro xs p rs h; unfold g_paTells_2 at h; split at h <;> first | (simp only [Option.some.injEq, Prod.mk.injEq] at h; rw [← h.2]; simp) | cases h
  · intro xs rs hl h
    unfold g_paTells_2 at h
    split at h
    · rename_i a l q m n
      simp only [Option.some.injEq, Prod.mk.injEq, Bool.and_eq_true] at h
      obtain ⟨⟨⟨⟨⟨⟨⟨⟨⟨h_a, h_l⟩, g_l⟩, h_q⟩, h_m⟩, c0⟩, c1⟩, c2⟩, c3⟩, rfl⟩ := h
      obtain ⟨m, rfl⟩ := isH_AV h_m
      exact wpc_paTells_2 oo (zO oo) (yO oo) a q n l m (fo_oo oo rfl) fp_oo pc' h_a h_l g_l h_q h_m c0 c1 c2 c3
    · cases h
def g_paTells_3 (O : OO) (Z : OZ) (Y : OY) (xs : List Sx.Arg) : Option (Bool × List Ret) := match xs with
  | [.v (.int .u64 a), .ints l, .v (.int .u64 q), .v (.agg m), .v (.int .i64 n)] => some ((inU a 18446744073709551616) && (inUs 18446744073709551616 l) && (Nat.ble l.length 9223372036854775807) && (inU q 18446744073709551616) && (O.isH m) && (newB O q n) && (frB O (O.pbase a) l.length) && ((!(frB O q l.length))) && ((!(prtB n))), [.v (.bool true)])
  | _ => none
set_option maxHeartbeats 4000000 in
theorem vc_paTells_3 (O : OO) (Z : OZ) (Y : OY) (a q n : Int) (l : List Int) (m : Nat → Int) (F : FO O) (G : FP O) (pc : ∀ q a b, O.padd (O.padd q (O.pbase a)) (O.pbase b) = O.padd (O.padd q (O.pbase b)) (O.pbase a)) (h_a : inU a 18446744073709551616 = true) (h_l : inUs 18446744073709551616 l = true) (g_l : Nat.ble l.length 9223372036854775807 = true) (h_q : inU q 18446744073709551616 = true) (h_m : O.isH (AV m) = true) (c0 : newB O q n = true) (c1 : frB O (O.pbase a) l.length = true) (c2 : (!(frB O q l.length)) = true) (c3 : (!(prtB n)) = true) :
  If (iLt 20 (iOf (Cont.ints IntKind.u64 l).n)) (Value.bool true = Value.bool true ∧ True)
    (If (inU q 18446744073709551616 && O.isH (Array.mk (List.map (Value.int IntKind.u8) (tabI m 32))) && newB O q n)
      (If (inU q 18446744073709551616 && O.isH (Array.mk (List.map (Value.int IntKind.u8) (tabI m 32))) && newB O q n)
        (If (inU a 18446744073709551616 && inUs 18446744073709551616 l && l.length.ble 1000 && frB O (O.pbase a) (iOf l.length))
          (If (inU a 18446744073709551616 && inUs 18446744073709551616 l && l.length.ble 1000 && frB O (O.pbase a) (iOf l.length))
            (If (inU q 18446744073709551616 && inUs 18446744073709551616 l && l.length.ble 1000 && !frB O q (iOf l.length))
              (If (inU q 18446744073709551616 && inUs 18446744073709551616 l && l.length.ble 1000 && !frB O q (iOf l.length))
                (If ((fromO O q l).length.ble 1000 && (rfromO O q l (nAdd l.length 1)).length.ble 1000)
                  (If (!eqL2 (fromO O q l) (rfromO O q l (nAdd l.length 1))) (Value.bool false = Value.bool true ∧ True)
                    (If (inU a 18446744073709551616 && inUs 18446744073709551616 l && l.length.ble 1000)
                      (If (inU a 18446744073709551616 && inUs 18446744073709551616 l && l.length.ble 1000)
                        (If (iBeq (O.fsub a (sumO O l)) (O.fsub a (sumO O l)))
                          (If (inU q 18446744073709551616 && inU a 18446744073709551616)
                            (If (inU q 18446744073709551616 && inU a 18446744073709551616)
                              (If ((bif O.pright q then iBeq (O.pbase a) q else false) == iBeq (O.pbase a) q)
                                (If (inU a 18446744073709551616 && !prtB n)
                                  (If (inU a 18446744073709551616 && !prtB n)
                                    (If ((partsO O (b8 (O.fadd 0 a)) a n).length.ble 1000 && (partsO O (b8 (O.fadd a 0)) a n).length.ble 1000)
                                      (If (eqL2 (partsO O (b8 (O.fadd 0 a)) a n) (partsO O (b8 (O.fadd a 0)) a n))
                                        (If (inUs 18446744073709551616 l && l.length.ble 1000)
                                          (If (inUs 18446744073709551616 l && l.length.ble 1000)
                                            (If (iBeq (sumO O l) (sumO O l))
                                              (If (inU a 18446744073709551616 && inU (IntKind.u64.wrap (m 0)) 18446744073709551616)
                                                (If (inU a 18446744073709551616 && inU (IntKind.u64.wrap (m 0)) 18446744073709551616)
                                                  (Value.bool (iBeq (O.fadd (O.fadd 0 a) (IntKind.u64.wrap (m 0))) (O.fadd a (IntKind.u64.wrap (m 0)))) = Value.bool true ∧ True) False)
                                                False)
                                              (Value.bool false = Value.bool true ∧ True))
                                            False)
                                          False)
                                        (Value.bool false = Value.bool true ∧ True))
                                      False)
                                    False)
                                  False)
                                (Value.bool false = Value.bool true ∧ True))
                              False)
                            False)
                          (Value.bool false = Value.bool true ∧ True))
                        False)
                      False))
                  False)
                False)
              False)
            False)
          False)
        False)
      False) := by
  have hAm : O.isH (Array.mk (List.map (Value.int IntKind.u8) (tabI m 32))) = true := h_m
  have hw : inU (IntKind.u64.wrap (m 0)) 18446744073709551616 = true := inU_wrap _
  have eA : Array.mk (List.map (Value.int IntKind.u8) (tabI m 32)) = AV m := rfl
  simp only [Sx.app, Sx.nAdd, Sx.nSub, Sx.nMul, Sx.nPow, Sx.nDiv, Sx.nMod, Sx.iAdd, Sx.iSub, Sx.iMul, Sx.iNeg, Sx.iPow, Sx.iOf, Sx.Cont.n, eA]
  refine Sx.if_both (fun h => (by first | rfl | trivial)) (fun h => ?_)
  simp only [Bool.and_eq_true, Bool.or_eq_true, Sx.iLt_t, Sx.iLt_f, Sx.iLe_t, Sx.iLe_f, Sx.iEq_t, Sx.iEq_f, Sx.iBeq_t, Sx.iBeq_f, Sx.iBne_t, Sx.iBne_f, Nat.ble_eq, Nat.beq_eq, Sx.Cont.n] at h
  have hbl : l.length.ble 1000 = true := by rw [Nat.ble_eq]; omega
  have hb1 : (l.length + 1).ble 1000 = true := by rw [Nat.ble_eq]; omega
  have f1 : O.fadd (O.fadd 0 a) (IntKind.u64.wrap (m 0)) = O.fadd a (IntKind.u64.wrap (m 0)) := by
    rw [G.fv _ _ (F.fadd _ _) hw, G.fv 0 a (by decide) h_a, G.fv a _ h_a hw]; omega
  have f2 : ((bif O.pright q then iBeq (O.pbase a) q else false) == iBeq (O.pbase a) q) = true := by
    cases e : O.pright q with
    | true => rw [beq_iff_eq]; rfl
    | false =>
      have : iBeq (O.pbase a) q = false := by
        rw [Sx.iBeq_f]
        intro hc
        have := G.pb a
        rw [hc, e] at this
        cases this
      rw [this]; rfl
  have f5 : O.fadd a 0 = O.fadd 0 a := by rw [G.fv a 0 h_a (by decide), G.fv 0 a (by decide) h_a, Int.add_comm]
  have rf := from_ref pc
  have bs : ∀ z : Int, iBeq z z = true := fun z => by rw [Sx.iBeq_t]
  have lP : (partsO O (b8 (O.fadd 0 a)) a n).length.ble 1000 = true := by
    have hn := prtB_no (n := n) (by cases e : prtB n with
      | true => rw [e] at c3; cases c3
      | false => rfl)
    unfold partsO
    rw [List.length_append, drawsO_len, Nat.ble_eq]
    simp only [List.length_cons, List.length_nil]
    omega
  simp only [h_m, h_a, h_l, h_q, hbl, hb1, c0, c1, c2, c3, hw, f1, f2, f5, rf, bs, eqL2_self, fromO_len, lP, Bool.and_self, Bool.and_true, Bool.true_and, Bool.not_true, If_t, If_f, and_true]
theorem wpc_paTells_3 (O : OO) (Z : OZ) (Y : OY) (a q n : Int) (l : List Int) (m : Nat → Int) (F : FO O) (G : FP O) (pc : ∀ q a b, O.padd (O.padd q (O.pbase a)) (O.pbase b) = O.padd (O.padd q (O.pbase b)) (O.pbase a)) (h_a : inU a 18446744073709551616 = true) (h_l : inUs 18446744073709551616 l = true) (g_l : Nat.ble l.length 9223372036854775807 = true) (h_q : inU q 18446744073709551616 = true) (h_m : O.isH (AV m) = true) (c0 : newB O q n = true) (c1 : frB O (O.pbase a) l.length = true) (c2 : (!(frB O q l.length)) = true) (c3 : (!(prtB n)) = true) : wpcI Try.prog (spPT true true false false O Z Y) Try.f3.ntmps [] (bodyOf Try.f3) 0 64 (envA [.v, .ro .u64, .v, .v, .v] [.v (.int .u64 a), .ints l, .v (.int .u64 q), .v (.agg (AV m)), .v (.int .i64 n)] 0) (memA [.v, .ro .u64, .v, .v, .v] [.v (.int .u64 a), .ints l, .v (.int .u64 q), .v (.agg (AV m)), .v (.int .i64 n)] 0) (retG Try.prog Try.f3.results.toList [.v (.bool true)]) :=
  Eq.mpr (by kernel_rfl) (vc_paTells_3 O Z Y a q n l m F G pc h_a h_l g_l h_q h_m c0 c1 c2 c3)
theorem ok_paTells_3 : Sx.SpecOK I0 Try.prog 3 (gspec [.v, .ro .u64, .v, .v, .v] (g_paTells_3 oo (zO oo) (yO oo))) := by
  refine spec_genAI (spPT_ok I0 true true false false oo rfl (zO oo) rfl (yO oo) rfl) (by kernel_rfl) (fun xs => match xs with | [.v (.int .u64 a), .ints l, .v (.int .u64 q), .v (.agg m), .v (.int .i64 n)] => [] | _ => []) Try.func3 (by kernel_rfl) (by kernel_rfl) rfl Try.ntmps3 (by decide) ?_ ?_
  · intro xs p rs h; unfold g_paTells_3 at h; split at h <;> first | (simp only [Option.some.injEq, Prod.mk.injEq] at h; rw [← h.2]; simp) | cases h
  · intro xs rs hl h
    unfold g_paTells_3 at h
    split at h
    · rename_i a l q m n
      simp only [Option.some.injEq, Prod.mk.injEq, Bool.and_eq_true] at h
      obtain ⟨⟨⟨⟨⟨⟨⟨⟨⟨h_a, h_l⟩, g_l⟩, h_q⟩, h_m⟩, c0⟩, c1⟩, c2⟩, c3⟩, rfl⟩ := h
      obtain ⟨m, rfl⟩ := isH_AV h_m
      exact wpc_paTells_3 oo (zO oo) (yO oo) a q n l m (fo_oo oo rfl) fp_oo pc' h_a h_l g_l h_q h_m c0 c1 c2 c3
    · cases h
def g_paTells_4 (O : OO) (Z : OZ) (Y : OY) (xs : List Sx.Arg) : Option (Bool × List Ret) := match xs with
  | [.v (.int .u64 a), .ints l, .v (.int .u64 q), .v (.agg m), .v (.int .i64 n)] => some ((inU a 18446744073709551616) && (inUs 18446744073709551616 l) && (Nat.ble l.length 9223372036854775807) && (inU q 18446744073709551616) && (O.isH m) && (newB O q n) && ((!(frB O (O.pbase a) l.length))) && (frB O q l.length) && (prtB n), [.v (.bool true)])
  | _ => none
set_option maxHeartbeats 4000000 in
theorem vc_paTells_4 (O : OO) (Z : OZ) (Y : OY) (a q n : Int) (l : List Int) (m : Nat → Int) (F : FO O) (G : FP O) (pc : ∀ q a b, O.padd (O.padd q (O.pbase a)) (O.pbase b) = O.padd (O.padd q (O.pbase b)) (O.pbase a)) (h_a : inU a 18446744073709551616 = true) (h_l : inUs 18446744073709551616 l = true) (g_l : Nat.ble l.length 9223372036854775807 = true) (h_q : inU q 18446744073709551616 = true) (h_m : O.isH (AV m) = true) (c0 : newB O q n = true) (c1 : (!(frB O (O.pbase a) l.length)) = true) (c2 : frB O q l.length = true) (c3 : prtB n = true) :
  If (iLt 20 (iOf (Cont.ints IntKind.u64 l).n)) (Value.bool true = Value.bool true ∧ True)
    (If (inU q 18446744073709551616 && O.isH (Array.mk (List.map (Value.int IntKind.u8) (tabI m 32))) && newB O q n)
      (If (inU q 18446744073709551616 && O.isH (Array.mk (List.map (Value.int IntKind.u8) (tabI m 32))) && newB O q n)
        (If (inU a 18446744073709551616 && inUs 18446744073709551616 l && l.length.ble 1000 && !frB O (O.pbase a) (iOf l.length))
          (If (inU a 18446744073709551616 && inUs 18446744073709551616 l && l.length.ble 1000 && !frB O (O.pbase a) (iOf l.length))
            (If ((fromO O (O.pbase a) l).length.ble 1000 && (rfromO O (O.pbase a) l (nAdd l.length 1)).length.ble 1000)
              (If (!eqL2 (fromO O (O.pbase a) l) (rfromO O (O.pbase a) l (nAdd l.length 1))) (Value.bool false = Value.bool true ∧ True)
                (If (inU q 18446744073709551616 && inUs 18446744073709551616 l && l.length.ble 1000 && frB O q (iOf l.length))
                  (If (inU q 18446744073709551616 && inUs 18446744073709551616 l && l.length.ble 1000 && frB O q (iOf l.length))
                    (If (inU a 18446744073709551616 && inUs 18446744073709551616 l && l.length.ble 1000)
                      (If (inU a 18446744073709551616 && inUs 18446744073709551616 l && l.length.ble 1000)
                        (If (iBeq (O.fsub a (sumO O l)) (O.fsub a (sumO O l)))
                          (If (inU q 18446744073709551616 && inU a 18446744073709551616)
                            (If (inU q 18446744073709551616 && inU a 18446744073709551616)
                              (If ((bif O.pright q then iBeq (O.pbase a) q else false) == iBeq (O.pbase a) q)
                                (If (inU a 18446744073709551616 && prtB n)
                                  (If (inU a 18446744073709551616 && prtB n)
                                    (If (inUs 18446744073709551616 l && l.length.ble 1000)
                                      (If (inUs 18446744073709551616 l && l.length.ble 1000)
                                        (If (iBeq (sumO O l) (sumO O l))
                                          (If (inU a 18446744073709551616 && inU (IntKind.u64.wrap (m 0)) 18446744073709551616)
                                            (If (inU a 18446744073709551616 && inU (IntKind.u64.wrap (m 0)) 18446744073709551616)
                                              (Value.bool (iBeq (O.fadd (O.fadd 0 a) (IntKind.u64.wrap (m 0))) (O.fadd a (IntKind.u64.wrap (m 0)))) = Value.bool true ∧ True) False)
                                            False)
                                          (Value.bool false = Value.bool true ∧ True))
                                        False)
                                      False)
                                    False)
                                  False)
                                (Value.bool false = Value.bool true ∧ True))
                              False)
                            False)
                          (Value.bool false = Value.bool true ∧ True))
                        False)
                      False)
                    False)
                  False))
              False)
            False)
          False)
        False)
      False) := by
  have hAm : O.isH (Array.mk (List.map (Value.int IntKind.u8) (tabI m 32))) = true := h_m
  have hw : inU (IntKind.u64.wrap (m 0)) 18446744073709551616 = true := inU_wrap _
  have eA : Array.mk (List.map (Value.int IntKind.u8) (tabI m 32)) = AV m := rfl
  simp only [Sx.app, Sx.nAdd, Sx.nSub, Sx.nMul, Sx.nPow, Sx.nDiv, Sx.nMod, Sx.iAdd, Sx.iSub, Sx.iMul, Sx.iNeg, Sx.iPow, Sx.iOf, Sx.Cont.n, eA]
  refine Sx.if_both (fun h => (by first | rfl | trivial)) (fun h => ?_)
  simp only [Bool.and_eq_true, Bool.or_eq_true, Sx.iLt_t, Sx.iLt_f, Sx.iLe_t, Sx.iLe_f, Sx.iEq_t, Sx.iEq_f, Sx.iBeq_t, Sx.iBeq_f, Sx.iBne_t, Sx.iBne_f, Nat.ble_eq, Nat.beq_eq, Sx.Cont.n] at h
  have hbl : l.length.ble 1000 = true := by rw [Nat.ble_eq]; omega
  have hb1 : (l.length + 1).ble 1000 = true := by rw [Nat.ble_eq]; omega
  have f1 : O.fadd (O.fadd 0 a) (IntKind.u64.wrap (m 0)) = O.fadd a (IntKind.u64.wrap (m 0)) := by
    rw [G.fv _ _ (F.fadd _ _) hw, G.fv 0 a (by decide) h_a, G.fv a _ h_a hw]; omega
  have f2 : ((bif O.pright q then iBeq (O.pbase a) q else false) == iBeq (O.pbase a) q) = true := by
    cases e : O.pright q with
    | true => rw [beq_iff_eq]; rfl
    | false =>
      have : iBeq (O.pbase a) q = false := by
        rw [Sx.iBeq_f]
        intro hc
        have := G.pb a
        rw [hc, e] at this
        cases this
      rw [this]; rfl
  have f5 : O.fadd a 0 = O.fadd 0 a := by rw [G.fv a 0 h_a (by decide), G.fv 0 a (by decide) h_a, Int.add_comm]
  have rf := from_ref pc
  have bs : ∀ z : Int, iBeq z z = true := fun z => by rw [Sx.iBeq_t]
  simp only [h_m, h_a, h_l, h_q, hbl, hb1, c0, c1, c2, c3, hw, f1, f2, f5, rf, bs, eqL2_self, fromO_len, Bool.and_self, Bool.and_true, Bool.true_and, Bool.not_true, If_t, If_f, and_true]
theorem wpc_paTells_4 (O : OO) (Z : OZ) (Y : OY) (a q n : Int) (l : List Int) (m : Nat → Int) (F : FO O) (G : FP O) (pc : ∀ q a b, O.padd (O.padd q (O.pbase a)) (O.pbase b) = O.padd (O.padd q (O.pbase b)) (O.pbase a)) (h_a : inU a 18446744073709551616 = true) (h_l : inUs 18446744073709551616 l = true) (g_l : Nat.ble l.length 9223372036854775807 = true) (h_q : inU q 18446744073709551616 = true) (h_m : O.isH (AV m) = true) (c0 : newB O q n = true) (c1 : (!(frB O (O.pbase a) l.length)) = true) (c2 : frB O q l.length = true) (c3 : prtB n = true) : wpcI Try.prog (spPT true false true true O Z Y) Try.f3.ntmps [] (bodyOf Try.f3) 0 64 (envA [.v, .ro .u64, .v, .v, .v] [.v (.int .u64 a), .ints l, .v (.int .u64 q), .v (.agg (AV m)), .v (.int .i64 n)] 0) (memA [.v, .ro .u64, .v, .v, .v] [.v (.int .u64 a), .ints l, .v (.int .u64 q), .v (.agg (AV m)), .v (.int .i64 n)] 0) (retG Try.prog Try.f3.results.toList [.v (.bool true)]) :=
  Eq.mpr (by kernel_rfl) (vc_paTells_4 O Z Y a q n l m F G pc h_a h_l g_l h_q h_m c0 c1 c2 c3)
theorem ok_paTells_4 : Sx.SpecOK I0 Try.prog 3 (gspec [.v, .ro .u64, .v, .v, .v] (g_paTells_4 oo (zO oo) (yO oo))) := by
  refine spec_genAI (spPT_ok I0 true false true true oo rfl (zO oo) rfl (yO oo) rfl) (by kernel_rfl) (fun xs => match xs with | [.v (.int .u64 a), .ints l, .v (.int .u64 q), .v (.agg m), .v (.int .i64 n)] => [] | _ => []) Try.func3 (by kernel_rfl) (by kernel_rfl) rfl Try.ntmps3 (by decide) ?_ ?_
  · intro xs p rs h; unfold g_paTells_4 at h; split at h <;> first | (simp only [Option.some.injEq, Prod.mk.injEq] at h; rw [← h.2]; simp) | cases h
  · intro xs rs hl h
    unfold g_paTells_4 at h
    split at h
    · rename_i a l q m n
      simp only [Option.some.injEq, Prod.mk.injEq, Bool.and_eq_true] at h
      obtain ⟨⟨⟨⟨⟨⟨⟨⟨⟨h_a, h_l⟩, g_l⟩, h_q⟩, h_m⟩, c0⟩, c1⟩, c2⟩, c3⟩, rfl⟩ := h
      obtain ⟨m, rfl⟩ := isH_AV h_m
      exact wpc_paTells_4 oo (zO oo) (yO oo) a q n l m (fo_oo oo rfl) fp_oo pc' h_a h_l g_l h_q h_m c0 c1 c2 c3
    · cases h
def g_paTells_5 (O : OO) (Z : OZ) (Y : OY) (xs : List Sx.Arg) : Option (Bool × List Ret) := match xs with
  | [.v (.int .u64 a), .ints l, .v (.int .u64 q), .v (.agg m), .v (.int .i64 n)] => some ((inU a 18446744073709551616) && (inUs 18446744073709551616 l) && (Nat.ble l.length 9223372036854775807) && (inU q 18446744073709551616) && (O.isH m) && (newB O q n) && ((!(frB O (O.pbase a) l.length))) && (frB O q l.length) && ((!(prtB n))), [.v (.bool true)])
  | _ => none
set_option maxHeartbeats 4000000 in
theorem vc_paTells_5 (O : OO) (Z : OZ) (Y : OY) (a q n : Int) (l : List Int) (m : Nat → Int) (F : FO O) (G : FP O) (pc : ∀ q a b, O.padd (O.padd q (O.pbase a)) (O.pbase b) = O.padd (O.padd q (O.pbase b)) (O.pbase a)) (h_a : inU a 18446744073709551616 = true) (h_l : inUs 18446744073709551616 l = true) (g_l : Nat.ble l.length 9223372036854775807 = true) (h_q : inU q 18446744073709551616 = true) (h_m : O.isH (AV m) = true) (c0 : newB O q n = true) (c1 : (!(frB O (O.pbase a) l.length)) = true) (c2 : frB O q l.length = true) (c3 : (!(prtB n)) = true) :
  If (iLt 20 (iOf (Cont.ints IntKind.u64 l).n)) (Value.bool true = Value.bool true ∧ True)
    (If (inU q 18446744073709551616 && O.isH (Array.mk (List.map (Value.int IntKind.u8) (tabI m 32))) && newB O q n)
      (If (inU q 18446744073709551616 && O.isH (Array.mk (List.map (Value.int IntKind.u8) (tabI m 32))) && newB O q n)
        (If (inU a 18446744073709551616 && inUs 18446744073709551616 l && l.length.ble 1000 && !frB O (O.pbase a) (iOf l.length))
          (If (inU a 18446744073709551616 && inUs 18446744073709551616 l && l.length.ble 1000 && !frB O (O.pbase a) (iOf l.length))
            (If ((fromO O (O.pbase a) l).length.ble 1000 && (rfromO O (O.pbase a) l (nAdd l.length 1)).length.ble 1000)
              (If (!eqL2 (fromO O (O.pbase a) l) (rfromO O (O.pbase a) l (nAdd l.length 1))) (Value.bool false = Value.bool true ∧ True)
                (If (inU q 18446744073709551616 && inUs 18446744073709551616 l && l.length.ble 1000 && frB O q (iOf l.length))
                  (If (inU q 18446744073709551616 && inUs 18446744073709551616 l && l.length.ble 1000 && frB O q (iOf l.length))
                    (If (inU a 18446744073709551616 && inUs 18446744073709551616 l && l.length.ble 1000)
                      (If (inU a 18446744073709551616 && inUs 18446744073709551616 l && l.length.ble 1000)
                        (If (iBeq (O.fsub a (sumO O l)) (O.fsub a (sumO O l)))
                          (If (inU q 18446744073709551616 && inU a 18446744073709551616)
                            (If (inU q 18446744073709551616 && inU a 18446744073709551616)
                              (If ((bif O.pright q then iBeq (O.pbase a) q else false) == iBeq (O.pbase a) q)
                                (If (inU a 18446744073709551616 && !prtB n)
                                  (If (inU a 18446744073709551616 && !prtB n)
                                    (If ((partsO O (b8 (O.fadd 0 a)) a n).length.ble 1000 && (partsO O (b8 (O.fadd a 0)) a n).length.ble 1000)
                                      (If (eqL2 (partsO O (b8 (O.fadd 0 a)) a n) (partsO O (b8 (O.fadd a 0)) a n))
                                        (If (inUs 18446744073709551616 l && l.length.ble 1000)
                                          (If (inUs 18446744073709551616 l && l.length.ble 1000)
                                            (If (iBeq (sumO O l) (sumO O l))
                                              (If (inU a 18446744073709551616 && inU (IntKind.u64.wrap (m 0)) 18446744073709551616)
                                                (If (inU a 18446744073709551616 && inU (IntKind.u64.wrap (m 0)) 18446744073709551616)
                                                  (Value.bool (iBeq (O.fadd (O.fadd 0 a) (IntKind.u64.wrap (m 0))) (O.fadd a (IntKind.u64.wrap (m 0)))) = Value.bool true ∧ True) False)
                                                False)
                                              (Value.bool false = Value.bool true ∧ True))
                                            False)
                                          False)
                                        (Value.bool false = Value.bool true ∧ True))
                                      False)
                                    False)
                                  False)
                                (Value.bool false = Value.bool true ∧ True))
                              False)
                            False)
                          (Value.bool false = Value.bool true ∧ True))
                        False)
                      False)
                    False)
                  False))
              False)
            False)
          False)
        False)
      False) := by
  have hAm : O.isH (Array.mk (List.map (Value.int IntKind.u8) (tabI m 32))) = true := h_m
  have hw : inU (IntKind.u64.wrap (m 0)) 18446744073709551616 = true := inU_wrap _
  have eA : Array.mk (List.map (Value.int IntKind.u8) (tabI m 32)) = AV m := rfl
  simp only [Sx.app, Sx.nAdd, Sx.nSub, Sx.nMul, Sx.nPow, Sx.nDiv, Sx.nMod, Sx.iAdd, Sx.iSub, Sx.iMul, Sx.iNeg, Sx.iPow, Sx.iOf, Sx.Cont.n, eA]
  refine Sx.if_both (fun h => (by first | rfl | trivial)) (fun h => ?_)
  simp only [Bool.and_eq_true, Bool.or_eq_true, Sx.iLt_t, Sx.iLt_f, Sx.iLe_t, Sx.iLe_f, Sx.iEq_t, Sx.iEq_f, Sx.iBeq_t, Sx.iBeq_f, Sx.iBne_t, Sx.iBne_f, Nat.ble_eq, Nat.beq_eq, Sx.Cont.n] at h
  have hbl : l.length.ble 1000 = true := by rw [Nat.ble_eq]; omega
  have hb1 : (l.length + 1).ble 1000 = true := by rw [Nat.ble_eq]; omega
  have f1 : O.fadd (O.fadd 0 a) (IntKind.u64.wrap (m 0)) = O.fadd a (IntKind.u64.wrap (m 0)) := by
    rw [G.fv _ _ (F.fadd _ _) hw, G.fv 0 a (by decide) h_a, G.fv a _ h_a hw]; omega
  have f2 : ((bif O.pright q then iBeq (O.pbase a) q else false) == iBeq (O.pbase a) q) = true := by
    cases e : O.pright q with
    | true => rw [beq_iff_eq]; rfl
    | false =>
      have : iBeq (O.pbase a) q = false := by
        rw [Sx.iBeq_f]
        intro hc
        have := G.pb a
        rw [hc, e] at this
        cases this
      rw [this]; rfl
  have f5 : O.fadd a 0 = O.fadd 0 a := by rw [G.fv a 0 h_a (by decide), G.fv 0 a (by decide) h_a, Int.add_comm]
  have rf := from_ref pc
  have bs : ∀ z : Int, iBeq z z = true := fun z => by rw [Sx.iBeq_t]
  have lP : (partsO O (b8 (O.fadd 0 a)) a n).length.ble 1000 = true := by
    have hn := prtB_no (n := n) (by cases e : prtB n with
      | true => rw [e] at c3; cases c3
      | false => rfl)
    unfold partsO
    rw [List.length_append, drawsO_len, Nat.ble_eq]
    simp only [List.length_cons, List.length_nil]
    omega
  simp only [h_m, h_a, h_l, h_q, hbl, hb1, c0, c1, c2, c3, hw, f1, f2, f5, rf, bs, eqL2_self, fromO_len, lP, Bool.and_self, Bool.and_true, Bool.true_and, Bool.not_true, If_t, If_f, and_true]
theorem wpc_paTells_5 (O : OO) (Z : OZ) (Y : OY) (a q n : Int) (l : List Int) (m : Nat → Int) (F : FO O) (G : FP O) (pc : ∀ q a b, O.padd (O.padd q (O.pbase a)) (O.pbase b) = O.padd (O.padd q (O.pbase b)) (O.pbase a)) (h_a : inU a 18446744073709551616 = true) (h_l : inUs 18446744073709551616 l = true) (g_l : Nat.ble l.length 9223372036854775807 = true) (h_q : inU q 18446744073709551616 = true) (h_m : O.isH (AV m) = true) (c0 : newB O q n = true) (c1 : (!(frB O (O.pbase a) l.length)) = true) (c2 : frB O q l.length = true) (c3 : (!(prtB n)) = true) : wpcI Try.prog (spPT true false true false O Z Y) Try.f3.ntmps [] (bodyOf Try.f3) 0 64 (envA [.v, .ro .u64, .v, .v, .v] [.v (.int .u64 a), .ints l, .v (.int .u64 q), .v (.agg (AV m)), .v (.int .i64 n)] 0) (memA [.v, .ro .u64, .v, .v, .v] [.v (.int .u64 a), .ints l, .v (.int .u64 q), .v (.agg (AV m)), .v (.int .i64 n)] 0) (retG Try.prog Try.f3.results.toList [.v (.bool true)]) :=
  Eq.mpr (by kernel_rfl) (vc_paTells_5 O Z Y a q n l m F G pc h_a h_l g_l h_q h_m c0 c1 c2 c3)
theorem ok_paTells_5 : Sx.SpecOK I0 Try.prog 3 (gspec [.v, .ro .u64, .v, .v, .v] (g_paTells_5 oo (zO oo) (yO oo))) := by
  refine spec_genAI (spPT_ok I0 true false true false oo rfl (zO oo) rfl (yO oo) rfl) (by kernel_rfl) (fun xs => match xs with | [.v (.int .u64 a), .ints l, .v (.int .u64 q), .v (.agg m), .v (.int .i64 n)] => [] | _ => []) Try.func3 (by kernel_rfl) (by kernel_rfl) rfl Try.ntmps3 (by decide) ?_ ?_
  · intro xs p rs h; unfold g_paTells_5 at h; split at h <;> first | (simp only [Option.some.injEq, Prod.mk.injEq] at h; rw [← h.2]; simp) | cases h
  · intro xs rs hl h
    unfold g_paTells_5 at h
    split at h
    · rename_i a l q m n
      simp only [Option.some.injEq, Prod.mk.injEq, Bool.and_eq_true] at h
      obtain ⟨⟨⟨⟨⟨⟨⟨⟨⟨h_a, h_l⟩, g_l⟩, h_q⟩, h_m⟩, c0⟩, c1⟩, c2⟩, c3⟩, rfl⟩ := h
      obtain ⟨m, rfl⟩ := isH_AV h_m
      exact wpc_paTells_5 oo (zO oo) (yO oo) a q n l m (fo_oo oo rfl) fp_oo pc' h_a h_l g_l h_q h_m c0 c1 c2 c3
    · cases h
def g_paTells_6 (O : OO) (Z : OZ) (Y : OY) (xs : List Sx.Arg) : Option (Bool × List Ret) := match xs with
  | [.v (.int .u64 a), .ints l, .v (.int .u64 q), .v (.agg m), .v (.int .i64 n)] => some ((inU a 18446744073709551616) && (inUs 18446744073709551616 l) && (Nat.ble l.length 9223372036854775807) && (inU q 18446744073709551616) && (O.isH m) && (newB O q n) && ((!(frB O (O.pbase a) l.length))) && ((!(frB O q l.length))) && (prtB n), [.v (.bool true)])
  | _ => none
set_option maxHeartbeats 4000000 in
theorem vc_paTells_6 (O : OO) (Z : OZ) (Y : OY) (a q n : Int) (l : List Int) (m : Nat → Int) (F : FO O) (G : FP O) (pc : ∀ q a b, O.padd (O.padd q (O.pbase a)) (O.pbase b) = O.padd (O.padd q (O.pbase b)) (O.pbase a)) (h_a : inU a 18446744073709551616 = true) (h_l : inUs 18446744073709551616 l = true) (g_l : Nat.ble l.length 9223372036854775807 = true) (h_q : inU q 18446744073709551616 = true) (h_m : O.isH (AV m) = true) (c0 : newB O q n = true) (c1 : (!(frB O (O.pbase a) l.length)) = true) (c2 : (!(frB O q l.length)) = true) (c3 : prtB n = true) :
  If (iLt 20 (iOf (Cont.ints IntKind.u64 l).n)) (Value.bool true = Value.bool true ∧ True)
    (If (inU q 18446744073709551616 && O.isH (Array.mk (List.map (Value.int IntKind.u8) (tabI m 32))) && newB O q n)
      (If (inU q 18446744073709551616 && O.isH (Array.mk (List.map (Value.int IntKind.u8) (tabI m 32))) && newB O q n)
        (If (inU a 18446744073709551616 && inUs 18446744073709551616 l && l.length.ble 1000 && !frB O (O.pbase a) (iOf l.length))
          (If (inU a 18446744073709551616 && inUs 18446744073709551616 l && l.length.ble 1000 && !frB O (O.pbase a) (iOf l.length))
            (If ((fromO O (O.pbase a) l).length.ble 1000 && (rfromO O (O.pbase a) l (nAdd l.length 1)).length.ble 1000)
              (If (!eqL2 (fromO O (O.pbase a) l) (rfromO O (O.pbase a) l (nAdd l.length 1))) (Value.bool false = Value.bool true ∧ True)
                (If (inU q 18446744073709551616 && inUs 18446744073709551616 l && l.length.ble 1000 && !frB O q (iOf l.length))
                  (If (inU q 18446744073709551616 && inUs 18446744073709551616 l && l.length.ble 1000 && !frB O q (iOf l.length))
                    (If ((fromO O q l).length.ble 1000 && (rfromO O q l (nAdd l.length 1)).length.ble 1000)
                      (If (!eqL2 (fromO O q l) (rfromO O q l (nAdd l.length 1))) (Value.bool false = Value.bool true ∧ True)
                        (If (inU a 18446744073709551616 && inUs 18446744073709551616 l && l.length.ble 1000)
                          (If (inU a 18446744073709551616 && inUs 18446744073709551616 l && l.length.ble 1000)
                            (If (iBeq (O.fsub a (sumO O l)) (O.fsub a (sumO O l)))
                              (If (inU q 18446744073709551616 && inU a 18446744073709551616)
                                (If (inU q 18446744073709551616 && inU a 18446744073709551616)
                                  (If ((bif O.pright q then iBeq (O.pbase a) q else false) == iBeq (O.pbase a) q)
                                    (If (inU a 18446744073709551616 && prtB n)
                                      (If (inU a 18446744073709551616 && prtB n)
                                        (If (inUs 18446744073709551616 l && l.length.ble 1000)
                                          (If (inUs 18446744073709551616 l && l.length.ble 1000)
                                            (If (iBeq (sumO O l) (sumO O l))
                                              (If (inU a 18446744073709551616 && inU (IntKind.u64.wrap (m 0)) 18446744073709551616)
                                                (If (inU a 18446744073709551616 && inU (IntKind.u64.wrap (m 0)) 18446744073709551616)
                                                  (Value.bool (iBeq (O.fadd (O.fadd 0 a) (IntKind.u64.wrap (m 0))) (O.fadd a (IntKind.u64.wrap (m 0)))) = Value.bool true ∧ True) False)
                                                False)
                                              (Value.bool false = Value.bool true ∧ True))
                                            False)
                                          False)
                                        False)
                                      False)
                                    (Value.bool false = Value.bool true ∧ True))
                                  False)
                                False)
                              (Value.bool false = Value.bool true ∧ True))
                            False)
                          False))
                      False)
                    False)
                  False))
              False)
            False)
          False)
        False)
      False) := by
  have hAm : O.isH (Array.mk (List.map (Value.int IntKind.u8) (tabI m 32))) = true := h_m
  have hw : inU (IntKind.u64.wrap (m 0)) 18446744073709551616 = true := inU_wrap _
  have eA : Array.mk (List.map (Value.int IntKind.u8) (tabI m 32)) = AV m := rfl
  simp only [Sx.app, Sx.nAdd, Sx.nSub, Sx.nMul, Sx.nPow, Sx.nDiv, Sx.nMod, Sx.iAdd, Sx.iSub, Sx.iMul, Sx.iNeg, Sx.iPow, Sx.iOf, Sx.Cont.n, eA]
  refine Sx.if_both (fun h => (by first | rfl | trivial)) (fun h => ?_)
  simp only [Bool.and_eq_true, Bool.or_eq_true, Sx.iLt_t, Sx.iLt_f, Sx.iLe_t, Sx.iLe_f, Sx.iEq_t, Sx.iEq_f, Sx.iBeq_t, Sx.iBeq_f, Sx.iBne_t, Sx.iBne_f, Nat.ble_eq, Nat.beq_eq, Sx.Cont.n] at h
  have hbl : l.length.ble 1000 = true := by rw [Nat.ble_eq]; omega
  have hb1 : (l.length + 1).ble 1000 = true := by rw [Nat.ble_eq]; omega
  have f1 : O.fadd (O.fadd 0 a) (IntKind.u64.wrap (m 0)) = O.fadd a (IntKind.u64.wrap (m 0)) := by
    rw [G.fv _ _ (F.fadd _ _) hw, G.fv 0 a (by decide) h_a, G.fv a _ h_a hw]; omega
  have f2 : ((bif O.pright q then iBeq (O.pbase a) q else false) == iBeq (O.pbase a) q) = true := by
    cases e : O.pright q with
    | true => rw [beq_iff_eq]; rfl
    | false =>
      have : iBeq (O.pbase a) q = false := by
        rw [Sx.iBeq_f]
        intro hc
        have := G.pb a
        rw [hc, e] at this
        cases this
      rw [this]; rfl
  have f5 : O.fadd a 0 = O.fadd 0 a := by rw [G.fv a 0 h_a (by decide), G.fv 0 a (by decide) h_a, Int.add_comm]
  have rf := from_ref pc
  have bs : ∀ z : Int, iBeq z z = true := fun z => by rw [Sx.iBeq_t]
  simp only [h_m, h_a, h_l, h_q, hbl, hb1, c0, c1, c2, c3, hw, f1, f2, f5, rf, bs, eqL2_self, fromO_len, Bool.and_self, Bool.and_true, Bool.true_and, Bool.not_true, If_t, If_f, and_true]
theorem wpc_paTells_6 (O : OO) (Z : OZ) (Y : OY) (a q n : Int) (l : List Int) (m : Nat → Int) (F : FO O) (G : FP O) (pc : ∀ q a b, O.padd (O.padd q (O.pbase a)) (O.pbase b) = O.padd (O.padd q (O.pbase b)) (O.pbase a)) (h_a : inU a 18446744073709551616 = true) (h_l : inUs 18446744073709551616 l = true) (g_l : Nat.ble l.length 9223372036854775807 = true) (h_q : inU q 18446744073709551616 = true) (h_m : O.isH (AV m) = true) (c0 : newB O q n = true) (c1 : (!(frB O (O.pbase a) l.length)) = true) (c2 : (!(frB O q l.length)) = true) (c3 : prtB n = true) : wpcI Try.prog (spPT true false false true O Z Y) Try.f3.ntmps [] (bodyOf Try.f3) 0 64 (envA [.v, .ro .u64, .v, .v, .v] [.v (.int .u64 a), .ints l, .v (.int .u64 q), .v (.agg (AV m)), .v (.int .i64 n)] 0) (memA [.v, .ro .u64, .v, .v, .v] [.v (.int .u64 a), .ints l, .v (.int .u64 q), .v (.agg (AV m)), .v (.int .i64 n)] 0) (retG Try.prog Try.f3.results.toList [.v (.bool true)]) :=
  Eq.mpr (by kernel_rfl) (vc_paTells_6 O Z Y a q n l m F G pc h_a h_l g_l h_q h_m c0 c1 c2 c3)
theorem ok_paTells_6 : Sx.SpecOK I0 Try.prog 3 (gspec [.v, .ro .u64, .v, .v, .v] (g_paTells_6 oo (zO oo) (yO oo))) := by
  refine spec_genAI (spPT_ok I0 true false false true oo rfl (zO oo) rfl (yO oo) rfl) (by kernel_rfl) (fun xs => match xs with | [.v (.int .u64 a), .ints l, .v (.int .u64 q), .v (.agg m), .v (.int .i64 n)] => [] | _ => []) Try.func3 (by kernel_rfl) (by kernel_rfl) rfl Try.ntmps3 (by decide) ?_ ?_
  · intro xs p rs h; unfold g_paTells_6 at h; split at h <;> first | (simp only [Option.some.injEq, Prod.mk.injEq] at h; rw [← h.2]; simp) | cases h
  · intro xs rs hl h
    unfold g_paTells_6 at h
    split at h
    · rename_i a l q m n
      simp only [Option.some.injEq, Prod.mk.injEq, Bool.and_eq_true] at h
      obtain ⟨⟨⟨⟨⟨⟨⟨⟨⟨h_a, h_l⟩, g_l⟩, h_q⟩, h_m⟩, c0⟩, c1⟩, c2⟩, c3⟩, rfl⟩ := h
      obtain ⟨m, rfl⟩ := isH_AV h_m
      exact wpc_paTells_6 oo (zO oo) (yO oo) a q n l m (fo_oo oo rfl) fp_oo pc' h_a h_l g_l h_q h_m c0 c1 c2 c3
    · cases h
def g_paTells_7 (O : OO) (Z : OZ) (Y : OY) (xs : List Sx.Arg) : Option (Bool × List Ret) := match xs with
  | [.v (.int .u64 a), .ints l, .v (.int .u64 q), .v (.agg m), .v (.int .i64 n)] => some ((inU a 18446744073709551616) && (inUs 18446744073709551616 l) && (Nat.ble l.length 9223372036854775807) && (inU q 18446744073709551616) && (O.isH m) && (newB O q n) && ((!(frB O (O.pbase a) l.length))) && ((!(frB O q l.length))) && ((!(prtB n))), [.v (.bool true)])
  | _ => none
set_option maxHeartbeats 4000000 in
theorem vc_paTells_7 (O : OO) (Z : OZ) (Y : OY) (a q n : Int) (l : List Int) (m : Nat → Int) (F : FO O) (G : FP O) (pc : ∀ q a b, O.padd (O.padd q (O.pbase a)) (O.pbase b) = O.padd (O.padd q (O.pbase b)) (O.pbase a)) (h_a : inU a 18446744073709551616 = true) (h_l : inUs 18446744073709551616 l = true) (g_l : Nat.ble l.length 9223372036854775807 = true) (h_q : inU q 18446744073709551616 = true) (h_m : O.isH (AV m) = true) (c0 : newB O q n = true) (c1 : (!(frB O (O.pbase a) l.length)) = true) (c2 : (!(frB O q l.length)) = true) (c3 : (!(prtB n)) = true) :
  If (iLt 20 (iOf (Cont.ints IntKind.u64 l).n)) (Value.bool true = Value.bool true ∧ True)
    (If (inU q 18446744073709551616 && O.isH (Array.mk (List.map (Value.int IntKind.u8) (tabI m 32))) && newB O q n)
      (If (inU q 18446744073709551616 && O.isH (Array.mk (List.map (Value.int IntKind.u8) (tabI m 32))) && newB O q n)
        (If (inU a 18446744073709551616 && inUs 18446744073709551616 l && l.length.ble 1000 && !frB O (O.pbase a) (iOf l.length))
          (If (inU a 18446744073709551616 && inUs 18446744073709551616 l && l.length.ble 1000 && !frB O (O.pbase a) (iOf l.length))
            (If ((fromO O (O.pbase a) l).length.ble 1000 && (rfromO O (O.pbase a) l (nAdd l.length 1)).length.ble 1000)
              (If (!eqL2 (fromO O (O.pbase a) l) (rfromO O (O.pbase a) l (nAdd l.length 1))) (Value.bool false = Value.bool true ∧ True)
                (If (inU q 18446744073709551616 && inUs 18446744073709551616 l && l.length.ble 1000 && !frB O q (iOf l.length))
                  (If (inU q 18446744073709551616 && inUs 18446744073709551616 l && l.length.ble 1000 && !frB O q (iOf l.length))
                    (If ((fromO O q l).length.ble 1000 && (rfromO O q l (nAdd l.length 1)).length.ble 1000)
                      (If (!eqL2 (fromO O q l) (rfromO O q l (nAdd l.length 1))) (Value.bool false = Value.bool true ∧ True)
                        (If (inU a 18446744073709551616 && inUs 18446744073709551616 l && l.length.ble 1000)
                          (If (inU a 18446744073709551616 && inUs 18446744073709551616 l && l.length.ble 1000)
                            (If (iBeq (O.fsub a (sumO O l)) (O.fsub a (sumO O l)))
                              (If (inU q 18446744073709551616 && inU a 18446744073709551616)
                                (If (inU q 18446744073709551616 && inU a 18446744073709551616)
                                  (If ((bif O.pright q then iBeq (O.pbase a) q else false) == iBeq (O.pbase a) q)
                                    (If (inU a 18446744073709551616 && !prtB n)
                                      (If (inU a 18446744073709551616 && !prtB n)
                                        (If ((partsO O (b8 (O.fadd 0 a)) a n).length.ble 1000 && (partsO O (b8 (O.fadd a 0)) a n).length.ble 1000)
                                          (If (eqL2 (partsO O (b8 (O.fadd 0 a)) a n) (partsO O (b8 (O.fadd a 0)) a n))
                                            (If (inUs 18446744073709551616 l && l.length.ble 1000)
                                              (If (inUs 18446744073709551616 l && l.length.ble 1000)
                                                (If (iBeq (sumO O l) (sumO O l))
                                                  (If (inU a 18446744073709551616 && inU (IntKind.u64.wrap (m 0)) 18446744073709551616)
                                                    (If (inU a 18446744073709551616 && inU (IntKind.u64.wrap (m 0)) 18446744073709551616)
                                                      (Value.bool (iBeq (O.fadd (O.fadd 0 a) (IntKind.u64.wrap (m 0))) (O.fadd a (IntKind.u64.wrap (m 0)))) = Value.bool true ∧ True) False)
                                                    False)
                                                  (Value.bool false = Value.bool true ∧ True))
                                                False)
                                              False)
                                            (Value.bool false = Value.bool true ∧ True))
                                          False)
                                        False)
                                      False)
                                    (Value.bool false = Value.bool true ∧ True))
                                  False)
                                False)
                              (Value.bool false = Value.bool true ∧ True))
                            False)
                          False))
                      False)
                    False)
                  False))
              False)
            False)
          False)
        False)
      False) := by
  have hAm : O.isH (Array.mk (List.map (Value.int IntKind.u8) (tabI m 32))) = true := h_m
  have hw : inU (IntKind.u64.wrap (m 0)) 18446744073709551616 = true := inU_wrap _
  have eA : Array.mk (List.map (Value.int IntKind.u8) (tabI m 32)) = AV m := rfl
  simp only [Sx.app, Sx.nAdd, Sx.nSub, Sx.nMul, Sx.nPow, Sx.nDiv, Sx.nMod, Sx.iAdd, Sx.iSub, Sx.iMul, Sx.iNeg, Sx.iPow, Sx.iOf, Sx.Cont.n, eA]
  refine Sx.if_both (fun h => (by first | rfl | trivial)) (fun h => ?_)
  simp only [Bool.and_eq_true, Bool.or_eq_true, Sx.iLt_t, Sx.iLt_f, Sx.iLe_t, Sx.iLe_f, Sx.iEq_t, Sx.iEq_f, Sx.iBeq_t, Sx.iBeq_f, Sx.iBne_t, Sx.iBne_f, Nat.ble_eq, Nat.beq_eq, Sx.Cont.n] at h
  have hbl : l.length.ble 1000 = true := by rw [Nat.ble_eq]; omega
  have hb1 : (l.length + 1).ble 1000 = true := by rw [Nat.ble_eq]; omega
  have f1 : O.fadd (O.fadd 0 a) (IntKind.u64.wrap (m 0)) = O.fadd a (IntKind.u64.wrap (m 0)) := by
    rw [G.fv _ _ (F.fadd _ _) hw, G.fv 0 a (by decide) h_a, G.fv a _ h_a hw]; omega
  have f2 : ((bif O.pright q then iBeq (O.pbase a) q else false) == iBeq (O.pbase a) q) = true := by
    cases e : O.pright q with
    | true => rw [beq_iff_eq]; rfl
    | false =>
      have : iBeq (O.pbase a) q = false := by
        rw [Sx.iBeq_f]
        intro hc
        have := G.pb a
        rw [hc, e] at this
        cases this
      rw [this]; rfl
  have f5 : O.fadd a 0 = O.fadd 0 a := by rw [G.fv a 0 h_a (by decide), G.fv 0 a (by decide) h_a, Int.add_comm]
  have rf := from_ref pc
  have bs : ∀ z : Int, iBeq z z = true := fun z => by rw [Sx.iBeq_t]
  have lP : (partsO O (b8 (O.fadd 0 a)) a n).length.ble 1000 = true := by
    have hn := prtB_no (n := n) (by cases e : prtB n with
      | true => rw [e] at c3; cases c3
      | false => rfl)
    unfold partsO
    rw [List.length_append, drawsO_len, Nat.ble_eq]
    simp only [List.length_cons, List.length_nil]
    omega
  simp only [h_m, h_a, h_l, h_q, hbl, hb1, c0, c1, c2, c3, hw, f1, f2, f5, rf, bs, eqL2_self, fromO_len, lP, Bool.and_self, Bool.and_true, Bool.true_and, Bool.not_true, If_t, If_f, and_true]
theorem wpc_paTells_7 (O : OO) (Z : OZ) (Y : OY) (a q n : Int) (l : List Int) (m : Nat → Int) (F : FO O) (G : FP O) (pc : ∀ q a b, O.padd (O.padd q (O.pbase a)) (O.pbase b) = O.padd (O.padd q (O.pbase b)) (O.pbase a)) (h_a : inU a 18446744073709551616 = true) (h_l : inUs 18446744073709551616 l = true) (g_l : Nat.ble l.length 9223372036854775807 = true) (h_q : inU q 18446744073709551616 = true) (h_m : O.isH (AV m) = true) (c0 : newB O q n = true) (c1 : (!(frB O (O.pbase a) l.length)) = true) (c2 : (!(frB O q l.length)) = true) (c3 : (!(prtB n)) = true) : wpcI Try.prog (spPT true false false false O Z Y) Try.f3.ntmps [] (bodyOf Try.f3) 0 64 (envA [.v, .ro .u64, .v, .v, .v] [.v (.int .u64 a), .ints l, .v (.int .u64 q), .v (.agg (AV m)), .v (.int .i64 n)] 0) (memA [.v, .ro .u64, .v, .v, .v] [.v (.int .u64 a), .ints l, .v (.int .u64 q), .v (.agg (AV m)), .v (.int .i64 n)] 0) (retG Try.prog Try.f3.results.toList [.v (.bool true)]) :=
  Eq.mpr (by kernel_rfl) (vc_paTells_7 O Z Y a q n l m F G pc h_a h_l g_l h_q h_m c0 c1 c2 c3)
theorem ok_paTells_7 : Sx.SpecOK I0 Try.prog 3 (gspec [.v, .ro .u64, .v, .v, .v] (g_paTells_7 oo (zO oo) (yO oo))) := by
  refine spec_genAI (spPT_ok I0 true false false false oo rfl (zO oo) rfl (yO oo) rfl) (by kernel_rfl) (fun xs => match xs with | [.v (.int .u64 a), .ints l, .v (.int .u64 q), .v (.agg m), .v (.int .i64 n)] => [] | _ => []) Try.func3 (by kernel_rfl) (by kernel_rfl) rfl Try.ntmps3 (by decide) ?_ ?_
  · intro xs p rs h; unfold g_paTells_7 at h; split at h <;> first | (simp only [Option.some.injEq, Prod.mk.injEq] at h; rw [← h.2]; simp) | cases h
  · intro xs rs hl h
    unfold g_paTells_7 at h
    split at h
    · rename_i a l q m n
      simp only [Option.some.injEq, Prod.mk.injEq, Bool.and_eq_true] at h
      obtain ⟨⟨⟨⟨⟨⟨⟨⟨⟨h_a, h_l⟩, g_l⟩, h_q⟩, h_m⟩, c0⟩, c1⟩, c2⟩, c3⟩, rfl⟩ := h
      obtain ⟨m, rfl⟩ := isH_AV h_m
      exact wpc_paTells_7 oo (zO oo) (yO oo) a q n l m (fo_oo oo rfl) fp_oo pc' h_a h_l g_l h_q h_m c0 c1 c2 c3
    · cases h
def g_paTells_8 (O : OO) (Z : OZ) (Y : OY) (xs : List Sx.Arg) : Option (Bool × List Ret) := match xs with
  | [.v (.int .u64 a), .ints l, .v (.int .u64 q), .v (.agg m), .v (.int .i64 n)] => some ((inU a 18446744073709551616) && (inUs 18446744073709551616 l) && (Nat.ble l.length 9223372036854775807) && (inU q 18446744073709551616) && (O.isH m) && ((!(newB O q n))) && (frB O (O.pbase a) l.length) && (frB O q l.length) && (prtB n), [.v (.bool true)])
  | _ => none
set_option maxHeartbeats 4000000 in
theorem vc_paTells_8 (O : OO) (Z : OZ) (Y : OY) (a q n : Int) (l : List Int) (m : Nat → Int) (F : FO O) (G : FP O) (pc : ∀ q a b, O.padd (O.padd q (O.pbase a)) (O.pbase b) = O.padd (O.padd q (O.pbase b)) (O.pbase a)) (h_a : inU a 18446744073709551616 = true) (h_l : inUs 18446744073709551616 l = true) (g_l : Nat.ble l.length 9223372036854775807 = true) (h_q : inU q 18446744073709551616 = true) (h_m : O.isH (AV m) = true) (c0 : (!(newB O q n)) = true) (c1 : frB O (O.pbase a) l.length = true) (c2 : frB O q l.length = true) (c3 : prtB n = true) :
  If (iLt 20 (iOf (Cont.ints IntKind.u64 l).n)) (Value.bool true = Value.bool true ∧ True)
    (If (inU q 18446744073709551616 && O.isH (Array.mk (List.map (Value.int IntKind.u8) (tabI m 32))) && !newB O q n)
      (If (inU q 18446744073709551616 && O.isH (Array.mk (List.map (Value.int IntKind.u8) (tabI m 32))) && !newB O q n)
        (If
          ((fromO O q (blindsO O (Array.mk (List.map (Value.int IntKind.u8) (tabI m 32))) n)).length.ble 1000 &&
            (rfromO O q (blindsO O (Array.mk (List.map (Value.int IntKind.u8) (tabI m 32))) n) (nAdd (blindsO O (Array.mk (List.map (Value.int IntKind.u8) (tabI m 32))) n).length 1)).length.ble 1000)
          (If
            (!eqL2 (fromO O q (blindsO O (Array.mk (List.map (Value.int IntKind.u8) (tabI m 32))) n))
                (rfromO O q (blindsO O (Array.mk (List.map (Value.int IntKind.u8) (tabI m 32))) n) (nAdd (blindsO O (Array.mk (List.map (Value.int IntKind.u8) (tabI m 32))) n).length 1)))
            (Value.bool false = Value.bool true ∧ True)
            (If ((blindsO O (Array.mk (List.map (Value.int IntKind.u8) (tabI m 32))) n).length.ble 1000 && (blindsO O (Array.mk (List.map (Value.int IntKind.u8) (tabI m 32))) n).length.ble 1000)
              (If (!eqL2 (blindsO O (Array.mk (List.map (Value.int IntKind.u8) (tabI m 32))) n) (blindsO O (Array.mk (List.map (Value.int IntKind.u8) (tabI m 32))) n))
                (Value.bool false = Value.bool true ∧ True)
                (If (inU a 18446744073709551616 && inUs 18446744073709551616 l && l.length.ble 1000 && frB O (O.pbase a) (iOf l.length))
                  (If (inU a 18446744073709551616 && inUs 18446744073709551616 l && l.length.ble 1000 && frB O (O.pbase a) (iOf l.length))
                    (If (inU q 18446744073709551616 && inUs 18446744073709551616 l && l.length.ble 1000 && frB O q (iOf l.length))
                      (If (inU q 18446744073709551616 && inUs 18446744073709551616 l && l.length.ble 1000 && frB O q (iOf l.length))
                        (If (inU a 18446744073709551616 && inUs 18446744073709551616 l && l.length.ble 1000)
                          (If (inU a 18446744073709551616 && inUs 18446744073709551616 l && l.length.ble 1000)
                            (If (iBeq (O.fsub a (sumO O l)) (O.fsub a (sumO O l)))
                              (If (inU q 18446744073709551616 && inU a 18446744073709551616)
                                (If (inU q 18446744073709551616 && inU a 18446744073709551616)
                                  (If ((bif O.pright q then iBeq (O.pbase a) q else false) == iBeq (O.pbase a) q)
                                    (If (inU a 18446744073709551616 && prtB n)
                                      (If (inU a 18446744073709551616 && prtB n)
                                        (If (inUs 18446744073709551616 l && l.length.ble 1000)
                                          (If (inUs 18446744073709551616 l && l.length.ble 1000)
                                            (If (iBeq (sumO O l) (sumO O l))
                                              (If (inU a 18446744073709551616 && inU (IntKind.u64.wrap (m 0)) 18446744073709551616)
                                                (If (inU a 18446744073709551616 && inU (IntKind.u64.wrap (m 0)) 18446744073709551616)
                                                  (Value.bool (iBeq (O.fadd (O.fadd 0 a) (IntKind.u64.wrap (m 0))) (O.fadd a (IntKind.u64.wrap (m 0)))) = Value.bool true ∧ True) False)
                                                False)
                                              (Value.bool false = Value.bool true ∧ True))
                                            False)
                                          False)
                                        False)
                                      False)
                                    (Value.bool false = Value.bool true ∧ True))
                                  False)
                                False)
                              (Value.bool false = Value.bool true ∧ True))
                            False)
                          False)
                        False)
                      False)
                    False)
                  False))
              False))
          False)
        False)
      False) := by
  have hAm : O.isH (Array.mk (List.map (Value.int IntKind.u8) (tabI m 32))) = true := h_m
  have hw : inU (IntKind.u64.wrap (m 0)) 18446744073709551616 = true := inU_wrap _
  have eA : Array.mk (List.map (Value.int IntKind.u8) (tabI m 32)) = AV m := rfl
  simp only [Sx.app, Sx.nAdd, Sx.nSub, Sx.nMul, Sx.nPow, Sx.nDiv, Sx.nMod, Sx.iAdd, Sx.iSub, Sx.iMul, Sx.iNeg, Sx.iPow, Sx.iOf, Sx.Cont.n, eA]
  refine Sx.if_both (fun h => (by first | rfl | trivial)) (fun h => ?_)
  simp only [Bool.and_eq_true, Bool.or_eq_true, Sx.iLt_t, Sx.iLt_f, Sx.iLe_t, Sx.iLe_f, Sx.iEq_t, Sx.iEq_f, Sx.iBeq_t, Sx.iBeq_f, Sx.iBne_t, Sx.iBne_f, Nat.ble_eq, Nat.beq_eq, Sx.Cont.n] at h
  have hbl : l.length.ble 1000 = true := by rw [Nat.ble_eq]; omega
  have hb1 : (l.length + 1).ble 1000 = true := by rw [Nat.ble_eq]; omega
  have f1 : O.fadd (O.fadd 0 a) (IntKind.u64.wrap (m 0)) = O.fadd a (IntKind.u64.wrap (m 0)) := by
    rw [G.fv _ _ (F.fadd _ _) hw, G.fv 0 a (by decide) h_a, G.fv a _ h_a hw]; omega
  have f2 : ((bif O.pright q then iBeq (O.pbase a) q else false) == iBeq (O.pbase a) q) = true := by
    cases e : O.pright q with
    | true => rw [beq_iff_eq]; rfl
    | false =>
      have : iBeq (O.pbase a) q = false := by
        rw [Sx.iBeq_f]
        intro hc
        have := G.pb a
        rw [hc, e] at this
        cases this
      rw [this]; rfl
  have f5 : O.fadd a 0 = O.fadd 0 a := by rw [G.fv a 0 h_a (by decide), G.fv 0 a (by decide) h_a, Int.add_comm]
  have rf := from_ref pc
  have bs : ∀ z : Int, iBeq z z = true := fun z => by rw [Sx.iBeq_t]
  have lB : (blindsO O (AV m) n).length.ble 1000 = true ∧ ((blindsO O (AV m) n).length + 1).ble 1000 = true := by
    have hn := newB_no (O := O) (q := q) (n := n) (by cases e : newB O q n with
      | true => rw [e] at c0; cases c0
      | false => rfl)
    have el : (blindsO O (AV m) n).length = (n - 1).toNat := drawsO_len _ _ _ _
    rw [Nat.ble_eq, Nat.ble_eq, el]
    omega
  simp only [h_m, h_a, h_l, h_q, hbl, hb1, c0, c1, c2, c3, hw, f1, f2, f5, rf, bs, eqL2_self, fromO_len, lB.1, lB.2, Bool.and_self, Bool.and_true, Bool.true_and, Bool.not_true, If_t, If_f, and_true]
theorem wpc_paTells_8 (O : OO) (Z : OZ) (Y : OY) (a q n : Int) (l : List Int) (m : Nat → Int) (F : FO O) (G : FP O) (pc : ∀ q a b, O.padd (O.padd q (O.pbase a)) (O.pbase b) = O.padd (O.padd q (O.pbase b)) (O.pbase a)) (h_a : inU a 18446744073709551616 = true) (h_l : inUs 18446744073709551616 l = true) (g_l : Nat.ble l.length 9223372036854775807 = true) (h_q : inU q 18446744073709551616 = true) (h_m : O.isH (AV m) = true) (c0 : (!(newB O q n)) = true) (c1 : frB O (O.pbase a) l.length = true) (c2 : frB O q l.length = true) (c3 : prtB n = true) : wpcI Try.prog (spPT false true true true O Z Y) Try.f3.ntmps [] (bodyOf Try.f3) 0 64 (envA [.v, .ro .u64, .v, .v, .v] [.v (.int .u64 a), .ints l, .v (.int .u64 q), .v (.agg (AV m)), .v (.int .i64 n)] 0) (memA [.v, .ro .u64, .v, .v, .v] [.v (.int .u64 a), .ints l, .v (.int .u64 q), .v (.agg (AV m)), .v (.int .i64 n)] 0) (retG Try.prog Try.f3.results.toList [.v (.bool true)]) :=
  Eq.mpr (by kernel_rfl) (vc_paTells_8 O Z Y a q n l m F G pc h_a h_l g_l h_q h_m c0 c1 c2 c3)
theorem ok_paTells_8 : Sx.SpecOK I0 Try.prog 3 (gspec [.v, .ro .u64, .v, .v, .v] (g_paTells_8 oo (zO oo) (yO oo))) := by
  refine spec_genAI (spPT_ok I0 false true true true oo rfl (zO oo) rfl (yO oo) rfl) (by kernel_rfl) (fun xs => match xs with | [.v (.int .u64 a), .ints l, .v (.int .u64 q), .v (.agg m), .v (.int .i64 n)] => [] | _ => []) Try.func3 (by kernel_rfl) (by kernel_rfl) rfl Try.ntmps3 (by decide) ?_ ?_
  · intro xs p rs h; unfold g_paTells_8 at h; split at h <;> first | (simp only [Option.some.injEq, Prod.mk.injEq] at h; rw [← h.2]; simp) | cases h
  · intro xs rs hl h
    unfold g_paTells_8 at h
    split at h
    · rename_i a l q m n
      simp only [Option.some.injEq, Prod.mk.injEq, Bool.and_eq_true] at h
      obtain ⟨⟨⟨⟨⟨⟨⟨⟨⟨h_a, h_l⟩, g_l⟩, h_q⟩, h_m⟩, c0⟩, c1⟩, c2⟩, c3⟩, rfl⟩ := h
      obtain ⟨m, rfl⟩ := isH_AV h_m
      exact wpc_paTells_8 oo (zO oo) (yO oo) a q n l m (fo_oo oo rfl) fp_oo pc' h_a h_l g_l h_q h_m c0 c1 c2 c3
    · cases h
def g_paTells_9 (O : OO) (Z : OZ) (Y : OY) (xs : List Sx.Arg) : Option (Bool × List Ret) := match xs with
  | [.v (.int .u64 a), .ints l, .v (.int .u64 q), .v (.agg m), .v (.int .i64 n)] => some ((inU a 18446744073709551616) && (inUs 18446744073709551616 l) && (Nat.ble l.length 9223372036854775807) && (inU q 18446744073709551616) && (O.isH m) && ((!(newB O q n))) && (frB O (O.pbase a) l.length) && (frB O q l.length) && ((!(prtB n))), [.v (.bool true)])
  | _ => none
set_option maxHeartbeats 4000000 in
theorem vc_paTells_9 (O : OO) (Z : OZ) (Y : OY) (a q n : Int) (l : List Int) (m : Nat → Int) (F : FO O) (G : FP O) (pc : ∀ q a b, O.padd (O.padd q (O.pbase a)) (O.pbase b) = O.padd (O.padd q (O.pbase b)) (O.pbase a)) (h_a : inU a 18446744073709551616 = true) (h_l : inUs 18446744073709551616 l = true) (g_l : Nat.ble l.length 9223372036854775807 = true) (h_q : inU q 18446744073709551616 = true) (h_m : O.isH (AV m) = true) (c0 : (!(newB O q n)) = true) (c1 : frB O (O.pbase a) l.length = true) (c2 : frB O q l.length = true) (c3 : (!(prtB n)) = true) :
  If (iLt 20 (iOf (Cont.ints IntKind.u64 l).n)) (Value.bool true = Value.bool true ∧ True)
    (If (inU q 18446744073709551616 && O.isH (Array.mk (List.map (Value.int IntKind.u8) (tabI m 32))) && !newB O q n)
      (If (inU q 18446744073709551616 && O.isH (Array.mk (List.map (Value.int IntKind.u8) (tabI m 32))) && !newB O q n)
        (If
          ((fromO O q (blindsO O (Array.mk (List.map (Value.int IntKind.u8) (tabI m 32))) n)).length.ble 1000 &&
            (rfromO O q (blindsO O (Array.mk (List.map (Value.int IntKind.u8) (tabI m 32))) n) (nAdd (blindsO O (Array.mk (List.map (Value.int IntKind.u8) (tabI m 32))) n).length 1)).length.ble 1000)
          (If
            (!eqL2 (fromO O q (blindsO O (Array.mk (List.map (Value.int IntKind.u8) (tabI m 32))) n))
                (rfromO O q (blindsO O (Array.mk (List.map (Value.int IntKind.u8) (tabI m 32))) n) (nAdd (blindsO O (Array.mk (List.map (Value.int IntKind.u8) (tabI m 32))) n).length 1)))
            (Value.bool false = Value.bool true ∧ True)
            (If ((blindsO O (Array.mk (List.map (Value.int IntKind.u8) (tabI m 32))) n).length.ble 1000 && (blindsO O (Array.mk (List.map (Value.int IntKind.u8) (tabI m 32))) n).length.ble 1000)
              (If (!eqL2 (blindsO O (Array.mk (List.map (Value.int IntKind.u8) (tabI m 32))) n) (blindsO O (Array.mk (List.map (Value.int IntKind.u8) (tabI m 32))) n))
                (Value.bool false = Value.bool true ∧ True)
                (If (inU a 18446744073709551616 && inUs 18446744073709551616 l && l.length.ble 1000 && frB O (O.pbase a) (iOf l.length))
                  (If (inU a 18446744073709551616 && inUs 18446744073709551616 l && l.length.ble 1000 && frB O (O.pbase a) (iOf l.length))
                    (If (inU q 18446744073709551616 && inUs 18446744073709551616 l && l.length.ble 1000 && frB O q (iOf l.length))
                      (If (inU q 18446744073709551616 && inUs 18446744073709551616 l && l.length.ble 1000 && frB O q (iOf l.length))
                        (If (inU a 18446744073709551616 && inUs 18446744073709551616 l && l.length.ble 1000)
                          (If (inU a 18446744073709551616 && inUs 18446744073709551616 l && l.length.ble 1000)
                            (If (iBeq (O.fsub a (sumO O l)) (O.fsub a (sumO O l)))
                              (If (inU q 18446744073709551616 && inU a 18446744073709551616)
                                (If (inU q 18446744073709551616 && inU a 18446744073709551616)
                                  (If ((bif O.pright q then iBeq (O.pbase a) q else false) == iBeq (O.pbase a) q)
                                    (If (inU a 18446744073709551616 && !prtB n)
                                      (If (inU a 18446744073709551616 && !prtB n)
                                        (If ((partsO O (b8 (O.fadd 0 a)) a n).length.ble 1000 && (partsO O (b8 (O.fadd a 0)) a n).length.ble 1000)
                                          (If (eqL2 (partsO O (b8 (O.fadd 0 a)) a n) (partsO O (b8 (O.fadd a 0)) a n))
                                            (If (inUs 18446744073709551616 l && l.length.ble 1000)
                                              (If (inUs 18446744073709551616 l && l.length.ble 1000)
                                                (If (iBeq (sumO O l) (sumO O l))
                                                  (If (inU a 18446744073709551616 && inU (IntKind.u64.wrap (m 0)) 18446744073709551616)
                                                    (If (inU a 18446744073709551616 && inU (IntKind.u64.wrap (m 0)) 18446744073709551616)
                                                      (Value.bool (iBeq (O.fadd (O.fadd 0 a) (IntKind.u64.wrap (m 0))) (O.fadd a (IntKind.u64.wrap (m 0)))) = Value.bool true ∧ True) False)
                                                    False)
                                                  (Value.bool false = Value.bool true ∧ True))
                                                False)
                                              False)
                                            (Value.bool false = Value.bool true ∧ True))
                                          False)
                                        False)
                                      False)
                                    (Value.bool false = Value.bool true ∧ True))
                                  False)
                                False)
                              (Value.bool false = Value.bool true ∧ True))
                            False)
                          False)
                        False)
                      False)
                    False)
                  False))
              False))
          False)
        False)
      False) := by
  have hAm : O.isH (Array.mk (List.map (Value.int IntKind.u8) (tabI m 32))) = true := h_m
  have hw : inU (IntKind.u64.wrap (m 0)) 18446744073709551616 = true := inU_wrap _
  have eA : Array.mk (List.map (Value.int IntKind.u8) (tabI m 32)) = AV m := rfl
  simp only [Sx.app, Sx.nAdd, Sx.nSub, Sx.nMul, Sx.nPow, Sx.nDiv, Sx.nMod, Sx.iAdd, Sx.iSub, Sx.iMul, Sx.iNeg, Sx.iPow, Sx.iOf, Sx.Cont.n, eA]
  refine Sx.if_both (fun h => (by first | rfl | trivial)) (fun h => ?_)
  simp only [Bool.and_eq_true, Bool.or_eq_true, Sx.iLt_t, Sx.iLt_f, Sx.iLe_t, Sx.iLe_f, Sx.iEq_t, Sx.iEq_f, Sx.iBeq_t, Sx.iBeq_f, Sx.iBne_t, Sx.iBne_f, Nat.ble_eq, Nat.beq_eq, Sx.Cont.n] at h
  have hbl : l.length.ble 1000 = true := by rw [Nat.ble_eq]; omega
  have hb1 : (l.length + 1).ble 1000 = true := by rw [Nat.ble_eq]; omega
  have f1 : O.fadd (O.fadd 0 a) (IntKind.u64.wrap (m 0)) = O.fadd a (IntKind.u64.wrap (m 0)) := by
    rw [G.fv _ _ (F.fadd _ _) hw, G.fv 0 a (by decide) h_a, G.fv a _ h_a hw]; omega
  have f2 : ((bif O.pright q then iBeq (O.pbase a) q else false) == iBeq (O.pbase a) q) = true := by
    cases e : O.pright q with
    | true => rw [beq_iff_eq]; rfl
    | false =>
      have : iBeq (O.pbase a) q = false := by
        rw [Sx.iBeq_f]
        intro hc
        have := G.pb a
        rw [hc, e] at this
        cases this
      rw [this]; rfl
  have f5 : O.fadd a 0 = O.fadd 0 a := by rw [G.fv a 0 h_a (by decide), G.fv 0 a (by decide) h_a, Int.add_comm]
  have rf := from_ref pc
  have bs : ∀ z : Int, iBeq z z = true := fun z => by rw [Sx.iBeq_t]
  have lB : (blindsO O (AV m) n).length.ble 1000 = true ∧ ((blindsO O (AV m) n).length + 1).ble 1000 = true := by
    have hn := newB_no (O := O) (q := q) (n := n) (by cases e : newB O q n with
      | true => rw [e] at c0; cases c0
      | false => rfl)
    have el : (blindsO O (AV m) n).length = (n - 1).toNat := drawsO_len _ _ _ _
    rw [Nat.ble_eq, Nat.ble_eq, el]
    omega
  have lP : (partsO O (b8 (O.fadd 0 a)) a n).length.ble 1000 = true := by
    have hn := prtB_no (n := n) (by cases e : prtB n with
      | true => rw [e] at c3; cases c3
      | false => rfl)
    unfold partsO
    rw [List.length_append, drawsO_len, Nat.ble_eq]
    simp only [List.length_cons, List.length_nil]
    omega
  simp only [h_m, h_a, h_l, h_q, hbl, hb1, c0, c1, c2, c3, hw, f1, f2, f5, rf, bs, eqL2_self, fromO_len, lB.1, lB.2, lP, Bool.and_self, Bool.and_true, Bool.true_and, Bool.not_true, If_t, If_f, and_true]
theorem wpc_paTells_9 (O : OO) (Z : OZ) (Y : OY) (a q n : Int) (l : List Int) (m : Nat → Int) (F : FO O) (G : FP O) (pc : ∀ q a b, O.padd (O.padd q (O.pbase a)) (O.pbase b) = O.padd (O.padd q (O.pbase b)) (O.pbase a)) (h_a : inU a 18446744073709551616 = true) (h_l : inUs 18446744073709551616 l = true) (g_l : Nat.ble l.length 9223372036854775807 = true) (h_q : inU q 18446744073709551616 = true) (h_m : O.isH (AV m) = true) (c0 : (!(newB O q n)) = true) (c1 : frB O (O.pbase a) l.length = true) (c2 : frB O q l.length = true) (c3 : (!(prtB n)) = true) : wpcI Try.prog (spPT false true true false O Z Y) Try.f3.ntmps [] (bodyOf Try.f3) 0 64 (envA [.v, .ro .u64, .v, .v, .v] [.v (.int .u64 a), .ints l, .v (.int .u64 q), .v (.agg (AV m)), .v (.int .i64 n)] 0) (memA [.v, .ro .u64, .v, .v, .v] [.v (.int .u64 a), .ints l, .v (.int .u64 q), .v (.agg (AV m)), .v (.int .i64 n)] 0) (retG Try.prog Try.f3.results.toList [.v (.bool true)]) :=
  Eq.mpr (by kernel_rfl) (vc_paTells_9 O Z Y a q n l m F G pc h_a h_l g_l h_q h_m c0 c1 c2 c3)
theorem ok_paTells_9 : Sx.SpecOK I0 Try.prog 3 (gspec [.v, .ro .u64, .v, .v, .v] (g_paTells_9 oo (zO oo) (yO oo))) := by
  refine spec_genAI (spPT_ok I0 false true true false oo rfl (zO oo) rfl (yO oo) rfl) (by kernel_rfl) (fun xs => match xs with | [.v (.int .u64 a), .ints l, .v (.int .u64 q), .v (.agg m), .v (.int .i64 n)] => [] | _ => []) Try.func3 (by kernel_rfl) (by kernel_rfl) rfl Try.ntmps3 (by decide) ?_ ?_
  · intro xs p rs h; unfold g_paTells_9 at h; split at h <;> first | (simp only [Option.some.injEq, Prod.mk.injEq] at h; rw [← h.2]; simp) | cases h
  · intro xs rs hl h
    unfold g_paTells_9 at h
    split at h
    · rename_i a l q m n
      simp only [Option.some.injEq, Prod.mk.injEq, Bool.and_eq_true] at h
      obtain ⟨⟨⟨⟨⟨⟨⟨⟨⟨h_a, h_l⟩, g_l⟩, h_q⟩, h_m⟩, c0⟩, c1⟩, c2⟩, c3⟩, rfl⟩ := h
      obtain ⟨m, rfl⟩ := isH_AV h_m
      exact wpc_paTells_9 oo (zO oo) (yO oo) a q n l m (fo_oo oo rfl) fp_oo pc' h_a h_l g_l h_q h_m c0 c1 c2 c3
    · cases h
def g_paTells_10 (O : OO) (Z : OZ) (Y : OY) (xs : List Sx.Arg) : Option (Bool × List Ret) := match xs with
  | [.v (.int .u64 a), .ints l, .v (.int .u64 q), .v (.agg m), .v (.int .i64 n)] => some ((inU a 18446744073709551616) && (inUs 18446744073709551616 l) && (Nat.ble l.length 9223372036854775807) && (inU q 18446744073709551616) && (O.isH m) && ((!(newB O q n))) && (frB O (O.pbase a) l.length) && ((!(frB O q l.length))) && (prtB n), [.v (.bool true)])
  | _ => none
set_option maxHeartbeats 4000000 in
theorem vc_paTells_10 (O : OO) (Z : OZ) (Y : OY) (a q n : Int) (l : List Int) (m : Nat → Int) (F : FO O) (G : FP O) (pc : ∀ q a b, O.padd (O.padd q (O.pbase a)) (O.pbase b) = O.padd (O.padd q (O.pbase b)) (O.pbase a)) (h_a : inU a 18446744073709551616 = true) (h_l : inUs 18446744073709551616 l = true) (g_l : Nat.ble l.length 9223372036854775807 = true) (h_q : inU q 18446744073709551616 = true) (h_m : O.isH (AV m) = true) (c0 : (!(newB O q n)) = true) (c1 : frB O (O.pbase a) l.length = true) (c2 : (!(frB O q l.length)) = true) (c3 : prtB n = true) :
  If (iLt 20 (iOf (Cont.ints IntKind.u64 l).n)) (Value.bool true = Value.bool true ∧ True)
    (If (inU q 18446744073709551616 && O.isH (Array.mk (List.map (Value.int IntKind.u8) (tabI m 32))) && !newB O q n)
      (If (inU q 18446744073709551616 && O.isH (Array.mk (List.map (Value.int IntKind.u8) (tabI m 32))) && !newB O q n)
        (If
          ((fromO O q (blindsO O (Array.mk (List.map (Value.int IntKind.u8) (tabI m 32))) n)).length.ble 1000 &&
            (rfromO O q (blindsO O (Array.mk (List.map (Value.int IntKind.u8) (tabI m 32))) n) (nAdd (blindsO O (Array.mk (List.map (Value.int IntKind.u8) (tabI m 32))) n).length 1)).length.ble 1000)
          (If
            (!eqL2 (fromO O q (blindsO O (Array.mk (List.map (Value.int IntKind.u8) (tabI m 32))) n))
                (rfromO O q (blindsO O (Array.mk (List.map (Value.int IntKind.u8) (tabI m 32))) n) (nAdd (blindsO O (Array.mk (List.map (Value.int IntKind.u8) (tabI m 32))) n).length 1)))
            (Value.bool false = Value.bool true ∧ True)
            (If ((blindsO O (Array.mk (List.map (Value.int IntKind.u8) (tabI m 32))) n).length.ble 1000 && (blindsO O (Array.mk (List.map (Value.int IntKind.u8) (tabI m 32))) n).length.ble 1000)
              (If (!eqL2 (blindsO O (Array.mk (List.map (Value.int IntKind.u8) (tabI m 32))) n) (blindsO O (Array.mk (List.map (Value.int IntKind.u8) (tabI m 32))) n))
                (Value.bool false = Value.bool true ∧ True)
                (If (inU a 18446744073709551616 && inUs 18446744073709551616 l && l.length.ble 1000 && frB O (O.pbase a) (iOf l.length))
                  (If (inU a 18446744073709551616 && inUs 18446744073709551616 l && l.length.ble 1000 && frB O (O.pbase a) (iOf l.length))
                    (If (inU q 18446744073709551616 && inUs 18446744073709551616 l && l.length.ble 1000 && !frB O q (iOf l.length))
                      (If (inU q 18446744073709551616 && inUs 18446744073709551616 l && l.length.ble 1000 && !frB O q (iOf l.length))
                        (If ((fromO O q l).length.ble 1000 && (rfromO O q l (nAdd l.length 1)).length.ble 1000)
                          (If (!eqL2 (fromO O q l) (rfromO O q l (nAdd l.length 1))) (Value.bool false = Value.bool true ∧ True)
                            (If (inU a 18446744073709551616 && inUs 18446744073709551616 l && l.length.ble 1000)
                              (If (inU a 18446744073709551616 && inUs 18446744073709551616 l && l.length.ble 1000)
                                (If (iBeq (O.fsub a (sumO O l)) (O.fsub a (sumO O l)))
                                  (If (inU q 18446744073709551616 && inU a 18446744073709551616)
                                    (If (inU q 18446744073709551616 && inU a 18446744073709551616)
                                      (If ((bif O.pright q then iBeq (O.pbase a) q else false) == iBeq (O.pbase a) q)
                                        (If (inU a 18446744073709551616 && prtB n)
                                          (If (inU a 18446744073709551616 && prtB n)
                                            (If (inUs 18446744073709551616 l && l.length.ble 1000)
                                              (If (inUs 18446744073709551616 l && l.length.ble 1000)
                                                (If (iBeq (sumO O l) (sumO O l))
                                                  (If (inU a 18446744073709551616 && inU (IntKind.u64.wrap (m 0)) 18446744073709551616)
                                                    (If (inU a 18446744073709551616 && inU (IntKind.u64.wrap (m 0)) 18446744073709551616)
                                                      (Value.bool (iBeq (O.fadd (O.fadd 0 a) (IntKind.u64.wrap (m 0))) (O.fadd a (IntKind.u64.wrap (m 0)))) = Value.bool true ∧ True) False)
                                                    False)
                                                  (Value.bool false = Value.bool true ∧ True))
                                                False)
                                              False)
                                            False)
                                          False)
                                        (Value.bool false = Value.bool true ∧ True))
                                      False)
                                    False)
                                  (Value.bool false = Value.bool true ∧ True))
                                False)
                              False))
                          False)
                        False)
                      False)
                    False)
                  False))
              False))
          False)
        False)
      False) := by
  have hAm : O.isH (Array.mk (List.map (Value.int IntKind.u8) (tabI m 32))) = true := h_m
  have hw : inU (IntKind.u64.wrap (m 0)) 18446744073709551616 = true := inU_wrap _
  have eA : Array.mk (List.map (Value.int IntKind.u8) (tabI m 32)) = AV m := rfl
  simp only [Sx.app, Sx.nAdd, Sx.nSub, Sx.nMul, Sx.nPow, Sx.nDiv, Sx.nMod, Sx.iAdd, Sx.iSub, Sx.iMul, Sx.iNeg, Sx.iPow, Sx.iOf, Sx.Cont.n, eA]
  refine Sx.if_both (fun h => (by first | rfl | trivial)) (fun h => ?_)
  simp only [Bool.and_eq_true, Bool.or_eq_true, Sx.iLt_t, Sx.iLt_f, Sx.iLe_t, Sx.iLe_f, Sx.iEq_t, Sx.iEq_f, Sx.iBeq_t, Sx.iBeq_f, Sx.iBne_t, Sx.iBne_f, Nat.ble_eq, Nat.beq_eq, Sx.Cont.n] at h
  have hbl : l.length.ble 1000 = true := by rw [Nat.ble_eq]; omega
  have hb1 : (l.length + 1).ble 1000 = true := by rw [Nat.ble_eq]; omega
  have f1 : O.fadd (O.fadd 0 a) (IntKind.u64.wrap (m 0)) = O.fadd a (IntKind.u64.wrap (m 0)) := by
    rw [G.fv _ _ (F.fadd _ _) hw, G.fv 0 a (by decide) h_a, G.fv a _ h_a hw]; omega
  have f2 : ((bif O.pright q then iBeq (O.pbase a) q else false) == iBeq (O.pbase a) q) = true := by
    cases e : O.pright q with
    | true => rw [beq_iff_eq]; rfl
    | false =>
      have : iBeq (O.pbase a) q = false := by
        rw [Sx.iBeq_f]
        intro hc
        have := G.pb a
        rw [hc, e] at this
        cases this
      rw [this]; rfl
  have f5 : O.fadd a 0 = O.fadd 0 a := by rw [G.fv a 0 h_a (by decide), G.fv 0 a (by decide) h_a, Int.add_comm]
  have rf := from_ref pc
  have bs : ∀ z : Int, iBeq z z = true := fun z => by rw [Sx.iBeq_t]
  have lB : (blindsO O (AV m) n).length.ble 1000 = true ∧ ((blindsO O (AV m) n).length + 1).ble 1000 = true := by
    have hn := newB_no (O := O) (q := q) (n := n) (by cases e : newB O q n with
      | true => rw [e] at c0; cases c0
      | false => rfl)
    have el : (blindsO O (AV m) n).length = (n - 1).toNat := drawsO_len _ _ _ _
    rw [Nat.ble_eq, Nat.ble_eq, el]
    omega
  simp only [h_m, h_a, h_l, h_q, hbl, hb1, c0, c1, c2, c3, hw, f1, f2, f5, rf, bs, eqL2_self, fromO_len, lB.1, lB.2, Bool.and_self, Bool.and_true, Bool.true_and, Bool.not_true, If_t, If_f, and_true]
theorem wpc_paTells_10 (O : OO) (Z : OZ) (Y : OY) (a q n : Int) (l : List Int) (m : Nat → Int) (F : FO O) (G : FP O) (pc : ∀ q a b, O.padd (O.padd q (O.pbase a)) (O.pbase b) = O.padd (O.padd q (O.pbase b)) (O.pbase a)) (h_a : inU a 18446744073709551616 = true) (h_l : inUs 18446744073709551616 l = true) (g_l : Nat.ble l.length 9223372036854775807 = true) (h_q : inU q 18446744073709551616 = true) (h_m : O.isH (AV m) = true) (c0 : (!(newB O q n)) = true) (c1 : frB O (O.pbase a) l.length = true) (c2 : (!(frB O q l.length)) = true) (c3 : prtB n = true) : wpcI Try.prog (spPT false true false true O Z Y) Try.f3.ntmps [] (bodyOf Try.f3) 0 64 (envA [.v, .ro .u64, .v, .v, .v] [.v (.int .u64 a), .ints l, .v (.int .u64 q), .v (.agg (AV m)), .v (.int .i64 n)] 0) (memA [.v, .ro .u64, .v, .v, .v] [.v (.int .u64 a), .ints l, .v (.int .u64 q), .v (.agg (AV m)), .v (.int .i64 n)] 0) (retG Try.prog Try.f3.results.toList [.v (.bool true)]) :=
  Eq.mpr (by kernel_rfl) (vc_paTells_10 O Z Y a q n l m F G pc h_a h_l g_l h_q h_m c0 c1 c2 c3)
theorem ok_paTells_10 : Sx.SpecOK I0 Try.prog 3 (gspec [.v, .ro .u64, .v, .v, .v] (g_paTells_10 oo (zO oo) (yO oo))) := by
  refine spec_genAI (spPT_ok I0 false true false true oo rfl (zO oo) rfl (yO oo) rfl) (by kernel_rfl) (fun xs => match xs with | [.v (.int .u64 a), .ints l, .v (.int .u64 q), .v (.agg m), .v (.int .i64 n)] => [] | _ => []) Try.func3 (by kernel_rfl) (by kernel_rfl) rfl Try.ntmps3 (by decide) ?_ ?_
  · intro xs p rs h; unfold g_paTells_10 at h; split at h <;> first | (simp only [Option.some.injEq, Prod.mk.injEq] at h; rw [← h.2]; simp) | cases h
  · intro xs rs hl h
    unfold g_paTells_10 at h
    split at h
    · rename_i a l q m n
      simp only [Option.some.injEq, Prod.mk.injEq, Bool.and_eq_true] at h
      obtain ⟨⟨⟨⟨⟨⟨⟨⟨⟨h_a, h_l⟩, g_l⟩, h_q⟩, h_m⟩, c0⟩, c1⟩, c2⟩, c3⟩, rfl⟩ := h
      obtain ⟨m, rfl⟩ := isH_AV h_m
      exact wpc_paTells_10 oo (zO oo) (yO oo) a q n l m (fo_oo oo rfl) fp_oo pc' h_a h_l g_l h_q h_m c0 c1 c2 c3
    · cases h
def g_paTells_11 (O : OO) (Z : OZ) (Y : OY) (xs : List Sx.Arg) : Option (Bool × List Ret) := match xs with
  | [.v (.int .u64 a), .ints l, .v (.int .u64 q), .v (.agg m), .v (.int .i64 n)] => some ((inU a 18446744073709551616) && (inUs 18446744073709551616 l) && (Nat.ble l.length 9223372036854775807) && (inU q 18446744073709551616) && (O.isH m) && ((!(newB O q n))) && (frB O (O.pbase a) l.length) && ((!(frB O q l.length))) && ((!(prtB n))), [.v (.bool true)])
  | _ => none
set_option maxHeartbeats 4000000 in
theorem vc_paTells_11 (O : OO) (Z : OZ) (Y : OY) (a q n : Int) (l : List Int) (m : Nat → Int) (F : FO O) (G : FP O) (pc : ∀ q a b, O.padd (O.padd q (O.pbase a)) (O.pbase b) = O.padd (O.padd q (O.pbase b)) (O.pbase a)) (h_a : inU a 18446744073709551616 = true) (h_l : inUs 18446744073709551616 l = true) (g_l : Nat.ble l.length 9223372036854775807 = true) (h_q : inU q 18446744073709551616 = true) (h_m : O.isH (AV m) = true) (c0 : (!(newB O q n)) = true) (c1 : frB O (O.pbase a) l.length = true) (c2 : (!(frB O q l.length)) = true) (c3 : (!(prtB n)) = true) :
  If (iLt 20 (iOf (Cont.ints IntKind.u64 l).n)) (Value.bool true = Value.bool true ∧ True)
    (If (inU q 18446744073709551616 && O.isH (Array.mk (List.map (Value.int IntKind.u8) (tabI m 32))) && !newB O q n)
      (If (inU q 18446744073709551616 && O.isH (Array.mk (List.map (Value.int IntKind.u8) (tabI m 32))) && !newB O q n)
        (If
          ((fromO O q (blindsO O (Array.mk (List.map (Value.int IntKind.u8) (tabI m 32))) n)).length.ble 1000 &&
            (rfromO O q (blindsO O (Array.mk (List.map (Value.int IntKind.u8) (tabI m 32))) n) (nAdd (blindsO O (Array.mk (List.map (Value.int IntKind.u8) (tabI m 32))) n).length 1)).length.ble 1000)
          (If
            (!eqL2 (fromO O q (blindsO O (Array.mk (List.map (Value.int IntKind.u8) (tabI m 32))) n))
                (rfromO O q (blindsO O (Array.mk (List.map (Value.int IntKind.u8) (tabI m 32))) n) (nAdd (blindsO O (Array.mk (List.map (Value.int IntKind.u8) (tabI m 32))) n).length 1)))
            (Value.bool false = Value.bool true ∧ True)
            (If ((blindsO O (Array.mk (List.map (Value.int IntKind.u8) (tabI m 32))) n).length.ble 1000 && (blindsO O (Array.mk (List.map (Value.int IntKind.u8) (tabI m 32))) n).length.ble 1000)
              (If (!eqL2 (blindsO O (Array.mk (List.map (Value.int IntKind.u8) (tabI m 32))) n) (blindsO O (Array.mk (List.map (Value.int IntKind.u8) (tabI m 32))) n))
                (Value.bool false = Value.bool true ∧ True)
                (If (inU a 18446744073709551616 && inUs 18446744073709551616 l && l.length.ble 1000 && frB O (O.pbase a) (iOf l.length))
                  (If (inU a 18446744073709551616 && inUs 18446744073709551616 l && l.length.ble 1000 && frB O (O.pbase a) (iOf l.length))
                    (If (inU q 18446744073709551616 && inUs 18446744073709551616 l && l.length.ble 1000 && !frB O q (iOf l.length))
                      (If (inU q 18446744073709551616 && inUs 18446744073709551616 l && l.length.ble 1000 && !frB O q (iOf l.length))
                        (If ((fromO O q l).length.ble 1000 && (rfromO O q l (nAdd l.length 1)).length.ble 1000)
                          (If (!eqL2 (fromO O q l) (rfromO O q l (nAdd l.length 1))) (Value.bool false = Value.bool true ∧ True)
                            (If (inU a 18446744073709551616 && inUs 18446744073709551616 l && l.length.ble 1000)
                              (If (inU a 18446744073709551616 && inUs 18446744073709551616 l && l.length.ble 1000)
                                (If (iBeq (O.fsub a (sumO O l)) (O.fsub a (sumO O l)))
                                  (If (inU q 18446744073709551616 && inU a 18446744073709551616)
                                    (If (inU q 18446744073709551616 && inU a 18446744073709551616)
                                      (If ((bif O.pright q then iBeq (O.pbase a) q else false) == iBeq (O.pbase a) q)
                                        (If (inU a 18446744073709551616 && !prtB n)
                                          (If (inU a 18446744073709551616 && !prtB n)
                                            (If ((partsO O (b8 (O.fadd 0 a)) a n).length.ble 1000 && (partsO O (b8 (O.fadd a 0)) a n).length.ble 1000)
                                              (If (eqL2 (partsO O (b8 (O.fadd 0 a)) a n) (partsO O (b8 (O.fadd a 0)) a n))
                                                (If (inUs 18446744073709551616 l && l.length.ble 1000)
                                                  (If (inUs 18446744073709551616 l && l.length.ble 1000)
                                                    (If (iBeq (sumO O l) (sumO O l))
                                                      (If (inU a 18446744073709551616 && inU (IntKind.u64.wrap (m 0)) 18446744073709551616)
                                                        (If (inU a 18446744073709551616 && inU (IntKind.u64.wrap (m 0)) 18446744073709551616)
                                                          (Value.bool (iBeq (O.fadd (O.fadd 0 a) (IntKind.u64.wrap (m 0))) (O.fadd a (IntKind.u64.wrap (m 0)))) = Value.bool true ∧ True) False)
                                                        False)
                                                      (Value.bool false = Value.bool true ∧ True))
                                                    False)
                                                  False)
                                                (Value.bool false = Value.bool true ∧ True))
                                              False)
                                            False)
                                          False)
                                        (Value.bool false = Value.bool true ∧ True))
                                      False)
                                    False)
                                  (Value.bool false = Value.bool true ∧ True))
                                False)
                              False))
                          False)
                        False)
                      False)
                    False)
                  False))
              False))
          False)
        False)
      False) := by
  have hAm : O.isH (Array.mk (List.map (Value.int IntKind.u8) (tabI m 32))) = true := h_m
  have hw : inU (IntKind.u64.wrap (m 0)) 18446744073709551616 = true := inU_wrap _
  have eA : Array.mk (List.map (Value.int IntKind.u8) (tabI m 32)) = AV m := rfl
  simp only [Sx.app, Sx.nAdd, Sx.nSub, Sx.nMul, Sx.nPow, Sx.nDiv, Sx.nMod, Sx.iAdd, Sx.iSub, Sx.iMul, Sx.iNeg, Sx.iPow, Sx.iOf, Sx.Cont.n, eA]
  refine Sx.if_both (fun h => (by first | rfl | trivial)) (fun h => ?_)
  simp only [Bool.and_eq_true, Bool.or_eq_true, Sx.iLt_t, Sx.iLt_f, Sx.iLe_t, Sx.iLe_f, Sx.iEq_t, Sx.iEq_f, Sx.iBeq_t, Sx.iBeq_f, Sx.iBne_t, Sx.iBne_f, Nat.ble_eq, Nat.beq_eq, Sx.Cont.n] at h
  have hbl : l.length.ble 1000 = true := by rw [Nat.ble_eq]; omega
  have hb1 : (l.length + 1).ble 1000 = true := by rw [Nat.ble_eq]; omega
  have f1 : O.fadd (O.fadd 0 a) (IntKind.u64.wrap (m 0)) = O.fadd a (IntKind.u64.wrap (m 0)) := by
    rw [G.fv _ _ (F.fadd _ _) hw, G.fv 0 a (by decide) h_a, G.fv a _ h_a hw]; omega
  have f2 : ((bif O.pright q then iBeq (O.pbase a) q else false) == iBeq (O.pbase a) q) = true := by
    cases e : O.pright q with
    | true => rw [beq_iff_eq]; rfl
    | false =>
      have : iBeq (O.pbase a) q = false := by
        rw [Sx.iBeq_f]
        intro hc
        have := G.pb a
        rw [hc, e] at this
        cases this
      rw [this]; rfl
  have f5 : O.fadd a 0 = O.fadd 0 a := by rw [G.fv a 0 h_a (by decide), G.fv 0 a (by decide) h_a, Int.add_comm]
  have rf := from_ref pc
  have bs : ∀ z : Int, iBeq z z = true := fun z => by rw [Sx.iBeq_t]
  have lB : (blindsO O (AV m) n).length.ble 1000 = true ∧ ((blindsO O (AV m) n).length + 1).ble 1000 = true := by
    have hn := newB_no (O := O) (q := q) (n := n) (by cases e : newB O q n with
      | true => rw [e] at c0; cases c0
      | false => rfl)
    have el : (blindsO O (AV m) n).length = (n - 1).toNat := drawsO_len _ _ _ _
    rw [Nat.ble_eq, Nat.ble_eq, el]
    omega
  have lP : (partsO O (b8 (O.fadd 0 a)) a n).length.ble 1000 = true := by
    have hn := prtB_no (n := n) (by cases e : prtB n with
      | true => rw [e] at c3; cases c3
      | false => rfl)
    unfold partsO
    rw [List.length_append, drawsO_len, Nat.ble_eq]
    simp only [List.length_cons, List.length_nil]
    omega
  simp only [h_m, h_a, h_l, h_q, hbl, hb1, c0, c1, c2, c3, hw, f1, f2, f5, rf, bs, eqL2_self, fromO_len, lB.1, lB.2, lP, Bool.and_self, Bool.and_true, Bool.true_and, Bool.not_true, If_t, If_f, and_true]
theorem wpc_paTells_11 (O : OO) (Z : OZ) (Y : OY) (a q n : Int) (l : List Int) (m : Nat → Int) (F : FO O) (G : FP O) (pc : ∀ q a b, O.padd (O.padd q (O.pbase a)) (O.pbase b) = O.padd (O.padd q (O.pbase b)) (O.pbase a)) (h_a : inU a 18446744073709551616 = true) (h_l : inUs 18446744073709551616 l = true) (g_l : Nat.ble l.length 9223372036854775807 = true) (h_q : inU q 18446744073709551616 = true) (h_m : O.isH (AV m) = true) (c0 : (!(newB O q n)) = true) (c1 : frB O (O.pbase a) l.length = true) (c2 : (!(frB O q l.length)) = true) (c3 : (!(prtB n)) = true) : wpcI Try.prog (spPT false true false false O Z Y) Try.f3.ntmps [] (bodyOf Try.f3) 0 64 (envA [.v, .ro .u64, .v, .v, .v] [.v (.int .u64 a), .ints l, .v (.int .u64 q), .v (.agg (AV m)), .v (.int .i64 n)] 0) (memA [.v, .ro .u64, .v, .v, .v] [.v (.int .u64 a), .ints l, .v (.int .u64 q), .v (.agg (AV m)), .v (.int .i64 n)] 0) (retG Try.prog Try.f3.results.toList [.v (.bool true)]) :=
  Eq.mpr (by kernel_rfl) (vc_paTells_11 O Z Y a q n l m F G pc h_a h_l g_l h_q h_m c0 c1 c2 c3)
theorem ok_paTells_11 : Sx.SpecOK I0 Try.prog 3 (gspec [.v, .ro .u64, .v, .v, .v] (g_paTells_11 oo (zO oo) (yO oo))) := by
  refine spec_genAI (spPT_ok I0 false true false false oo rfl (zO oo) rfl (yO oo) rfl) (by kernel_rfl) (fun xs => match xs with | [.v (.int .u64 a), .ints l, .v (.int .u64 q), .v (.agg m), .v (.int .i64 n)] => [] | _ => []) Try.func3 (by kernel_rfl) (by kernel_rfl) rfl Try.ntmps3 (by decide) ?_ ?_
  · intro xs p rs h; unfold g_paTells_11 at h; split at h <;> first | (simp only [Option.some.injEq, Prod.mk.injEq] at h; rw [← h.2]; simp) | cases h
  · intro xs rs hl h
    unfold g_paTells_11 at h
    split at h
    · rename_i a l q m n
      simp only [Option.some.injEq, Prod.mk.injEq, Bool.and_eq_true] at h
      obtain ⟨⟨⟨⟨⟨⟨⟨⟨⟨h_a, h_l⟩, g_l⟩, h_q⟩, h_m⟩, c0⟩, c1⟩, c2⟩, c3⟩, rfl⟩ := h
      obtain ⟨m, rfl⟩ := isH_AV h_m
      exact wpc_paTells_11 oo (zO oo) (yO oo) a q n l m (fo_oo oo rfl) fp_oo pc' h_a h_l g_l h_q h_m c0 c1 c2 c3
    · cases h
def g_paTells_12 (O : OO) (Z : OZ) (Y : OY) (xs : List Sx.Arg) : Option (Bool × List Ret) := match xs with
  | [.v (.int .u64 a), .ints l, .v (.int .u64 q), .v (.agg m), .v (.int .i64 n)] => some ((inU a 18446744073709551616) && (inUs 18446744073709551616 l) && (Nat.ble l.length 9223372036854775807) && (inU q 18446744073709551616) && (O.isH m) && ((!(newB O q n))) && ((!(frB O (O.pbase a) l.length))) && (frB O q l.length) && (prtB n), [.v (.bool true)])
  | _ => none
set_option maxHeartbeats 4000000 in
theorem vc_paTells_12 (O : OO) (Z : OZ) (Y : OY) (a q n : Int) (l : List Int) (m : Nat → Int) (F : FO O) (G : FP O) (pc : ∀ q a b, O.padd (O.padd q (O.pbase a)) (O.pbase b) = O.padd (O.padd q (O.pbase b)) (O.pbase a)) (h_a : inU a 18446744073709551616 = true) (h_l : inUs 18446744073709551616 l = true) (g_l : Nat.ble l.length 9223372036854775807 = true) (h_q : inU q 18446744073709551616 = true) (h_m : O.isH (AV m) = true) (c0 : (!(newB O q n)) = true) (c1 : (!(frB O (O.pbase a) l.length)) = true) (c2 : frB O q l.length = true) (c3 : prtB n = true) :
  If (iLt 20 (iOf (Cont.ints IntKind.u64 l).n)) (Value.bool true = Value.bool true ∧ True)
    (If (inU q 18446744073709551616 && O.isH (Array.mk (List.map (Value.int IntKind.u8) (tabI m 32))) && !newB O q n)
      (If (inU q 18446744073709551616 && O.isH (Array.mk (List.map (Value.int IntKind.u8) (tabI m 32))) && !newB O q n)
        (If
          ((fromO O q (blindsO O (Array.mk (List.map (Value.int IntKind.u8) (tabI m 32))) n)).length.ble 1000 &&
            (rfromO O q (blindsO O (Array.mk (List.map (Value.int IntKind.u8) (tabI m 32))) n) (nAdd (blindsO O (Array.mk (List.map (Value.int IntKind.u8) (tabI m 32))) n).length 1)).length.ble 1000)
          (If
            (!eqL2 (fromO O q (blindsO O (Array.mk (List.map (Value.int IntKind.u8) (tabI m 32))) n))
                (rfromO O q (blindsO O (Array.mk (List.map (Value.int IntKind.u8) (tabI m 32))) n) (nAdd (blindsO O (Array.mk (List.map (Value.int IntKind.u8) (tabI m 32))) n).length 1)))
            (Value.bool false = Value.bool true ∧ True)
            (If ((blindsO O (Array.mk (List.map (Value.int IntKind.u8) (tabI m 32))) n).length.ble 1000 && (blindsO O (Array.mk (List.map (Value.int IntKind.u8) (tabI m 32))) n).length.ble 1000)
              (If (!eqL2 (blindsO O (Array.mk (List.map (Value.int IntKind.u8) (tabI m 32))) n) (blindsO O (Array.mk (List.map (Value.int IntKind.u8) (tabI m 32))) n))
                (Value.bool false = Value.bool true ∧ True)
                (If (inU a 18446744073709551616 && inUs 18446744073709551616 l && l.length.ble 1000 && !frB O (O.pbase a) (iOf l.length))
                  (If (inU a 18446744073709551616 && inUs 18446744073709551616 l && l.length.ble 1000 && !frB O (O.pbase a) (iOf l.length))
                    (If ((fromO O (O.pbase a) l).length.ble 1000 && (rfromO O (O.pbase a) l (nAdd l.length 1)).length.ble 1000)
                      (If (!eqL2 (fromO O (O.pbase a) l) (rfromO O (O.pbase a) l (nAdd l.length 1))) (Value.bool false = Value.bool true ∧ True)
                        (If (inU q 18446744073709551616 && inUs 18446744073709551616 l && l.length.ble 1000 && frB O q (iOf l.length))
                          (If (inU q 18446744073709551616 && inUs 18446744073709551616 l && l.length.ble 1000 && frB O q (iOf l.length))
                            (If (inU a 18446744073709551616 && inUs 18446744073709551616 l && l.length.ble 1000)
                              (If (inU a 18446744073709551616 && inUs 18446744073709551616 l && l.length.ble 1000)
                                (If (iBeq (O.fsub a (sumO O l)) (O.fsub a (sumO O l)))
                                  (If (inU q 18446744073709551616 && inU a 18446744073709551616)
                                    (If (inU q 18446744073709551616 && inU a 18446744073709551616)
                                      (If ((bif O.pright q then iBeq (O.pbase a) q else false) == iBeq (O.pbase a) q)
                                        (If (inU a 18446744073709551616 && prtB n)
                                          (If (inU a 18446744073709551616 && prtB n)
                                            (If (inUs 18446744073709551616 l && l.length.ble 1000)
                                              (If (inUs 18446744073709551616 l && l.length.ble 1000)
                                                (If (iBeq (sumO O l) (sumO O l))
                                                  (If (inU a 18446744073709551616 && inU (IntKind.u64.wrap (m 0)) 18446744073709551616)
                                                    (If (inU a 18446744073709551616 && inU (IntKind.u64.wrap (m 0)) 18446744073709551616)
                                                      (Value.bool (iBeq (O.fadd (O.fadd 0 a) (IntKind.u64.wrap (m 0))) (O.fadd a (IntKind.u64.wrap (m 0)))) = Value.bool true ∧ True) False)
                                                    False)
                                                  (Value.bool false = Value.bool true ∧ True))
                                                False)
                                              False)
                                            False)
                                          False)
                                        (Value.bool false = Value.bool true ∧ True))
                                      False)
                                    False)
                                  (Value.bool false = Value.bool true ∧ True))
                                False)
                              False)
                            False)
                          False))
                      False)
                    False)
                  False))
              False))
          False)
        False)
      False) := by
  have hAm : O.isH (Array.mk (List.map (Value.int IntKind.u8) (tabI m 32))) = true := h_m
  have hw : inU (IntKind.u64.wrap (m 0)) 18446744073709551616 = true := inU_wrap _
  have eA : Array.mk (List.map (Value.int IntKind.u8) (tabI m 32)) = AV m := rfl
  simp only [Sx.app, Sx.nAdd, Sx.nSub, Sx.nMul, Sx.nPow, Sx.nDiv, Sx.nMod, Sx.iAdd, Sx.iSub, Sx.iMul, Sx.iNeg, Sx.iPow, Sx.iOf, Sx.Cont.n, eA]
  refine Sx.if_both (fun h => (by first | rfl | trivial)) (fun h => ?_)
  simp only [Bool.and_eq_true, Bool.or_eq_true, Sx.iLt_t, Sx.iLt_f, Sx.iLe_t, Sx.iLe_f, Sx.iEq_t, Sx.iEq_f, Sx.iBeq_t, Sx.iBeq_f, Sx.iBne_t, Sx.iBne_f, Nat.ble_eq, Nat.beq_eq, Sx.Cont.n] at h
  have hbl : l.length.ble 1000 = true := by rw [Nat.ble_eq]; omega
  have hb1 : (l.length + 1).ble 1000 = true := by rw [Nat.ble_eq]; omega
  have f1 : O.fadd (O.fadd 0 a) (IntKind.u64.wrap (m 0)) = O.fadd a (IntKind.u64.wrap (m 0)) := by
    rw [G.fv _ _ (F.fadd _ _) hw, G.fv 0 a (by decide) h_a, G.fv a _ h_a hw]; omega
  have f2 : ((bif O.pright q then iBeq (O.pbase a) q else false) == iBeq (O.pbase a) q) = true := by
    cases e : O.pright q with
    | true => rw [beq_iff_eq]; rfl
    | false =>
      have : iBeq (O.pbase a) q = false := by
        rw [Sx.iBeq_f]
        intro hc
        have := G.pb a
        rw [hc, e] at this
        cases this
      rw [this]; rfl
  have f5 : O.fadd a 0 = O.fadd 0 a := by rw [G.fv a 0 h_a (by decide), G.fv 0 a (by decide) h_a, Int.add_comm]
  have rf := from_ref pc
  have bs : ∀ z : Int, iBeq z z = true := fun z => by rw [Sx.iBeq_t]
  have lB : (blindsO O (AV m) n).length.ble 1000 = true ∧ ((blindsO O (AV m) n).length + 1).ble 1000 = true := by
    have hn := newB_no (O := O) (q := q) (n := n) (by cases e : newB O q n with
      | true => rw [e] at c0; cases c0
      | false => rfl)
    have el : (blindsO O (AV m) n).length = (n - 1).toNat := drawsO_len _ _ _ _
    rw [Nat.ble_eq, Nat.ble_eq, el]
    omega
  simp only [h_m, h_a, h_l, h_q, hbl, hb1, c0, c1, c2, c3, hw, f1, f2, f5, rf, bs, eqL2_self, fromO_len, lB.1, lB.2, Bool.and_self, Bool.and_true, Bool.true_and, Bool.not_true, If_t, If_f, and_true]
theorem wpc_paTells_12 (O : OO) (Z : OZ) (Y : OY) (a q n : Int) (l : List Int) (m : Nat → Int) (F : FO O) (G : FP O) (pc : ∀ q a b, O.padd (O.padd q (O.pbase a)) (O.pbase b) = O.padd (O.padd q (O.pbase b)) (O.pbase a)) (h_a : inU a 18446744073709551616 = true) (h_l : inUs 18446744073709551616 l = true) (g_l : Nat.ble l.length 9223372036854775807 = true) (h_q : inU q 18446744073709551616 = true) (h_m : O.isH (AV m) = true) (c0 : (!(newB O q n)) = true) (c1 : (!(frB O (O.pbase a) l.length)) = true) (c2 : frB O q l.length = true) (c3 : prtB n = true) : wpcI Try.prog (spPT false false true true O Z Y) Try.f3.ntmps [] (bodyOf Try.f3) 0 64 (envA [.v, .ro .u64, .v, .v, .v] [.v (.int .u64 a), .ints l, .v (.int .u64 q), .v (.agg (AV m)), .v (.int .i64 n)] 0) (memA [.v, .ro .u64, .v, .v, .v] [.v (.int .u64 a), .ints l, .v (.int .u64 q), .v (.agg (AV m)), .v (.int .i64 n)] 0) (retG Try.prog Try.f3.results.toList [.v (.bool true)]) :=
  Eq.mpr (by kernel_rfl) (vc_paTells_12 O Z Y a q n l m F G pc h_a h_l g_l h_q h_m c0 c1 c2 c3)
theorem ok_paTells_12 : Sx.SpecOK I0 Try.prog 3 (gspec [.v, .ro .u64, .v, .v, .v] (g_paTells_12 oo (zO oo) (yO oo))) := by
  refine spec_genAI (spPT_ok I0 false false true true oo rfl (zO oo) rfl (yO oo) rfl) (by kernel_rfl) (fun xs => match xs with | [.v (.int .u64 a), .ints l, .v (.int .u64 q), .v (.agg m), .v (.int .i64 n)] => [] | _ => []) Try.func3 (by kernel_rfl) (by kernel_rfl) rfl Try.ntmps3 (by decide) ?_ ?_
  · intro xs p rs h; unfold g_paTells_12 at h; split at h <;> first | (simp only [Option.some.injEq, Prod.mk.injEq] at h; rw [← h.2]; simp) | cases h
  · intro xs rs hl h
    unfold g_paTells_12 at h
    split at h
    · rename_i a l q m n
      simp only [Option.some.injEq, Prod.mk.injEq, Bool.and_eq_true] at h
      obtain ⟨⟨⟨⟨⟨⟨⟨⟨⟨h_a, h_l⟩, g_l⟩, h_q⟩, h_m⟩, c0⟩, c1⟩, c2⟩, c3⟩, rfl⟩ := h
      obtain ⟨m, rfl⟩ := isH_AV h_m
      exact wpc_paTells_12 oo (zO oo) (yO oo) a q n l m (fo_oo oo rfl) fp_oo pc' h_a h_l g_l h_q h_m c0 c1 c2 c3
    · cases h
def g_paTells_13 (O : OO) (Z : OZ) (Y : OY) (xs : List Sx.Arg) : Option (Bool × List Ret) := match xs with
  | [.v (.int .u64 a), .ints l, .v (.int .u64 q), .v (.agg m), .v (.int .i64 n)] => some ((inU a 18446744073709551616) && (inUs 18446744073709551616 l) && (Nat.ble l.length 9223372036854775807) && (inU q 18446744073709551616) && (O.isH m) && ((!(newB O q n))) && ((!(frB O (O.pbase a) l.length))) && (frB O q l.length) && ((!(prtB n))), [.v (.bool true)])
  | _ => none
set_option maxHeartbeats 4000000 in
theorem vc_paTells_13 (O : OO) (Z : OZ) (Y : OY) (a q n : Int) (l : List Int) (m : Nat → Int) (F : FO O) (G : FP O) (pc : ∀ q a b, O.padd (O.padd q (O.pbase a)) (O.pbase b) = O.padd (O.padd q (O.pbase b)) (O.pbase a)) (h_a : inU a 18446744073709551616 = true) (h_l : inUs 18446744073709551616 l = true) (g_l : Nat.ble l.length 9223372036854775807 = true) (h_q : inU q 18446744073709551616 = true) (h_m : O.isH (AV m) = true) (c0 : (!(newB O q n)) = true) (c1 : (!(frB O (O.pbase a) l.length)) = true) (c2 : frB O q l.length = true) (c3 : (!(prtB n)) = true) :
  If (iLt 20 (iOf (Cont.ints IntKind.u64 l).n)) (Value.bool true = Value.bool true ∧ True)
    (If (inU q 18446744073709551616 && O.isH (Array.mk (List.map (Value.int IntKind.u8) (tabI m 32))) && !newB O q n)
      (If (inU q 18446744073709551616 && O.isH (Array.mk (List.map (Value.int IntKind.u8) (tabI m 32))) && !newB O q n)
        (If
          ((fromO O q (blindsO O (Array.mk (List.map (Value.int IntKind.u8) (tabI m 32))) n)).length.ble 1000 &&
            (rfromO O q (blindsO O (Array.mk (List.map (Value.int IntKind.u8) (tabI m 32))) n) (nAdd (blindsO O (Array.mk (List.map (Value.int IntKind.u8) (tabI m 32))) n).length 1)).length.ble 1000)
          (If
            (!eqL2 (fromO O q (blindsO O (Array.mk (List.map (Value.int IntKind.u8) (tabI m 32))) n))
                (rfromO O q (blindsO O (Array.mk (List.map (Value.int IntKind.u8) (tabI m 32))) n) (nAdd (blindsO O (Array.mk (List.map (Value.int IntKind.u8) (tabI m 32))) n).length 1)))
            (Value.bool false = Value.bool true ∧ True)
            (If ((blindsO O (Array.mk (List.map (Value.int IntKind.u8) (tabI m 32))) n).length.ble 1000 && (blindsO O (Array.mk (List.map (Value.int IntKind.u8) (tabI m 32))) n).length.ble 1000)
              (If (!eqL2 (blindsO O (Array.mk (List.map (Value.int IntKind.u8) (tabI m 32))) n) (blindsO O (Array.mk (List.map (Value.int IntKind.u8) (tabI m 32))) n))
                (Value.bool false = Value.bool true ∧ True)
                (If (inU a 18446744073709551616 && inUs 18446744073709551616 l && l.length.ble 1000 && !frB O (O.pbase a) (iOf l.length))
                  (If (inU a 18446744073709551616 && inUs 18446744073709551616 l && l.length.ble 1000 && !frB O (O.pbase a) (iOf l.length))
                    (If ((fromO O (O.pbase a) l).length.ble 1000 && (rfromO O (O.pbase a) l (nAdd l.length 1)).length.ble 1000)
                      (If (!eqL2 (fromO O (O.pbase a) l) (rfromO O (O.pbase a) l (nAdd l.length 1))) (Value.bool false = Value.bool true ∧ True)
                        (If (inU q 18446744073709551616 && inUs 18446744073709551616 l && l.length.ble 1000 && frB O q (iOf l.length))
                          (If (inU q 18446744073709551616 && inUs 18446744073709551616 l && l.length.ble 1000 && frB O q (iOf l.length))
                            (If (inU a 18446744073709551616 && inUs 18446744073709551616 l && l.length.ble 1000)
                              (If (inU a 18446744073709551616 && inUs 18446744073709551616 l && l.length.ble 1000)
                                (If (iBeq (O.fsub a (sumO O l)) (O.fsub a (sumO O l)))
                                  (If (inU q 18446744073709551616 && inU a 18446744073709551616)
                                    (If (inU q 18446744073709551616 && inU a 18446744073709551616)
                                      (If ((bif O.pright q then iBeq (O.pbase a) q else false) == iBeq (O.pbase a) q)
                                        (If (inU a 18446744073709551616 && !prtB n)
                                          (If (inU a 18446744073709551616 && !prtB n)
                                            (If ((partsO O (b8 (O.fadd 0 a)) a n).length.ble 1000 && (partsO O (b8 (O.fadd a 0)) a n).length.ble 1000)
                                              (If (eqL2 (partsO O (b8 (O.fadd 0 a)) a n) (partsO O (b8 (O.fadd a 0)) a n))
                                                (If (inUs 18446744073709551616 l && l.length.ble 1000)
                                                  (If (inUs 18446744073709551616 l && l.length.ble 1000)
                                                    (If (iBeq (sumO O l) (sumO O l))
                                                      (If (inU a 18446744073709551616 && inU (IntKind.u64.wrap (m 0)) 18446744073709551616)
                                                        (If (inU a 18446744073709551616 && inU (IntKind.u64.wrap (m 0)) 18446744073709551616)
                                                          (Value.bool (iBeq (O.fadd (O.fadd 0 a) (IntKind.u64.wrap (m 0))) (O.fadd a (IntKind.u64.wrap (m 0)))) = Value.bool true ∧ True) False)
                                                        False)
                                                      (Value.bool false = Value.bool true ∧ True))
                                                    False)
                                                  False)
                                                (Value.bool false = Value.bool true ∧ True))
                                              False)
                                            False)
                                          False)
                                        (Value.bool false = Value.bool true ∧ True))
                                      False)
                                    False)
                                  (Value.bool false = Value.bool true ∧ True))
                                False)
                              False)
                            False)
                          False))
                      False)
                    False)
                  False))
              False))
          False)
        False)
      False) := by
  have hAm : O.isH (Array.mk (List.map (Value.int IntKind.u8) (tabI m 32))) = true := h_m
  have hw : inU (IntKind.u64.wrap (m 0)) 18446744073709551616 = true := inU_wrap _
  have eA : Array.mk (List.map (Value.int IntKind.u8) (tabI m 32)) = AV m := rfl
  simp only [Sx.app, Sx.nAdd, Sx.nSub, Sx.nMul, Sx.nPow, Sx.nDiv, Sx.nMod, Sx.iAdd, Sx.iSub, Sx.iMul, Sx.iNeg, Sx.iPow, Sx.iOf, Sx.Cont.n, eA]
  refine Sx.if_both (fun h => (by first | rfl | trivial)) (fun h => ?_)
  simp only [Bool.and_eq_true, Bool.or_eq_true, Sx.iLt_t, Sx.iLt_f, Sx.iLe_t, Sx.iLe_f, Sx.iEq_t, Sx.iEq_f, Sx.iBeq_t, Sx.iBeq_f, Sx.iBne_t, Sx.iBne_f, Nat.ble_eq, Nat.beq_eq, Sx.Cont.n] at h
  have hbl : l.length.ble 1000 = true := by rw [Nat.ble_eq]; omega
  have hb1 : (l.length + 1).ble 1000 = true := by rw [Nat.ble_eq]; omega
  have f1 : O.fadd (O.fadd 0 a) (IntKind.u64.wrap (m 0)) = O.fadd a (IntKind.u64.wrap (m 0)) := by
    rw [G.fv _ _ (F.fadd _ _) hw, G.fv 0 a (by decide) h_a, G.fv a _ h_a hw]; omega
  have f2 : ((bif O.pright q then iBeq (O.pbase a) q else false) == iBeq (O.pbase a) q) = true := by
    cases e : O.pright q with
    | true => rw [beq_iff_eq]; rfl
    | false =>
      have : iBeq (O.pbase a) q = false := by
        rw [Sx.iBeq_f]
        intro hc
        have := G.pb a
        rw [hc, e] at this
        cases this
      rw [this]; rfl
  have f5 : O.fadd a 0 = O.fadd 0 a := by rw [G.fv a 0 h_a (by decide), G.fv 0 a (by decide) h_a, Int.add_comm]
  have rf := from_ref pc
  have bs : ∀ z : Int, iBeq z z = true := fun z => by rw [Sx.iBeq_t]
  have lB : (blindsO O (AV m) n).length.ble 1000 = true ∧ ((blindsO O (AV m) n).length + 1).ble 1000 = true := by
    have hn := newB_no (O := O) (q := q) (n := n) (by cases e : newB O q n with
      | true => rw [e] at c0; cases c0
      | false => rfl)
    have el : (blindsO O (AV m) n).length = (n - 1).toNat := drawsO_len _ _ _ _
    rw [Nat.ble_eq, Nat.ble_eq, el]
    omega
  have lP : (partsO O (b8 (O.fadd 0 a)) a n).length.ble 1000 = true := by
    have hn := prtB_no (n := n) (by cases e : prtB n with
      | true => rw [e] at c3; cases c3
      | false => rfl)
    unfold partsO
    rw [List.length_append, drawsO_len, Nat.ble_eq]
    simp only [List.length_cons, List.length_nil]
    omega
  simp only [h_m, h_a, h_l, h_q, hbl, hb1, c0, c1, c2, c3, hw, f1, f2, f5, rf, bs, eqL2_self, fromO_len, lB.1, lB.2, lP, Bool.and_self, Bool.and_true, Bool.true_and, Bool.not_true, If_t, If_f, and_true]
theorem wpc_paTells_13 (O : OO) (Z : OZ) (Y : OY) (a q n : Int) (l : List Int) (m : Nat → Int) (F : FO O) (G : FP O) (pc : ∀ q a b, O.padd (O.padd q (O.pbase a)) (O.pbase b) = O.padd (O.padd q (O.pbase b)) (O.pbase a)) (h_a : inU a 18446744073709551616 = true) (h_l : inUs 18446744073709551616 l = true) (g_l : Nat.ble l.length 9223372036854775807 = true) (h_q : inU q 18446744073709551616 = true) (h_m : O.isH (AV m) = true) (c0 : (!(newB O q n)) = true) (c1 : (!(frB O (O.pbase a) l.length)) = true) (c2 : frB O q l.length = true) (c3 : (!(prtB n)) = true) : wpcI Try.prog (spPT false false true false O Z Y) Try.f3.ntmps [] (bodyOf Try.f3) 0 64 (envA [.v, .ro .u64, .v, .v, .v] [.v (.int .u64 a), .ints l, .v (.int .u64 q), .v (.agg (AV m)), .v (.int .i64 n)] 0) (memA [.v, .ro .u64, .v, .v, .v] [.v (.int .u64 a), .ints l, .v (.int .u64 q), .v (.agg (AV m)), .v (.int .i64 n)] 0) (retG Try.prog Try.f3.results.toList [.v (.bool true)]) :=
  Eq.mpr (by kernel_rfl) (vc_paTells_13 O Z Y a q n l m F G pc h_a h_l g_l h_q h_m c0 c1 c2 c3)
theorem ok_paTells_13 : Sx.SpecOK I0 Try.prog 3 (gspec [.v, .ro .u64, .v, .v, .v] (g_paTells_13 oo (zO oo) (yO oo))) := by
  refine spec_genAI (spPT_ok I0 false false true false oo rfl (zO oo) rfl (yO oo) rfl) (by kernel_rfl) (fun xs => match xs with | [.v (.int .u64 a), .ints l, .v (.int .u64 q), .v (.agg m), .v (.int .i64 n)] => [] | _ => []) Try.func3 (by kernel_rfl) (by kernel_rfl) rfl Try.ntmps3 (by decide) ?_ ?_
  · intro xs p rs h; unfold g_paTells_13 at h; split at h <;> first | (simp only [Option.some.injEq, Prod.mk.injEq] at h; rw [← h.2]; simp) | cases h
  · intro xs rs hl h
    unfold g_paTells_13 at h
    split at h
    · rename_i a l q m n
      simp only [Option.some.injEq, Prod.mk.injEq, Bool.and_eq_true] at h
      obtain ⟨⟨⟨⟨⟨⟨⟨⟨⟨h_a, h_l⟩, g_l⟩, h_q⟩, h_m⟩, c0⟩, c1⟩, c2⟩, c3⟩, rfl⟩ := h
      obtain ⟨m, rfl⟩ := isH_AV h_m
      exact wpc_paTells_13 oo (zO oo) (yO oo) a q n l m (fo_oo oo rfl) fp_oo pc' h_a h_l g_l h_q h_m c0 c1 c2 c3
    · cases h
def g_paTells_14 (O : OO) (Z : OZ) (Y : OY) (xs : List Sx.Arg) : Option (Bool × List Ret) := match xs with
  | [.v (.int .u64 a), .ints l, .v (.int .u64 q), .v (.agg m), .v (.int .i64 n)] => some ((inU a 18446744073709551616) && (inUs 18446744073709551616 l) && (Nat.ble l.length 9223372036854775807) && (inU q 18446744073709551616) && (O.isH m) && ((!(newB O q n))) && ((!(frB O (O.pbase a) l.length))) && ((!(frB O q l.length))) && (prtB n), [.v (.bool true)])
  | _ => none
set_option maxHeartbeats 4000000 in
theorem vc_paTells_14 (O : OO) (Z : OZ) (Y : OY) (a q n : Int) (l : List Int) (m : Nat → Int) (F : FO O) (G : FP O) (pc : ∀ q a b, O.padd (O.padd q (O.pbase a)) (O.pbase b) = O.padd (O.padd q (O.pbase b)) (O.pbase a)) (h_a : inU a 18446744073709551616 = true) (h_l : inUs 18446744073709551616 l = true) (g_l : Nat.ble l.length 9223372036854775807 = true) (h_q : inU q 18446744073709551616 = true) (h_m : O.isH (AV m) = true) (c0 : (!(newB O q n)) = true) (c1 : (!(frB O (O.pbase a) l.length)) = true) (c2 : (!(frB O q l.length)) = true) (c3 : prtB n = true) :
  If (iLt 20 (iOf (Cont.ints IntKind.u64 l).n)) (Value.bool true = Value.bool true ∧ True)
    (If (inU q 18446744073709551616 && O.isH (Array.mk (List.map (Value.int IntKind.u8) (tabI m 32))) && !newB O q n)
      (If (inU q 18446744073709551616 && O.isH (Array.mk (List.map (Value.int IntKind.u8) (tabI m 32))) && !newB O q n)
        (If
          ((fromO O q (blindsO O (Array.mk (List.map (Value.int IntKind.u8) (tabI m 32))) n)).length.ble 1000 &&
            (rfromO O q (blindsO O (Array.mk (List.map (Value.int IntKind.u8) (tabI m 32))) n) (nAdd (blindsO O (Array.mk (List.map (Value.int IntKind.u8) (tabI m 32))) n).length 1)).length.ble 1000)
          (If
            (!eqL2 (fromO O q (blindsO O (Array.mk (List.map (Value.int IntKind.u8) (tabI m 32))) n))
                (rfromO O q (blindsO O (Array.mk (List.map (Value.int IntKind.u8) (tabI m 32))) n) (nAdd (blindsO O (Array.mk (List.map (Value.int IntKind.u8) (tabI m 32))) n).length 1)))
            (Value.bool false = Value.bool true ∧ True)
            (If ((blindsO O (Array.mk (List.map (Value.int IntKind.u8) (tabI m 32))) n).length.ble 1000 && (blindsO O (Array.mk (List.map (Value.int IntKind.u8) (tabI m 32))) n).length.ble 1000)
              (If (!eqL2 (blindsO O (Array.mk (List.map (Value.int IntKind.u8) (tabI m 32))) n) (blindsO O (Array.mk (List.map (Value.int IntKind.u8) (tabI m 32))) n))
                (Value.bool false = Value.bool true ∧ True)
                (If (inU a 18446744073709551616 && inUs 18446744073709551616 l && l.length.ble 1000 && !frB O (O.pbase a) (iOf l.length))
                  (If (inU a 18446744073709551616 && inUs 18446744073709551616 l && l.length.ble 1000 && !frB O (O.pbase a) (iOf l.length))
                    (If ((fromO O (O.pbase a) l).length.ble 1000 && (rfromO O (O.pbase a) l (nAdd l.length 1)).length.ble 1000)
                      (If (!eqL2 (fromO O (O.pbase a) l) (rfromO O (O.pbase a) l (nAdd l.length 1))) (Value.bool false = Value.bool true ∧ True)
                        (If (inU q 18446744073709551616 && inUs 18446744073709551616 l && l.length.ble 1000 && !frB O q (iOf l.length))
                          (If (inU q 18446744073709551616 && inUs 18446744073709551616 l && l.length.ble 1000 && !frB O q (iOf l.length))
                            (If ((fromO O q l).length.ble 1000 && (rfromO O q l (nAdd l.length 1)).length.ble 1000)
                              (If (!eqL2 (fromO O q l) (rfromO O q l (nAdd l.length 1))) (Value.bool false = Value.bool true ∧ True)
                                (If (inU a 18446744073709551616 && inUs 18446744073709551616 l && l.length.ble 1000)
                                  (If (inU a 18446744073709551616 && inUs 18446744073709551616 l && l.length.ble 1000)
                                    (If (iBeq (O.fsub a (sumO O l)) (O.fsub a (sumO O l)))
                                      (If (inU q 18446744073709551616 && inU a 18446744073709551616)
                                        (If (inU q 18446744073709551616 && inU a 18446744073709551616)
                                          (If ((bif O.pright q then iBeq (O.pbase a) q else false) == iBeq (O.pbase a) q)
                                            (If (inU a 18446744073709551616 && prtB n)
                                              (If (inU a 18446744073709551616 && prtB n)
                                                (If (inUs 18446744073709551616 l && l.length.ble 1000)
                                                  (If (inUs 18446744073709551616 l && l.length.ble 1000)
                                                    (If (iBeq (sumO O l) (sumO O l))
                                                      (If (inU a 18446744073709551616 && inU (IntKind.u64.wrap (m 0)) 18446744073709551616)
                                                        (If (inU a 18446744073709551616 && inU (IntKind.u64.wrap (m 0)) 18446744073709551616)
                                                          (Value.bool (iBeq (O.fadd (O.fadd 0 a) (IntKind.u64.wrap (m 0))) (O.fadd a (IntKind.u64.wrap (m 0)))) = Value.bool true ∧ True) False)
                                                        False)
                                                      (Value.bool false = Value.bool true ∧ True))
                                                    False)
                                                  False)
                                                False)
                                              False)
                                            (Value.bool false = Value.bool true ∧ True))
                                          False)
                                        False)
                                      (Value.bool false = Value.bool true ∧ True))
                                    False)
                                  False))
                              False)
                            False)
                          False))
                      False)
                    False)
                  False))
              False))
          False)
        False)
      False) := by
  have hAm : O.isH (Array.mk (List.map (Value.int IntKind.u8) (tabI m 32))) = true := h_m
  have hw : inU (IntKind.u64.wrap (m 0)) 18446744073709551616 = true := inU_wrap _
  have eA : Array.mk (List.map (Value.int IntKind.u8) (tabI m 32)) = AV m := rfl
  simp only [Sx.app, Sx.nAdd, Sx.nSub, Sx.nMul, Sx.nPow, Sx.nDiv, Sx.nMod, Sx.iAdd, Sx.iSub, Sx.iMul, Sx.iNeg, Sx.iPow, Sx.iOf, Sx.Cont.n, eA]
  refine Sx.if_both (fun h => (by first | rfl | trivial)) (fun h => ?_)
  simp only [Bool.and_eq_true, Bool.or_eq_true, Sx.iLt_t, Sx.iLt_f, Sx.iLe_t, Sx.iLe_f, Sx.iEq_t, Sx.iEq_f, Sx.iBeq_t, Sx.iBeq_f, Sx.iBne_t, Sx.iBne_f, Nat.ble_eq, Nat.beq_eq, Sx.Cont.n] at h
  have hbl : l.length.ble 1000 = true := by rw [Nat.ble_eq]; omega
  have hb1 : (l.length + 1).ble 1000 = true := by rw [Nat.ble_eq]; omega
  have f1 : O.fadd (O.fadd 0 a) (IntKind.u64.wrap (m 0)) = O.fadd a (IntKind.u64.wrap (m 0)) := by
    rw [G.fv _ _ (F.fadd _ _) hw, G.fv 0 a (by decide) h_a, G.fv a _ h_a hw]; omega
  have f2 : ((bif O.pright q then iBeq (O.pbase a) q else false) == iBeq (O.pbase a) q) = true := by
    cases e : O.pright q with
    | true => rw [beq_iff_eq]; rfl
    | false =>
      have : iBeq (O.pbase a) q = false := by
        rw [Sx.iBeq_f]
        intro hc
        have := G.pb a
        rw [hc, e] at this
        cases this
      rw [this]; rfl
  have f5 : O.fadd a 0 = O.fadd 0 a := by rw [G.fv a 0 h_a (by decide), G.fv 0 a (by decide) h_a, Int.add_comm]
  have rf := from_ref pc
  have bs : ∀ z : Int, iBeq z z = true := fun z => by rw [Sx.iBeq_t]
  have lB : (blindsO O (AV m) n).length.ble 1000 = true ∧ ((blindsO O (AV m) n).length + 1).ble 1000 = true := by
    have hn := newB_no (O := O) (q := q) (n := n) (by cases e : newB O q n with
      | true => rw [e] at c0; cases c0
      | false => rfl)
    have el : (blindsO O (AV m) n).length = (n - 1).toNat := drawsO_len _ _ _ _
    rw [Nat.ble_eq, Nat.ble_eq, el]
    omega
  simp only [h_m, h_a, h_l, h_q, hbl, hb1, c0, c1, c2, c3, hw, f1, f2, f5, rf, bs, eqL2_self, fromO_len, lB.1, lB.2, Bool.and_self, Bool.and_true, Bool.true_and, Bool.not_true, If_t, If_f, and_true]
theorem wpc_paTells_14 (O : OO) (Z : OZ) (Y : OY) (a q n : Int) (l : List Int) (m : Nat → Int) (F : FO O) (G : FP O) (pc : ∀ q a b, O.padd (O.padd q (O.pbase a)) (O.pbase b) = O.padd (O.padd q (O.pbase b)) (O.pbase a)) (h_a : inU a 18446744073709551616 = true) (h_l : inUs 18446744073709551616 l = true) (g_l : Nat.ble l.length 9223372036854775807 = true) (h_q : inU q 18446744073709551616 = true) (h_m : O.isH (AV m) = true) (c0 : (!(newB O q n)) = true) (c1 : (!(frB O (O.pbase a) l.length)) = true) (c2 : (!(frB O q l.length)) = true) (c3 : prtB n = true) : wpcI Try.prog (spPT false false false true O Z Y) Try.f3.ntmps [] (bodyOf Try.f3) 0 64 (envA [.v, .ro .u64, .v, .v, .v] [.v (.int .u64 a), .ints l, .v (.int .u64 q), .v (.agg (AV m)), .v (.int .i64 n)] 0) (memA [.v, .ro .u64, .v, .v, .v] [.v (.int .u64 a), .ints l, .v (.int .u64 q), .v (.agg (AV m)), .v (.int .i64 n)] 0) (retG Try.prog Try.f3.results.toList [.v (.bool true)]) :=
  Eq.mpr (by kernel_rfl) (vc_paTells_14 O Z Y a q n l m F G pc h_a h_l g_l h_q h_m c0 c1 c2 c3)
theorem ok_paTells_14 : Sx.SpecOK I0 Try.prog 3 (gspec [.v, .ro .u64, .v, .v, .v] (g_paTells_14 oo (zO oo) (yO oo))) := by
  refine spec_genAI (spPT_ok I0 false false false true oo rfl (zO oo) rfl (yO oo) rfl) (by kernel_rfl) (fun xs => match xs with | [.v (.int .u64 a), .ints l, .v (.int .u64 q), .v (.agg m), .v (.int .i64 n)] => [] | _ => []) Try.func3 (by kernel_rfl) (by kernel_rfl) rfl Try.ntmps3 (by decide) ?_ ?_
  · intro xs p rs h; unfold g_paTells_14 at h; split at h <;> first | (simp only [Option.some.injEq, Prod.mk.injEq] at h; rw [← h.2]; simp) | cases h
  · intro xs rs hl h
    unfold g_paTells_14 at h
    split at h
    · rename_i a l q m n
      simp only [Option.some.injEq, Prod.mk.injEq, Bool.and_eq_true] at h
      obtain ⟨⟨⟨⟨⟨⟨⟨⟨⟨h_a, h_l⟩, g_l⟩, h_q⟩, h_m⟩, c0⟩, c1⟩, c2⟩, c3⟩, rfl⟩ := h
      obtain ⟨m, rfl⟩ := isH_AV h_m
      exact wpc_paTells_14 oo (zO oo) (yO oo) a q n l m (fo_oo oo rfl) fp_oo pc' h_a h_l g_l h_q h_m c0 c1 c2 c3
    · cases h
def g_paTells_15 (O : OO) (Z : OZ) (Y : OY) (xs : List Sx.Arg) : Option (Bool × List Ret) := match xs with
  | [.v (.int .u64 a), .ints l, .v (.int .u64 q), .v (.agg m), .v (.int .i64 n)] => some ((inU a 18446744073709551616) && (inUs 18446744073709551616 l) && (Nat.ble l.length 9223372036854775807) && (inU q 18446744073709551616) && (O.isH m) && ((!(newB O q n))) && ((!(frB O (O.pbase a) l.length))) && ((!(frB O q l.length))) && ((!(prtB n))), [.v (.bool true)])
  | _ => none
set_option maxHeartbeats 4000000 in
theorem vc_paTells_15 (O : OO) (Z : OZ) (Y : OY) (a q n : Int) (l : List Int) (m : Nat → Int) (F : FO O) (G : FP O) (pc : ∀ q a b, O.padd (O.padd q (O.pbase a)) (O.pbase b) = O.padd (O.padd q (O.pbase b)) (O.pbase a)) (h_a : inU a 18446744073709551616 = true) (h_l : inUs 18446744073709551616 l = true) (g_l : Nat.ble l.length 9223372036854775807 = true) (h_q : inU q 18446744073709551616 = true) (h_m : O.isH (AV m) = true) (c0 : (!(newB O q n)) = true) (c1 : (!(frB O (O.pbase a) l.length)) = true) (c2 : (!(frB O q l.length)) = true) (c3 : (!(prtB n)) = true) :
  If (iLt 20 (iOf (Cont.ints IntKind.u64 l).n)) (Value.bool true = Value.bool true ∧ True)
    (If (inU q 18446744073709551616 && O.isH (Array.mk (List.map (Value.int IntKind.u8) (tabI m 32))) && !newB O q n)
      (If (inU q 18446744073709551616 && O.isH (Array.mk (List.map (Value.int IntKind.u8) (tabI m 32))) && !newB O q n)
        (If
          ((fromO O q (blindsO O (Array.mk (List.map (Value.int IntKind.u8) (tabI m 32))) n)).length.ble 1000 &&
            (rfromO O q (blindsO O (Array.mk (List.map (Value.int IntKind.u8) (tabI m 32))) n) (nAdd (blindsO O (Array.mk (List.map (Value.int IntKind.u8) (tabI m 32))) n).length 1)).length.ble 1000)
          (If
            (!eqL2 (fromO O q (blindsO O (Array.mk (List.map (Value.int IntKind.u8) (tabI m 32))) n))
                (rfromO O q (blindsO O (Array.mk (List.map (Value.int IntKind.u8) (tabI m 32))) n) (nAdd (blindsO O (Array.mk (List.map (Value.int IntKind.u8) (tabI m 32))) n).length 1)))
            (Value.bool false = Value.bool true ∧ True)
            (If ((blindsO O (Array.mk (List.map (Value.int IntKind.u8) (tabI m 32))) n).length.ble 1000 && (blindsO O (Array.mk (List.map (Value.int IntKind.u8) (tabI m 32))) n).length.ble 1000)
              (If (!eqL2 (blindsO O (Array.mk (List.map (Value.int IntKind.u8) (tabI m 32))) n) (blindsO O (Array.mk (List.map (Value.int IntKind.u8) (tabI m 32))) n))
                (Value.bool false = Value.bool true ∧ True)
                (If (inU a 18446744073709551616 && inUs 18446744073709551616 l && l.length.ble 1000 && !frB O (O.pbase a) (iOf l.length))
                  (If (inU a 18446744073709551616 && inUs 18446744073709551616 l && l.length.ble 1000 && !frB O (O.pbase a) (iOf l.length))
                    (If ((fromO O (O.pbase a) l).length.ble 1000 && (rfromO O (O.pbase a) l (nAdd l.length 1)).length.ble 1000)
                      (If (!eqL2 (fromO O (O.pbase a) l) (rfromO O (O.pbase a) l (nAdd l.length 1))) (Value.bool false = Value.bool true ∧ True)
                        (If (inU q 18446744073709551616 && inUs 18446744073709551616 l && l.length.ble 1000 && !frB O q (iOf l.length))
                          (If (inU q 18446744073709551616 && inUs 18446744073709551616 l && l.length.ble 1000 && !frB O q (iOf l.length))
                            (If ((fromO O q l).length.ble 1000 && (rfromO O q l (nAdd l.length 1)).length.ble 1000)
                              (If (!eqL2 (fromO O q l) (rfromO O q l (nAdd l.length 1))) (Value.bool false = Value.bool true ∧ True)
                                (If (inU a 18446744073709551616 && inUs 18446744073709551616 l && l.length.ble 1000)
                                  (If (inU a 18446744073709551616 && inUs 18446744073709551616 l && l.length.ble 1000)
                                    (If (iBeq (O.fsub a (sumO O l)) (O.fsub a (sumO O l)))
                                      (If (inU q 18446744073709551616 && inU a 18446744073709551616)
                                        (If (inU q 18446744073709551616 && inU a 18446744073709551616)
                                          (If ((bif O.pright q then iBeq (O.pbase a) q else false) == iBeq (O.pbase a) q)
                                            (If (inU a 18446744073709551616 && !prtB n)
                                              (If (inU a 18446744073709551616 && !prtB n)
                                                (If ((partsO O (b8 (O.fadd 0 a)) a n).length.ble 1000 && (partsO O (b8 (O.fadd a 0)) a n).length.ble 1000)
                                                  (If (eqL2 (partsO O (b8 (O.fadd 0 a)) a n) (partsO O (b8 (O.fadd a 0)) a n))
                                                    (If (inUs 18446744073709551616 l && l.length.ble 1000)
                                                      (If (inUs 18446744073709551616 l && l.length.ble 1000)
                                                        (If (iBeq (sumO O l) (sumO O l))
                                                          (If (inU a 18446744073709551616 && inU (IntKind.u64.wrap (m 0)) 18446744073709551616)
                                                            (If (inU a 18446744073709551616 && inU (IntKind.u64.wrap (m 0)) 18446744073709551616)
                                                              (Value.bool (iBeq (O.fadd (O.fadd 0 a) (IntKind.u64.wrap (m 0))) (O.fadd a (IntKind.u64.wrap (m 0)))) = Value.bool true ∧ True) False)
                                                            False)
                                                          (Value.bool false = Value.bool true ∧ True))
                                                        False)
                                                      False)
                                                    (Value.bool false = Value.bool true ∧ True))
                                                  False)
                                                False)
                                              False)
                                            (Value.bool false = Value.bool true ∧ True))
                                          False)
                                        False)
                                      (Value.bool false = Value.bool true ∧ True))
                                    False)
                                  False))
                              False)
                            False)
                          False))
                      False)
                    False)
                  False))
              False))
          False)
        False)
      False) := by
  have hAm : O.isH (Array.mk (List.map (Value.int IntKind.u8) (tabI m 32))) = true := h_m
  have hw : inU (IntKind.u64.wrap (m 0)) 18446744073709551616 = true := inU_wrap _
  have eA : Array.mk (List.map (Value.int IntKind.u8) (tabI m 32)) = AV m := rfl
  simp only [Sx.app, Sx.nAdd, Sx.nSub, Sx.nMul, Sx.nPow, Sx.nDiv, Sx.nMod, Sx.iAdd, Sx.iSub, Sx.iMul, Sx.iNeg, Sx.iPow, Sx.iOf, Sx.Cont.n, eA]
  refine Sx.if_both (fun h => (by first | rfl | trivial)) (fun h => ?_)
  simp only [Bool.and_eq_true, Bool.or_eq_true, Sx.iLt_t, Sx.iLt_f, Sx.iLe_t, Sx.iLe_f, Sx.iEq_t, Sx.iEq_f, Sx.iBeq_t, Sx.iBeq_f, Sx.iBne_t, Sx.iBne_f, Nat.ble_eq, Nat.beq_eq, Sx.Cont.n] at h
  have hbl : l.length.ble 1000 = true := by rw [Nat.ble_eq]; omega
  have hb1 : (l.length + 1).ble 1000 = true := by rw [Nat.ble_eq]; omega
  have f1 : O.fadd (O.fadd 0 a) (IntKind.u64.wrap (m 0)) = O.fadd a (IntKind.u64.wrap (m 0)) := by
    rw [G.fv _ _ (F.fadd _ _) hw, G.fv 0 a (by decide) h_a, G.fv a _ h_a hw]; omega
  have f2 : ((bif O.pright q then iBeq (O.pbase a) q else false) == iBeq (O.pbase a) q) = true := by
    cases e : O.pright q with
    | true => rw [beq_iff_eq]; rfl
    | false =>
      have : iBeq (O.pbase a) q = false := by
        rw [Sx.iBeq_f]
        intro hc
        have := G.pb a
        rw [hc, e] at this
        cases this
      rw [this]; rfl
  have f5 : O.fadd a 0 = O.fadd 0 a := by rw [G.fv a 0 h_a (by decide), G.fv 0 a (by decide) h_a, Int.add_comm]
  have rf := from_ref pc
  have bs : ∀ z : Int, iBeq z z = true := fun z => by rw [Sx.iBeq_t]
  have lB : (blindsO O (AV m) n).length.ble 1000 = true ∧ ((blindsO O (AV m) n).length + 1).ble 1000 = true := by
    have hn := newB_no (O := O) (q := q) (n := n) (by cases e : newB O q n with
      | true => rw [e] at c0; cases c0
      | false => rfl)
    have el : (blindsO O (AV m) n).length = (n - 1).toNat := drawsO_len _ _ _ _
    rw [Nat.ble_eq, Nat.ble_eq, el]
    omega
  have lP : (partsO O (b8 (O.fadd 0 a)) a n).length.ble 1000 = true := by
    have hn := prtB_no (n := n) (by cases e : prtB n with
      | true => rw [e] at c3; cases c3
      | false => rfl)
    unfold partsO
    rw [List.length_append, drawsO_len, Nat.ble_eq]
    simp only [List.length_cons, List.length_nil]
    omega
  simp only [h_m, h_a, h_l, h_q, hbl, hb1, c0, c1, c2, c3, hw, f1, f2, f5, rf, bs, eqL2_self, fromO_len, lB.1, lB.2, lP, Bool.and_self, Bool.and_true, Bool.true_and, Bool.not_true, If_t, If_f, and_true]
theorem wpc_paTells_15 (O : OO) (Z : OZ) (Y : OY) (a q n : Int) (l : List Int) (m : Nat → Int) (F : FO O) (G : FP O) (pc : ∀ q a b, O.padd (O.padd q (O.pbase a)) (O.pbase b) = O.padd (O.padd q (O.pbase b)) (O.pbase a)) (h_a : inU a 18446744073709551616 = true) (h_l : inUs 18446744073709551616 l = true) (g_l : Nat.ble l.length 9223372036854775807 = true) (h_q : inU q 18446744073709551616 = true) (h_m : O.isH (AV m) = true) (c0 : (!(newB O q n)) = true) (c1 : (!(frB O (O.pbase a) l.length)) = true) (c2 : (!(frB O q l.length)) = true) (c3 : (!(prtB n)) = true) : wpcI Try.prog (spPT false false false false O Z Y) Try.f3.ntmps [] (bodyOf Try.f3) 0 64 (envA [.v, .ro .u64, .v, .v, .v] [.v (.int .u64 a), .ints l, .v (.int .u64 q), .v (.agg (AV m)), .v (.int .i64 n)] 0) (memA [.v, .ro .u64, .v, .v, .v] [.v (.int .u64 a), .ints l, .v (.int .u64 q), .v (.agg (AV m)), .v (.int .i64 n)] 0) (retG Try.prog Try.f3.results.toList [.v (.bool true)]) :=
  Eq.mpr (by kernel_rfl) (vc_paTells_15 O Z Y a q n l m F G pc h_a h_l g_l h_q h_m c0 c1 c2 c3)
theorem ok_paTells_15 : Sx.SpecOK I0 Try.prog 3 (gspec [.v, .ro .u64, .v, .v, .v] (g_paTells_15 oo (zO oo) (yO oo))) := by
  refine spec_genAI (spPT_ok I0 false false false false oo rfl (zO oo) rfl (yO oo) rfl) (by kernel_rfl) (fun xs => match xs with | [.v (.int .u64 a), .ints l, .v (.int .u64 q), .v (.agg m), .v (.int .i64 n)] => [] | _ => []) Try.func3 (by kernel_rfl) (by kernel_rfl) rfl Try.ntmps3 (by decide) ?_ ?_
  · intro xs p rs h; unfold g_paTells_15 at h; split at h <;> first | (simp only [Option.some.injEq, Prod.mk.injEq] at h; rw [← h.2]; simp) | cases h
  · intro xs rs hl h
    unfold g_paTells_15 at h
    split at h
    · rename_i a l q m n
      simp only [Option.some.injEq, Prod.mk.injEq, Bool.and_eq_true] at h
      obtain ⟨⟨⟨⟨⟨⟨⟨⟨⟨h_a, h_l⟩, g_l⟩, h_q⟩, h_m⟩, c0⟩, c1⟩, c2⟩, c3⟩, rfl⟩ := h
      obtain ⟨m, rfl⟩ := isH_AV h_m
      exact wpc_paTells_15 oo (zO oo) (yO oo) a q n l m (fo_oo oo rfl) fp_oo pc' h_a h_l g_l h_q h_m c0 c1 c2 c3
    · cases h
theorem walk_paTells (w : World) (a : Nat) (hb_a : a < 18446744073709551616) (a_l : Option Addr) (len_l cap_l : Nat) (z_l : List Int) (hr_l : IsRow .u64 w a_l len_l cap_l z_l) (hs_l : ∀ x, a_l = some x → x.spot = none ∧ x.block < w.heap.size) (q : Nat) (hb_q : q < 18446744073709551616) (l_m : List Nat) (hl_m : l_m.length = 32) (hb_m : ∀ i, l_m.getD i 0 < 256) (n : Int) (hb_n : -9223372036854775808 ≤ n ∧ n ≤ 9223372036854775807) : Calls Try.prog 3 #[.int .u64 (a : Int), .slice a_l len_l cap_l, .int .u64 (q : Int), B8 l_m, .int .i64 n] w fun e w' => e = .returned (.bool true) ∧ Kp w w' := by
  obtain ⟨m, e_m, i_m⟩ := bcs_AV l_m hl_m hb_m
  rw [show (B8 l_m : Value) = .agg (AV m) from congrArg Value.agg e_m]
  have s0 := Bool.eq_false_or_eq_true (newB oo (q : Int) n)
  have s1 := Bool.eq_false_or_eq_true (frB oo (oo.pbase (a : Int)) (z_l.take len_l).length)
  have s2 := Bool.eq_false_or_eq_true (frB oo (q : Int) (z_l.take len_l).length)
  have s3 := Bool.eq_false_or_eq_true (prtB n)
  rcases s0 with c0 | c0
  · skip
    rcases s1 with c1 | c1
    · skip
      rcases s2 with c2 | c2
      · skip
        rcases s3 with c3 | c3
        · skip
          have hg : g_paTells_0 oo (zO oo) (yO oo) [.v (.int .u64 (a : Int)), .ints (z_l.take len_l), .v (.int .u64 (q : Int)), .v (.agg (AV m)), .v (.int .i64 n)] = some (true, [.v (.bool true)]) := by
            unfold g_paTells_0
            simp only [Option.some.injEq, Prod.mk.injEq, Bool.and_eq_true, and_true]
            exact ⟨⟨⟨⟨⟨⟨⟨⟨inU_of hb_a, isRow_in hr_l⟩, (by rw [(isRow_len hr_l).1]; exact (isRow_len hr_l).2)⟩, inU_of hb_q⟩, isH_oo i_m⟩, c0⟩, c1⟩, c2⟩, c3⟩
          exact (calls_ro ok_paTells_0 (.slice a_l len_l cap_l) _ (xs := [.v (.int .u64 (a : Int)), .row 0, .v (.int .u64 (q : Int)), .v (.agg (AV m)), .v (.int .i64 n)]) (isRow_reads hr_l hs_l) (fun b hb => by obtain ⟨x, hx, rfl⟩ := hb; exact (hs_l x hx).2) rfl rfl rfl hg).mono fun _ _ ⟨he, hf⟩ => ⟨he, fr_below hf⟩
        · skip
          have hg : g_paTells_1 oo (zO oo) (yO oo) [.v (.int .u64 (a : Int)), .ints (z_l.take len_l), .v (.int .u64 (q : Int)), .v (.agg (AV m)), .v (.int .i64 n)] = some (true, [.v (.bool true)]) := by
            unfold g_paTells_1
            simp only [Option.some.injEq, Prod.mk.injEq, Bool.and_eq_true, and_true]
            exact ⟨⟨⟨⟨⟨⟨⟨⟨inU_of hb_a, isRow_in hr_l⟩, (by rw [(isRow_len hr_l).1]; exact (isRow_len hr_l).2)⟩, inU_of hb_q⟩, isH_oo i_m⟩, c0⟩, c1⟩, c2⟩, (by rw [c3]; rfl)⟩
          exact (calls_ro ok_paTells_1 (.slice a_l len_l cap_l) _ (xs := [.v (.int .u64 (a : Int)), .row 0, .v (.int .u64 (q : Int)), .v (.agg (AV m)), .v (.int .i64 n)]) (isRow_reads hr_l hs_l) (fun b hb => by obtain ⟨x, hx, rfl⟩ := hb; exact (hs_l x hx).2) rfl rfl rfl hg).mono fun _ _ ⟨he, hf⟩ => ⟨he, fr_below hf⟩
      · skip
        rcases s3 with c3 | c3
        · skip
          have hg : g_paTells_2 oo (zO oo) (yO oo) [.v (.int .u64 (a : Int)), .ints (z_l.take len_l), .v (.int .u64 (q : Int)), .v (.agg (AV m)), .v (.int .i64 n)] = some (true, [.v (.bool true)]) := by
            unfold g_paTells_2
            simp only [Option.some.injEq, Prod.mk.injEq, Bool.and_eq_true, and_true]
            exact ⟨⟨⟨⟨⟨⟨⟨⟨inU_of hb_a, isRow_in hr_l⟩, (by rw [(isRow_len hr_l).1]; exact (isRow_len hr_l).2)⟩, inU_of hb_q⟩, isH_oo i_m⟩, c0⟩, c1⟩, (by rw [c2]; rfl)⟩, c3⟩
          exact (calls_ro ok_paTells_2 (.slice a_l len_l cap_l) _ (xs := [.v (.int .u64 (a : Int)), .row 0, .v (.int .u64 (q : Int)), .v (.agg (AV m)), .v (.int .i64 n)]) (isRow_reads hr_l hs_l) (fun b hb => by obtain ⟨x, hx, rfl⟩ := hb; exact (hs_l x hx).2) rfl rfl rfl hg).mono fun _ _ ⟨he, hf⟩ => ⟨he, fr_below hf⟩
        · skip
          have hg : g_paTells_3 oo (zO oo) (yO oo) [.v (.int .u64 (a : Int)), .ints (z_l.take len_l), .v (.int .u64 (q : Int)), .v (.agg (AV m)), .v (.int .i64 n)] = some (true, [.v (.bool true)]) := by
            unfold g_paTells_3
            simp only [Option.some.injEq, Prod.mk.injEq, Bool.and_eq_true, and_true]
            exact ⟨⟨⟨⟨⟨⟨⟨⟨inU_of hb_a, isRow_in hr_l⟩, (by rw [(isRow_len hr_l).1]; exact (isRow_len hr_l).2)⟩, inU_of hb_q⟩, isH_oo i_m⟩, c0⟩, c1⟩, (by rw [c2]; rfl)⟩, (by rw [c3]; rfl)⟩
          exact (calls_ro ok_paTells_3 (.slice a_l len_l cap_l) _ (xs := [.v (.int .u64 (a : Int)), .row 0, .v (.int .u64 (q : Int)), .v (.agg (AV m)), .v (.int .i64 n)]) (isRow_reads hr_l hs_l) (fun b hb => by obtain ⟨x, hx, rfl⟩ := hb; exact (hs_l x hx).2) rfl rfl rfl hg).mono fun _ _ ⟨he, hf⟩ => ⟨he, fr_below hf⟩
    · skip
      rcases s2 with c2 | c2
      · skip
        rcases s3 with c3 | c3
        · skip
          have hg : g_paTells_4 oo (zO oo) (yO oo) [.v (.int .u64 (a : Int)), .ints (z_l.take len_l), .v (.int .u64 (q : Int)), .v (.agg (AV m)), .v (.int .i64 n)] = some (true, [.v (.bool true)]) := by
            unfold g_paTells_4
            simp only [Option.some.injEq, Prod.mk.injEq, Bool.and_eq_true, and_true]
            exact ⟨⟨⟨⟨⟨⟨⟨⟨inU_of hb_a, isRow_in hr_l⟩, (by rw [(isRow_len hr_l).1]; exact (isRow_len hr_l).2)⟩, inU_of hb_q⟩, isH_oo i_m⟩, c0⟩, (by rw [c1]; rfl)⟩, c2⟩, c3⟩
          exact (calls_ro ok_paTells_4 (.slice a_l len_l cap_l) _ (xs := [.v (.int .u64 (a : Int)), .row 0, .v (.int .u64 (q : Int)), .v (.agg (AV m)), .v (.int .i64 n)]) (isRow_reads hr_l hs_l) (fun b hb => by obtain ⟨x, hx, rfl⟩ := hb; exact (hs_l x hx).2) rfl rfl rfl hg).mono fun _ _ ⟨he, hf⟩ => ⟨he, fr_below hf⟩
        · skip
          have hg : g_paTells_5 oo (zO oo) (yO oo) [.v (.int .u64 (a : Int)), .ints (z_l.take len_l), .v (.int .u64 (q : Int)), .v (.agg (AV m)), .v (.int .i64 n)] = some (true, [.v (.bool true)]) := by
            unfold g_paTells_5
            simp only [Option.some.injEq, Prod.mk.injEq, Bool.and_eq_true, and_true]
            exact ⟨⟨⟨⟨⟨⟨⟨⟨inU_of hb_a, isRow_in hr_l⟩, (by rw [(isRow_len hr_l).1]; exact (isRow_len hr_l).2)⟩, inU_of hb_q⟩, isH_oo i_m⟩, c0⟩, (by rw [c1]; rfl)⟩, c2⟩, (by rw [c3]; rfl)⟩
          exact (calls_ro ok_paTells_5 (.slice a_l len_l cap_l) _ (xs := [.v (.int .u64 (a : Int)), .row 0, .v (.int .u64 (q : Int)), .v (.agg (AV m)), .v (.int .i64 n)]) (isRow_reads hr_l hs_l) (fun b hb => by obtain ⟨x, hx, rfl⟩ := hb; exact (hs_l x hx).2) rfl rfl rfl hg).mono fun _ _ ⟨he, hf⟩ => ⟨he, fr_below hf⟩
      · skip
        rcases s3 with c3 | c3
        · skip
          have hg : g_paTells_6 oo (zO oo) (yO oo) [.v (.int .u64 (a : Int)), .ints (z_l.take len_l), .v (.int .u64 (q : Int)), .v (.agg (AV m)), .v (.int .i64 n)] = some (true, [.v (.bool true)]) := by
            unfold g_paTells_6
            simp only [Option.some.injEq, Prod.mk.injEq, Bool.and_eq_true, and_true]
            exact ⟨⟨⟨⟨⟨⟨⟨⟨inU_of hb_a, isRow_in hr_l⟩, (by rw [(isRow_len hr_l).1]; exact (isRow_len hr_l).2)⟩, inU_of hb_q⟩, isH_oo i_m⟩, c0⟩, (by rw [c1]; rfl)⟩, (by rw [c2]; rfl)⟩, c3⟩
          exact (calls_ro ok_paTells_6 (.slice a_l len_l cap_l) _ (xs := [.v (.int .u64 (a : Int)), .row 0, .v (.int .u64 (q : Int)), .v (.agg (AV m)), .v (.int .i64 n)]) (isRow_reads hr_l hs_l) (fun b hb => by obtain ⟨x, hx, rfl⟩ := hb; exact (hs_l x hx).2) rfl rfl rfl hg).mono fun _ _ ⟨he, hf⟩ => ⟨he, fr_below hf⟩
        · skip
          have hg : g_paTells_7 oo (zO oo) (yO oo) [.v (.int .u64 (a : Int)), .ints (z_l.take len_l), .v (.int .u64 (q : Int)), .v (.agg (AV m)), .v (.int .i64 n)] = some (true, [.v (.bool true)]) := by
            unfold g_paTells_7
            simp only [Option.some.injEq, Prod.mk.injEq, Bool.and_eq_true, and_true]
            exact ⟨⟨⟨⟨⟨⟨⟨⟨inU_of hb_a, isRow_in hr_l⟩, (by rw [(isRow_len hr_l).1]; exact (isRow_len hr_l).2)⟩, inU_of hb_q⟩, isH_oo i_m⟩, c0⟩, (by rw [c1]; rfl)⟩, (by rw [c2]; rfl)⟩, (by rw [c3]; rfl)⟩
          exact (calls_ro ok_paTells_7 (.slice a_l len_l cap_l) _ (xs := [.v (.int .u64 (a : Int)), .row 0, .v (.int .u64 (q : Int)), .v (.agg (AV m)), .v (.int .i64 n)]) (isRow_reads hr_l hs_l) (fun b hb => by obtain ⟨x, hx, rfl⟩ := hb; exact (hs_l x hx).2) rfl rfl rfl hg).mono fun _ _ ⟨he, hf⟩ => ⟨he, fr_below hf⟩
  · skip
    rcases s1 with c1 | c1
    · skip
      rcases s2 with c2 | c2
      · skip
        rcases s3 with c3 | c3
        · skip
          have hg : g_paTells_8 oo (zO oo) (yO oo) [.v (.int .u64 (a : Int)), .ints (z_l.take len_l), .v (.int .u64 (q : Int)), .v (.agg (AV m)), .v (.int .i64 n)] = some (true, [.v (.bool true)]) := by
            unfold g_paTells_8
            simp only [Option.some.injEq, Prod.mk.injEq, Bool.and_eq_true, and_true]
            exact ⟨⟨⟨⟨⟨⟨⟨⟨inU_of hb_a, isRow_in hr_l⟩, (by rw [(isRow_len hr_l).1]; exact (isRow_len hr_l).2)⟩, inU_of hb_q⟩, isH_oo i_m⟩, (by rw [c0]; rfl)⟩, c1⟩, c2⟩, c3⟩
          exact (calls_ro ok_paTells_8 (.slice a_l len_l cap_l) _ (xs := [.v (.int .u64 (a : Int)), .row 0, .v (.int .u64 (q : Int)), .v (.agg (AV m)), .v (.int .i64 n)]) (isRow_reads hr_l hs_l) (fun b hb => by obtain ⟨x, hx, rfl⟩ := hb; exact (hs_l x hx).2) rfl rfl rfl hg).mono fun _ _ ⟨he, hf⟩ => ⟨he, fr_below hf⟩
        · skip
          have hg : g_paTells_9 oo (zO oo) (yO oo) [.v (.int .u64 (a : Int)), .ints (z_l.take len_l), .v (.int .u64 (q : Int)), .v (.agg (AV m)), .v (.int .i64 n)] = some (true, [.v (.bool true)]) := by
            unfold g_paTells_9
            simp only [Option.some.injEq, Prod.mk.injEq, Bool.and_eq_true, and_true]
            exact ⟨⟨⟨⟨⟨⟨⟨⟨inU_of hb_a, isRow_in hr_l⟩, (by rw [(isRow_len hr_l).1]; exact (isRow_len hr_l).2)⟩, inU_of hb_q⟩, isH_oo i_m⟩, (by rw [c0]; rfl)⟩, c1⟩, c2⟩, (by rw [c3]; rfl)⟩
          exact (calls_ro ok_paTells_9 (.slice a_l len_l cap_l) _ (xs := [.v (.int .u64 (a : Int)), .row 0, .v (.int .u64 (q : Int)), .v (.agg (AV m)), .v (.int .i64 n)]) (isRow_reads hr_l hs_l) (fun b hb => by obtain ⟨x, hx, rfl⟩ := hb; exact (hs_l x hx).2) rfl rfl rfl hg).mono fun _ _ ⟨he, hf⟩ => ⟨he, fr_below hf⟩
      · skip
        rcases s3 with c3 | c3
        · skip
          have hg : g_paTells_10 oo (zO oo) (yO oo) [.v (.int .u64 (a : Int)), .ints (z_l.take len_l), .v (.int .u64 (q : Int)), .v (.agg (AV m)), .v (.int .i64 n)] = some (true, [.v (.bool true)]) := by
            unfold g_paTells_10
            simp only [Option.some.injEq, Prod.mk.injEq, Bool.and_eq_true, and_true]
            exact ⟨⟨⟨⟨⟨⟨⟨⟨inU_of hb_a, isRow_in hr_l⟩, (by rw [(isRow_len hr_l).1]; exact (isRow_len hr_l).2)⟩, inU_of hb_q⟩, isH_oo i_m⟩, (by rw [c0]; rfl)⟩, c1⟩, (by rw [c2]; rfl)⟩, c3⟩
          exact (calls_ro ok_paTells_10 (.slice a_l len_l cap_l) _ (xs := [.v (.int .u64 (a : Int)), .row 0, .v (.int .u64 (q : Int)), .v (.agg (AV m)), .v (.int .i64 n)]) (isRow_reads hr_l hs_l) (fun b hb => by obtain ⟨x, hx, rfl⟩ := hb; exact (hs_l x hx).2) rfl rfl rfl hg).mono fun _ _ ⟨he, hf⟩ => ⟨he, fr_below hf⟩
        · skip
          have hg : g_paTells_11 oo (zO oo) (yO oo) [.v (.int .u64 (a : Int)), .ints (z_l.take len_l), .v (.int .u64 (q : Int)), .v (.agg (AV m)), .v (.int .i64 n)] = some (true, [.v (.bool true)]) := by
            unfold g_paTells_11
            simp only [Option.some.injEq, Prod.mk.injEq, Bool.and_eq_true, and_true]
            exact ⟨⟨⟨⟨⟨⟨⟨⟨inU_of hb_a, isRow_in hr_l⟩, (by rw [(isRow_len hr_l).1]; exact (isRow_len hr_l).2)⟩, inU_of hb_q⟩, isH_oo i_m⟩, (by rw [c0]; rfl)⟩, c1⟩, (by rw [c2]; rfl)⟩, (by rw [c3]; rfl)⟩
          exact (calls_ro ok_paTells_11 (.slice a_l len_l cap_l) _ (xs := [.v (.int .u64 (a : Int)), .row 0, .v (.int .u64 (q : Int)), .v (.agg (AV m)), .v (.int .i64 n)]) (isRow_reads hr_l hs_l) (fun b hb => by obtain ⟨x, hx, rfl⟩ := hb; exact (hs_l x hx).2) rfl rfl rfl hg).mono fun _ _ ⟨he, hf⟩ => ⟨he, fr_below hf⟩
    · skip
      rcases s2 with c2 | c2
      · skip
        rcases s3 with c3 | c3
        · skip
          have hg : g_paTells_12 oo (zO oo) (yO oo) [.v (.int .u64 (a : Int)), .ints (z_l.take len_l), .v (.int .u64 (q : Int)), .v (.agg (AV m)), .v (.int .i64 n)] = some (true, [.v (.bool true)]) := by
            unfold g_paTells_12
            simp only [Option.some.injEq, Prod.mk.injEq, Bool.and_eq_true, and_true]
            exact ⟨⟨⟨⟨⟨⟨⟨⟨inU_of hb_a, isRow_in hr_l⟩, (by rw [(isRow_len hr_l).1]; exact (isRow_len hr_l).2)⟩, inU_of hb_q⟩, isH_oo i_m⟩, (by rw [c0]; rfl)⟩, (by rw [c1]; rfl)⟩, c2⟩, c3⟩
          exact (calls_ro ok_paTells_12 (.slice a_l len_l cap_l) _ (xs := [.v (.int .u64 (a : Int)), .row 0, .v (.int .u64 (q : Int)), .v (.agg (AV m)), .v (.int .i64 n)]) (isRow_reads hr_l hs_l) (fun b hb => by obtain ⟨x, hx, rfl⟩ := hb; exact (hs_l x hx).2) rfl rfl rfl hg).mono fun _ _ ⟨he, hf⟩ => ⟨he, fr_below hf⟩
        · skip
          have hg : g_paTells_13 oo (zO oo) (yO oo) [.v (.int .u64 (a : Int)), .ints (z_l.take len_l), .v (.int .u64 (q : Int)), .v (.agg (AV m)), .v (.int .i64 n)] = some (true, [.v (.bool true)]) := by
            unfold g_paTells_13
            simp only [Option.some.injEq, Prod.mk.injEq, Bool.and_eq_true, and_true]
            exact ⟨⟨⟨⟨⟨⟨⟨⟨inU_of hb_a, isRow_in hr_l⟩, (by rw [(isRow_len hr_l).1]; exact (isRow_len hr_l).2)⟩, inU_of hb_q⟩, isH_oo i_m⟩, (by rw [c0]; rfl)⟩, (by rw [c1]; rfl)⟩, c2⟩, (by rw [c3]; rfl)⟩
          exact (calls_ro ok_paTells_13 (.slice a_l len_l cap_l) _ (xs := [.v (.int .u64 (a : Int)), .row 0, .v (.int .u64 (q : Int)), .v (.agg (AV m)), .v (.int .i64 n)]) (isRow_reads hr_l hs_l) (fun b hb => by obtain ⟨x, hx, rfl⟩ := hb; exact (hs_l x hx).2) rfl rfl rfl hg).mono fun _ _ ⟨he, hf⟩ => ⟨he, fr_below hf⟩
      · skip
        rcases s3 with c3 | c3
        · skip
          have hg : g_paTells_14 oo (zO oo) (yO oo) [.v (.int .u64 (a : Int)), .ints (z_l.take len_l), .v (.int .u64 (q : Int)), .v (.agg (AV m)), .v (.int .i64 n)] = some (true, [.v (.bool true)]) := by
            unfold g_paTells_14
            simp only [Option.some.injEq, Prod.mk.injEq, Bool.and_eq_true, and_true]
            exact ⟨⟨⟨⟨⟨⟨⟨⟨inU_of hb_a, isRow_in hr_l⟩, (by rw [(isRow_len hr_l).1]; exact (isRow_len hr_l).2)⟩, inU_of hb_q⟩, isH_oo i_m⟩, (by rw [c0]; rfl)⟩, (by rw [c1]; rfl)⟩, (by rw [c2]; rfl)⟩, c3⟩
          exact (calls_ro ok_paTells_14 (.slice a_l len_l cap_l) _ (xs := [.v (.int .u64 (a : Int)), .row 0, .v (.int .u64 (q : Int)), .v (.agg (AV m)), .v (.int .i64 n)]) (isRow_reads hr_l hs_l) (fun b hb => by obtain ⟨x, hx, rfl⟩ := hb; exact (hs_l x hx).2) rfl rfl rfl hg).mono fun _ _ ⟨he, hf⟩ => ⟨he, fr_below hf⟩
        · skip
          have hg : g_paTells_15 oo (zO oo) (yO oo) [.v (.int .u64 (a : Int)), .ints (z_l.take len_l), .v (.int .u64 (q : Int)), .v (.agg (AV m)), .v (.int .i64 n)] = some (true, [.v (.bool true)]) := by
            unfold g_paTells_15
            simp only [Option.some.injEq, Prod.mk.injEq, Bool.and_eq_true, and_true]
            exact ⟨⟨⟨⟨⟨⟨⟨⟨inU_of hb_a, isRow_in hr_l⟩, (by rw [(isRow_len hr_l).1]; exact (isRow_len hr_l).2)⟩, inU_of hb_q⟩, isH_oo i_m⟩, (by rw [c0]; rfl)⟩, (by rw [c1]; rfl)⟩, (by rw [c2]; rfl)⟩, (by rw [c3]; rfl)⟩
          exact (calls_ro ok_paTells_15 (.slice a_l len_l cap_l) _ (xs := [.v (.int .u64 (a : Int)), .row 0, .v (.int .u64 (q : Int)), .v (.agg (AV m)), .v (.int .i64 n)]) (isRow_reads hr_l hs_l) (fun b hb => by obtain ⟨x, hx, rfl⟩ := hb; exact (hs_l x hx).2) rfl rfl rfl hg).mono fun _ _ ⟨he, hf⟩ => ⟨he, fr_below hf⟩
end Go.Proofs.Ytheihhjlkefhgaa
