/- Keys: the further functions of the program and of the document (printed by genky.py; VCs by VcTool). -/
import Derived.Test.YtheihhjlkefhgaaDoorKy1
namespace Go.Proofs.YtheihhjlkefhgaaDoor
open Go.RowKit Go.Lib Ckp Cfd Cpd Sx
set_option linter.unusedVariables false
set_option linter.unusedSimpArgs false
set_option maxRecDepth 1000000
def spY2 (O : OO) (Y : OY) (f : FuncId) : Option Sx.Spec := match f with
 | 26 => some (gspec [.v, .ro .u64] (g_fac O Y))
 | f => spY1 O Y f
theorem spY2_ok (I : Sx.Interp) (O : OO) (hO : O = oo) (Y : OY) (hY : Y = yO O) : ∀ f s, spY2 O Y f = some s → Sx.SpecOK I Tryd.prog f s := by
 intro f s h
 unfold spY2 at h
 split at h
 · cases h; exact ok_fac I O hO Y hY
 ·exact spY1_ok I O hO Y hY _ s h
def g_sec (O : OO) (Y : OY) (l : List Value) : Option (Bool × Value) := match l with
 | [.agg m, .int .i64 n] => some ((O.isH m), .tuple #[.agg (AV (secF Y n m)), .bool (okN n)])
 | _ => none
set_option maxHeartbeats 4000000 in
theorem vc_sec (O : OO) (Y : OY) (n : Int) (m : Nat → Int) (out : Value) (F : FO O) (hy : Y = yO O) (h0 : O.isH (AV m) = true) (ho : .tuple #[.agg (AV (secF Y n (AV m))), .bool (okN n)] = out) :
 If (iLt n 0) (Value.tuple (Array.mk [Value.agg (Array.mk [Value.int .u8 0, Value.int .u8 0, Value.int .u8 0, Value.int .u8 0, Value.int .u8 0, Value.int .u8 0, Value.int .u8 0,
  Value.int .u8 0, Value.int .u8 0, Value.int .u8 0, Value.int .u8 0, Value.int .u8 0, Value.int .u8 0, Value.int .u8 0, Value.int .u8 0, Value.int .u8 0, Value.int .u8 0, Value.int
  .u8 0, Value.int .u8 0, Value.int .u8 0, Value.int .u8 0, Value.int .u8 0, Value.int .u8 0, Value.int .u8 0, Value.int .u8 0, Value.int .u8 0, Value.int .u8 0, Value.int .u8 0,
  Value.int .u8 0, Value.int .u8 0, Value.int .u8 0, Value.int .u8 0]), Value.bool false]) = out) (If (iLe 1048576 n) (Value.tuple (Array.mk [Value.agg (Array.mk [Value.int .u8 0,
  Value.int .u8 0, Value.int .u8 0, Value.int .u8 0, Value.int .u8 0, Value.int .u8 0, Value.int .u8 0, Value.int .u8 0, Value.int .u8 0, Value.int .u8 0, Value.int .u8 0, Value.int
  .u8 0, Value.int .u8 0, Value.int .u8 0, Value.int .u8 0, Value.int .u8 0, Value.int .u8 0, Value.int .u8 0, Value.int .u8 0, Value.int .u8 0, Value.int .u8 0, Value.int .u8 0,
  Value.int .u8 0, Value.int .u8 0, Value.int .u8 0, Value.int .u8 0, Value.int .u8 0, Value.int .u8 0, Value.int .u8 0, Value.int .u8 0, Value.int .u8 0, Value.int .u8 0]),
  Value.bool false]) = out) (If (O.isH (Array.mk (List.map (Value.int .u8) (tabI m 32)))) (Value.tuple (Array.mk [Value.agg (Array.mk (List.map (Value.int .u8) (tabI (Y.cs
  (IntKind.i64.wrap (iSub 1048575 n)) (Array.mk (List.map (Value.int .u8) (tabI m 32)))) 32))), Value.bool true]) = out) False)) := by
 have hAm : O.isH (Array.mk (List.map (Value.int IntKind.u8) (tabI m 32))) = true := h0
 cases e1 : iLt n 0 with
 | true =>
  have hk : okN n = false := by unfold okN; rw [e1]; rfl
  rw [secF_no hk, hk] at ho
  refine Sx.if_true rfl ?_
  rw [← ho]
  kernel_rfl
 | false =>
  refine Sx.if_false rfl ?_
  cases e2 : iLe 1048576 n with
  | true =>
   have hk : okN n = false := by unfold okN; rw [e1, e2]; rfl
   rw [secF_no hk, hk] at ho
   refine Sx.if_true rfl ?_
   rw [← ho]
   kernel_rfl
  | false =>
   have hk : okN n = true := by unfold okN; rw [e1, e2]; rfl
   rw [secF_yes hk, hk] at ho
   refine Sx.if_false rfl (Sx.if_true hAm ?_)
   rw [← ho]
   kernel_rfl
theorem wpc_sec (O : OO) (Y : OY) (n : Int) (m : Nat → Int) (out : Value) (F : FO O) (hy : Y = yO O) (h0 : O.isH (AV m) = true) (ho : .tuple #[.agg (AV (secF Y n (AV m))), .bool (okN n)] = out) : wpcI Tryd.prog (spY2 O Y) Tryd.f8.ntmps [] (bodyOf Tryd.f8) 0 0 (argEnv [.agg (AV m), .int .i64 n] 0) [] (retK Tryd.prog Tryd.f8.results.toList out) :=
 Eq.mpr (by kernel_rfl) (vc_sec O Y n m out F hy h0 ho)
theorem ok_sec (I : Sx.Interp) (O : OO) (hO : O = oo) (Y : OY) (hY : Y = yO O) : Sx.SpecOK I Tryd.prog 8 (Sx.vspec (g_sec O Y)) := by
 refine spec_walk (n := 2) (spY2_ok I O hO Y hY) (by kernel_rfl) [] Tryd.func8 (by kernel_rfl) (by kernel_rfl) rfl Tryd.ntmps8 (by decide) ?_ ?_
 ·intro l p v hg; unfold g_sec at hg; split at hg <;> first | rfl | cases hg
 ·intro l v hg
  unfold g_sec at hg
  split at hg
  ·rename_i m n
   simp only [Option.some.injEq, Prod.mk.injEq, Bool.and_eq_true] at hg
   obtain ⟨q0, rfl⟩ := hg
   obtain ⟨m, rfl⟩ := isH_AV (by subst hO; exact q0 : isHa m = true)
   exact wpc_sec O Y n m  _ (fo_oo O hO) hY q0  rfl
  ·cases hg
def g_rsec (O : OO) (Y : OY) (l : List Value) : Option (Bool × Value) := match l with
 | [.agg m, .int .i64 n] => some ((O.isH m), .tuple #[.agg (AV (secF Y n m)), .bool (okN n)])
 | _ => none
def g_perof (O : OO) (Y : OY) (l : List Value) : Option (Bool × Value) := match l with
 | [.agg m] => some ((O.isH m), .int .u64 (perO O m))
 | _ => none
set_option maxHeartbeats 4000000 in
theorem vc_perof (O : OO) (Y : OY) (m : Nat → Int) (out : Value) (F : FO O) (hy : Y = yO O) (h0 : O.isH (AV m) = true) (ho : .int .u64 (perO O (AV m)) = out) :
 If (decide (O.isH (AV m) = true)) (If (inU (O.ffrom (Array.mk (List.map (Value.int .u8) (tabI m 32)))) 18446744073709551616) (Value.int .u64 (O.pbase (O.ffrom (Array.mk (List.map
  (Value.int .u8) (tabI m 32))))) = out) False) False := by
 have hAm : O.isH (Array.mk (List.map (Value.int IntKind.u8) (tabI m 32))) = true := h0
 simp only [F.ffrom, If_t]
 exact Sx.if_true (decide_eq_true h0) ho
theorem wpc_perof (O : OO) (Y : OY) (m : Nat → Int) (out : Value) (F : FO O) (hy : Y = yO O) (h0 : O.isH (AV m) = true) (ho : .int .u64 (perO O (AV m)) = out) : wpcI Tryd.prog (spY2 O Y) Tryd.f12.ntmps [] (bodyOf Tryd.f12) 0 0 (argEnv [.agg (AV m)] 0) [] (retK Tryd.prog Tryd.f12.results.toList out) :=
 Eq.mpr (by kernel_rfl) (vc_perof O Y m out F hy h0 ho)
theorem ok_perof (I : Sx.Interp) (O : OO) (hO : O = oo) (Y : OY) (hY : Y = yO O) : Sx.SpecOK I Tryd.prog 12 (Sx.vspec (g_perof O Y)) := by
 refine spec_walk (n := 1) (spY2_ok I O hO Y hY) (by kernel_rfl) [] Tryd.func12 (by kernel_rfl) (by kernel_rfl) rfl Tryd.ntmps12 (by decide) ?_ ?_
 ·intro l p v hg; unfold g_perof at hg; split at hg <;> first | rfl | cases hg
 ·intro l v hg
  unfold g_perof at hg
  split at hg
  ·rename_i m
   simp only [Option.some.injEq, Prod.mk.injEq, Bool.and_eq_true] at hg
   obtain ⟨q0, rfl⟩ := hg
   obtain ⟨m, rfl⟩ := isH_AV (by subst hO; exact q0 : isHa m = true)
   exact wpc_perof O Y m  _ (fo_oo O hO) hY q0  rfl
  ·cases hg
def g_rperof (O : OO) (Y : OY) (l : List Value) : Option (Bool × Value) := match l with
 | [.agg m] => some ((O.isH m), .int .u64 (perO O m))
 | _ => none
def spY3 (O : OO) (Y : OY) (f : FuncId) : Option Sx.Spec := match f with
 | 8 => some (Sx.vspec (g_sec O Y))
 | 12 => some (Sx.vspec (g_perof O Y))
 | f => spY2 O Y f
theorem spY3_ok (I : Sx.Interp) (O : OO) (hO : O = oo) (Y : OY) (hY : Y = yO O) : ∀ f s, spY3 O Y f = some s → Sx.SpecOK I Tryd.prog f s := by
 intro f s h
 unfold spY3 at h
 split at h
 · cases h; exact ok_sec I O hO Y hY
 · cases h; exact ok_perof I O hO Y hY
 ·exact spY2_ok I O hO Y hY _ s h
def g_per (O : OO) (Y : OY) (l : List Value) : Option (Bool × Value) := match l with
 | [.agg ⟨.int .u64 a :: .int .u64 b :: .int .u64 c :: .int .u64 d :: .int .u64 e :: .int .u8 c0 :: .int .u8 c1 :: .int .u8 c2 :: .int .u8 c3 :: .int .u8 c4 :: .int .u8 c5 :: .int .u8 c6 :: .int .u8 c7 :: .int .u8 c8 :: .int .u8 c9 :: .int .u8 c10 :: .int .u8 c11 :: .int .u8 c12 :: .int .u8 c13 :: .int .u8 c14 :: .int .u8 c15 :: .int .u8 c16 :: .int .u8 c17 :: .int .u8 c18 :: .int .u8 c19 :: .int .u8 c20 :: .int .u8 c21 :: .int .u8 c22 :: .int .u8 c23 :: .int .u8 c24 :: .int .u8 c25 :: .int .u8 c26 :: .int .u8 c27 :: .int .u8 c28 :: .int .u8 c29 :: .int .u8 c30 :: .int .u8 c31 :: []⟩, .int .i64 n] => some ((inU a 18446744073709551616) && (inU b 18446744073709551616) && (inU c 18446744073709551616) && (inU d 18446744073709551616) && (inU e 18446744073709551616) && (O.isH (AV (cel [c0, c1, c2, c3, c4, c5, c6, c7, c8, c9, c10, c11, c12, c13, c14, c15, c16, c17, c18, c19, c20, c21, c22, c23, c24, c25, c26, c27, c28, c29, c30, c31]))), .tuple #[.int .u64 (bif okN n then perO O (AV (secF Y n (AV (cel [c0, c1, c2, c3, c4, c5, c6, c7, c8, c9, c10, c11, c12, c13, c14, c15, c16, c17, c18, c19, c20, c21, c22, c23, c24, c25, c26, c27, c28, c29, c30, c31])))) else 0), .bool (okN n)])
 | _ => none
set_option maxHeartbeats 4000000 in
theorem vc_per (O : OO) (Y : OY) (a b c d e c0 c1 c2 c3 c4 c5 c6 c7 c8 c9 c10 c11 c12 c13 c14 c15 c16 c17 c18 c19 c20 c21 c22 c23 c24 c25 c26 c27 c28 c29 c30 c31 n : Int) (out : Value) (F : FO O) (hy : Y = yO O) (h0 : inU a 18446744073709551616 = true) (h1 : inU b 18446744073709551616 = true) (h2 : inU c 18446744073709551616 = true) (h3 : inU d 18446744073709551616 = true) (h4 : inU e 18446744073709551616 = true) (h5 : O.isH (AV (cel [c0, c1, c2, c3, c4, c5, c6, c7, c8, c9, c10, c11, c12, c13, c14, c15, c16, c17, c18, c19, c20, c21, c22, c23, c24, c25, c26, c27, c28, c29, c30, c31])) = true) (ho : .tuple #[.int .u64 (bif okN n then perO O (AV (secF Y n (AV (cel [c0, c1, c2, c3, c4, c5, c6, c7, c8, c9, c10, c11, c12, c13, c14, c15, c16, c17, c18, c19, c20, c21, c22, c23, c24, c25, c26, c27, c28, c29, c30, c31])))) else 0), .bool (okN n)] = out) :
 If (O.isH ((Array.mk [Value.int .u64 a, Value.int .u64 b, Value.int .u64 c, Value.int .u64 d, Value.int .u64 e, Value.int .u8 c0, Value.int .u8 c1, Value.int .u8 c2, Value.int .u8
  c3, Value.int .u8 c4, Value.int .u8 c5, Value.int .u8 c6, Value.int .u8 c7, Value.int .u8 c8, Value.int .u8 c9, Value.int .u8 c10, Value.int .u8 c11, Value.int .u8 c12, Value.int
  .u8 c13, Value.int .u8 c14, Value.int .u8 c15, Value.int .u8 c16, Value.int .u8 c17, Value.int .u8 c18, Value.int .u8 c19, Value.int .u8 c20, Value.int .u8 c21, Value.int .u8 c22,
  Value.int .u8 c23, Value.int .u8 c24, Value.int .u8 c25, Value.int .u8 c26, Value.int .u8 c27, Value.int .u8 c28, Value.int .u8 c29, Value.int .u8 c30, Value.int .u8 c31]).extract 5
  37)) (If (!!bif iLt n 0 then true else iLe 1048576 n) (Value.tuple (Array.mk [Value.int .u64 0, Value.bool false]) = out) (If (O.isH (Array.mk (List.map (Value.int .u8) (tabI (fun
  (i : Nat) => bif !bif iLt n 0 then true else iLe 1048576 n then Y.cs (IntKind.i64.wrap (iSub 1048575 n)) ((Array.mk [Value.int .u64 a, Value.int .u64 b, Value.int .u64 c, Value.int
  .u64 d, Value.int .u64 e, Value.int .u8 c0, Value.int .u8 c1, Value.int .u8 c2, Value.int .u8 c3, Value.int .u8 c4, Value.int .u8 c5, Value.int .u8 c6, Value.int .u8 c7, Value.int
  .u8 c8, Value.int .u8 c9, Value.int .u8 c10, Value.int .u8 c11, Value.int .u8 c12, Value.int .u8 c13, Value.int .u8 c14, Value.int .u8 c15, Value.int .u8 c16, Value.int .u8 c17,
  Value.int .u8 c18, Value.int .u8 c19, Value.int .u8 c20, Value.int .u8 c21, Value.int .u8 c22, Value.int .u8 c23, Value.int .u8 c24, Value.int .u8 c25, Value.int .u8 c26, Value.int
  .u8 c27, Value.int .u8 c28, Value.int .u8 c29, Value.int .u8 c30, Value.int .u8 c31]).extract 5 37) i else 0) 32)))) (Value.tuple (Array.mk [Value.int .u64 (O.pbase (O.ffrom
  (Array.mk (List.map (Value.int .u8) (tabI (fun (i : Nat) => bif !bif iLt n 0 then true else iLe 1048576 n then Y.cs (IntKind.i64.wrap (iSub 1048575 n)) ((Array.mk [Value.int .u64 a,
  Value.int .u64 b, Value.int .u64 c, Value.int .u64 d, Value.int .u64 e, Value.int .u8 c0, Value.int .u8 c1, Value.int .u8 c2, Value.int .u8 c3, Value.int .u8 c4, Value.int .u8 c5,
  Value.int .u8 c6, Value.int .u8 c7, Value.int .u8 c8, Value.int .u8 c9, Value.int .u8 c10, Value.int .u8 c11, Value.int .u8 c12, Value.int .u8 c13, Value.int .u8 c14, Value.int .u8
  c15, Value.int .u8 c16, Value.int .u8 c17, Value.int .u8 c18, Value.int .u8 c19, Value.int .u8 c20, Value.int .u8 c21, Value.int .u8 c22, Value.int .u8 c23, Value.int .u8 c24,
  Value.int .u8 c25, Value.int .u8 c26, Value.int .u8 c27, Value.int .u8 c28, Value.int .u8 c29, Value.int .u8 c30, Value.int .u8 c31]).extract 5 37) i else 0) 32))))), Value.bool
  true]) = out) False)) False := by
 rw [show (Array.mk [Value.int .u64 a, Value.int .u64 b, Value.int .u64 c, Value.int .u64 d, Value.int .u64 e, Value.int .u8 c0, Value.int .u8 c1, Value.int .u8 c2, Value.int .u8 c3, Value.int .u8 c4, Value.int .u8 c5, Value.int .u8 c6, Value.int .u8 c7, Value.int .u8 c8, Value.int .u8 c9, Value.int .u8 c10, Value.int .u8 c11, Value.int .u8 c12, Value.int .u8 c13, Value.int .u8 c14, Value.int .u8 c15, Value.int .u8 c16, Value.int .u8 c17, Value.int .u8 c18, Value.int .u8 c19, Value.int .u8 c20, Value.int .u8 c21, Value.int .u8 c22, Value.int .u8 c23, Value.int .u8 c24, Value.int .u8 c25, Value.int .u8 c26, Value.int .u8 c27, Value.int .u8 c28, Value.int .u8 c29, Value.int .u8 c30, Value.int .u8 c31] : Array Value).extract 5 37 = AV (cel [c0, c1, c2, c3, c4, c5, c6, c7, c8, c9, c10, c11, c12, c13, c14, c15, c16, c17, c18, c19, c20, c21, c22, c23, c24, c25, c26, c27, c28, c29, c30, c31]) by kernel_rfl]
 refine Sx.if_true h5 ?_
 cases hk : okN n with
 | false =>
  refine Sx.if_true (show (!okN n) = true by rw [hk]; rfl) ?_
  rw [hk] at ho
  exact ho
 | true =>
  refine Sx.if_false (show (!okN n) = false by rw [hk]; rfl) (Sx.if_true (secH F hy h5 hk) ?_)
  rw [hk] at ho
  rw [← ho]
  kernel_rfl
theorem wpc_per (O : OO) (Y : OY) (a b c d e c0 c1 c2 c3 c4 c5 c6 c7 c8 c9 c10 c11 c12 c13 c14 c15 c16 c17 c18 c19 c20 c21 c22 c23 c24 c25 c26 c27 c28 c29 c30 c31 n : Int) (out : Value) (F : FO O) (hy : Y = yO O) (h0 : inU a 18446744073709551616 = true) (h1 : inU b 18446744073709551616 = true) (h2 : inU c 18446744073709551616 = true) (h3 : inU d 18446744073709551616 = true) (h4 : inU e 18446744073709551616 = true) (h5 : O.isH (AV (cel [c0, c1, c2, c3, c4, c5, c6, c7, c8, c9, c10, c11, c12, c13, c14, c15, c16, c17, c18, c19, c20, c21, c22, c23, c24, c25, c26, c27, c28, c29, c30, c31])) = true) (ho : .tuple #[.int .u64 (bif okN n then perO O (AV (secF Y n (AV (cel [c0, c1, c2, c3, c4, c5, c6, c7, c8, c9, c10, c11, c12, c13, c14, c15, c16, c17, c18, c19, c20, c21, c22, c23, c24, c25, c26, c27, c28, c29, c30, c31])))) else 0), .bool (okN n)] = out) : wpcI Tryd.prog (spY3 O Y) Tryd.f11.ntmps [] (bodyOf Tryd.f11) 0 0 (argEnv [.agg ⟨.int .u64 a :: .int .u64 b :: .int .u64 c :: .int .u64 d :: .int .u64 e :: .int .u8 c0 :: .int .u8 c1 :: .int .u8 c2 :: .int .u8 c3 :: .int .u8 c4 :: .int .u8 c5 :: .int .u8 c6 :: .int .u8 c7 :: .int .u8 c8 :: .int .u8 c9 :: .int .u8 c10 :: .int .u8 c11 :: .int .u8 c12 :: .int .u8 c13 :: .int .u8 c14 :: .int .u8 c15 :: .int .u8 c16 :: .int .u8 c17 :: .int .u8 c18 :: .int .u8 c19 :: .int .u8 c20 :: .int .u8 c21 :: .int .u8 c22 :: .int .u8 c23 :: .int .u8 c24 :: .int .u8 c25 :: .int .u8 c26 :: .int .u8 c27 :: .int .u8 c28 :: .int .u8 c29 :: .int .u8 c30 :: .int .u8 c31 :: []⟩, .int .i64 n] 0) [] (retK Tryd.prog Tryd.f11.results.toList out) :=
 Eq.mpr (by kernel_rfl) (vc_per O Y a b c d e c0 c1 c2 c3 c4 c5 c6 c7 c8 c9 c10 c11 c12 c13 c14 c15 c16 c17 c18 c19 c20 c21 c22 c23 c24 c25 c26 c27 c28 c29 c30 c31 n out F hy h0 h1 h2 h3 h4 h5 ho)
theorem ok_per (I : Sx.Interp) (O : OO) (hO : O = oo) (Y : OY) (hY : Y = yO O) : Sx.SpecOK I Tryd.prog 11 (Sx.vspec (g_per O Y)) := by
 refine spec_walk (n := 2) (spY3_ok I O hO Y hY) (by kernel_rfl) [] Tryd.func11 (by kernel_rfl) (by kernel_rfl) rfl Tryd.ntmps11 (by decide) ?_ ?_
 ·intro l p v hg; unfold g_per at hg; split at hg <;> first | rfl | cases hg
 ·intro l v hg
  unfold g_per at hg
  split at hg
  ·rename_i a b c d e c0 c1 c2 c3 c4 c5 c6 c7 c8 c9 c10 c11 c12 c13 c14 c15 c16 c17 c18 c19 c20 c21 c22 c23 c24 c25 c26 c27 c28 c29 c30 c31 n
   simp only [Option.some.injEq, Prod.mk.injEq, Bool.and_eq_true] at hg
   obtain ⟨⟨⟨⟨⟨⟨q0, q1⟩, q2⟩, q3⟩, q4⟩, q5⟩, rfl⟩ := hg
   exact wpc_per O Y a b c d e c0 c1 c2 c3 c4 c5 c6 c7 c8 c9 c10 c11 c12 c13 c14 c15 c16 c17 c18 c19 c20 c21 c22 c23 c24 c25 c26 c27 c28 c29 c30 c31 n  _ (fo_oo O hO) hY q0 q1 q2 q3 q4 q5  rfl
  ·cases hg
def g_rper (O : OO) (Y : OY) (l : List Value) : Option (Bool × Value) := match l with
 | [.agg ⟨.int .u64 a :: .int .u64 b :: .int .u64 c :: .int .u64 d :: .int .u64 e :: .int .u8 c0 :: .int .u8 c1 :: .int .u8 c2 :: .int .u8 c3 :: .int .u8 c4 :: .int .u8 c5 :: .int .u8 c6 :: .int .u8 c7 :: .int .u8 c8 :: .int .u8 c9 :: .int .u8 c10 :: .int .u8 c11 :: .int .u8 c12 :: .int .u8 c13 :: .int .u8 c14 :: .int .u8 c15 :: .int .u8 c16 :: .int .u8 c17 :: .int .u8 c18 :: .int .u8 c19 :: .int .u8 c20 :: .int .u8 c21 :: .int .u8 c22 :: .int .u8 c23 :: .int .u8 c24 :: .int .u8 c25 :: .int .u8 c26 :: .int .u8 c27 :: .int .u8 c28 :: .int .u8 c29 :: .int .u8 c30 :: .int .u8 c31 :: []⟩, .int .i64 n] => some ((inU a 18446744073709551616) && (inU b 18446744073709551616) && (inU c 18446744073709551616) && (inU d 18446744073709551616) && (inU e 18446744073709551616) && (O.isH (AV (cel [c0, c1, c2, c3, c4, c5, c6, c7, c8, c9, c10, c11, c12, c13, c14, c15, c16, c17, c18, c19, c20, c21, c22, c23, c24, c25, c26, c27, c28, c29, c30, c31]))), .tuple #[.int .u64 (bif okN n then perO O (AV (secF Y n (AV (cel [c0, c1, c2, c3, c4, c5, c6, c7, c8, c9, c10, c11, c12, c13, c14, c15, c16, c17, c18, c19, c20, c21, c22, c23, c24, c25, c26, c27, c28, c29, c30, c31])))) else 0), .bool (okN n)])
 | _ => none
def g_bas (O : OO) (Y : OY) (l : List Value) : Option (Bool × Value) := match l with
 | [.agg ⟨.int .u64 a :: .int .u64 b :: .int .u64 c :: .int .u64 d :: .int .u64 e :: .int .u8 c0 :: .int .u8 c1 :: .int .u8 c2 :: .int .u8 c3 :: .int .u8 c4 :: .int .u8 c5 :: .int .u8 c6 :: .int .u8 c7 :: .int .u8 c8 :: .int .u8 c9 :: .int .u8 c10 :: .int .u8 c11 :: .int .u8 c12 :: .int .u8 c13 :: .int .u8 c14 :: .int .u8 c15 :: .int .u8 c16 :: .int .u8 c17 :: .int .u8 c18 :: .int .u8 c19 :: .int .u8 c20 :: .int .u8 c21 :: .int .u8 c22 :: .int .u8 c23 :: .int .u8 c24 :: .int .u8 c25 :: .int .u8 c26 :: .int .u8 c27 :: .int .u8 c28 :: .int .u8 c29 :: .int .u8 c30 :: .int .u8 c31 :: []⟩] => some ((inU a 18446744073709551616) && (inU b 18446744073709551616) && (inU c 18446744073709551616) && (inU d 18446744073709551616) && (inU e 18446744073709551616), .agg #[.int .u64 (O.pbase a), .int .u64 (O.pbase b), .int .u64 (O.pbase c), .int .u64 (O.pbase d), .int .u64 (O.pbase e)])
 | _ => none
set_option maxHeartbeats 4000000 in
theorem vc_bas (O : OO) (Y : OY) (a b c d e c0 c1 c2 c3 c4 c5 c6 c7 c8 c9 c10 c11 c12 c13 c14 c15 c16 c17 c18 c19 c20 c21 c22 c23 c24 c25 c26 c27 c28 c29 c30 c31 : Int) (out : Value) (F : FO O) (hy : Y = yO O) (h0 : inU a 18446744073709551616 = true) (h1 : inU b 18446744073709551616 = true) (h2 : inU c 18446744073709551616 = true) (h3 : inU d 18446744073709551616 = true) (h4 : inU e 18446744073709551616 = true) (ho : .agg #[.int .u64 (O.pbase a), .int .u64 (O.pbase b), .int .u64 (O.pbase c), .int .u64 (O.pbase d), .int .u64 (O.pbase e)] = out) :
 If (inU a 18446744073709551616) (If (inU b 18446744073709551616) (If (inU c 18446744073709551616) (If (inU d 18446744073709551616) (If (inU e 18446744073709551616) (Value.agg
  (Array.mk [Value.int .u64 (O.pbase a), Value.int .u64 (O.pbase b), Value.int .u64 (O.pbase c), Value.int .u64 (O.pbase d), Value.int .u64 (O.pbase e)]) = out) False) False) False)
  False) False := by
 simp only [h0, h1, h2, h3, h4, If_t]
 exact ho
theorem wpc_bas (O : OO) (Y : OY) (a b c d e c0 c1 c2 c3 c4 c5 c6 c7 c8 c9 c10 c11 c12 c13 c14 c15 c16 c17 c18 c19 c20 c21 c22 c23 c24 c25 c26 c27 c28 c29 c30 c31 : Int) (out : Value) (F : FO O) (hy : Y = yO O) (h0 : inU a 18446744073709551616 = true) (h1 : inU b 18446744073709551616 = true) (h2 : inU c 18446744073709551616 = true) (h3 : inU d 18446744073709551616 = true) (h4 : inU e 18446744073709551616 = true) (ho : .agg #[.int .u64 (O.pbase a), .int .u64 (O.pbase b), .int .u64 (O.pbase c), .int .u64 (O.pbase d), .int .u64 (O.pbase e)] = out) : wpcI Tryd.prog (spY3 O Y) Tryd.f6.ntmps [] (bodyOf Tryd.f6) 0 0 (argEnv [.agg ⟨.int .u64 a :: .int .u64 b :: .int .u64 c :: .int .u64 d :: .int .u64 e :: .int .u8 c0 :: .int .u8 c1 :: .int .u8 c2 :: .int .u8 c3 :: .int .u8 c4 :: .int .u8 c5 :: .int .u8 c6 :: .int .u8 c7 :: .int .u8 c8 :: .int .u8 c9 :: .int .u8 c10 :: .int .u8 c11 :: .int .u8 c12 :: .int .u8 c13 :: .int .u8 c14 :: .int .u8 c15 :: .int .u8 c16 :: .int .u8 c17 :: .int .u8 c18 :: .int .u8 c19 :: .int .u8 c20 :: .int .u8 c21 :: .int .u8 c22 :: .int .u8 c23 :: .int .u8 c24 :: .int .u8 c25 :: .int .u8 c26 :: .int .u8 c27 :: .int .u8 c28 :: .int .u8 c29 :: .int .u8 c30 :: .int .u8 c31 :: []⟩] 0) [] (retK Tryd.prog Tryd.f6.results.toList out) :=
 Eq.mpr (by kernel_rfl) (vc_bas O Y a b c d e c0 c1 c2 c3 c4 c5 c6 c7 c8 c9 c10 c11 c12 c13 c14 c15 c16 c17 c18 c19 c20 c21 c22 c23 c24 c25 c26 c27 c28 c29 c30 c31 out F hy h0 h1 h2 h3 h4 ho)
theorem ok_bas (I : Sx.Interp) (O : OO) (hO : O = oo) (Y : OY) (hY : Y = yO O) : Sx.SpecOK I Tryd.prog 6 (Sx.vspec (g_bas O Y)) := by
 refine spec_walk (n := 1) (spY3_ok I O hO Y hY) (by kernel_rfl) [] Tryd.func6 (by kernel_rfl) (by kernel_rfl) rfl Tryd.ntmps6 (by decide) ?_ ?_
 ·intro l p v hg; unfold g_bas at hg; split at hg <;> first | rfl | cases hg
 ·intro l v hg
  unfold g_bas at hg
  split at hg
  ·rename_i a b c d e c0 c1 c2 c3 c4 c5 c6 c7 c8 c9 c10 c11 c12 c13 c14 c15 c16 c17 c18 c19 c20 c21 c22 c23 c24 c25 c26 c27 c28 c29 c30 c31
   simp only [Option.some.injEq, Prod.mk.injEq, Bool.and_eq_true] at hg
   obtain ⟨⟨⟨⟨⟨q0, q1⟩, q2⟩, q3⟩, q4⟩, rfl⟩ := hg
   exact wpc_bas O Y a b c d e c0 c1 c2 c3 c4 c5 c6 c7 c8 c9 c10 c11 c12 c13 c14 c15 c16 c17 c18 c19 c20 c21 c22 c23 c24 c25 c26 c27 c28 c29 c30 c31  _ (fo_oo O hO) hY q0 q1 q2 q3 q4  rfl
  ·cases hg
def g_rbas (O : OO) (Y : OY) (l : List Value) : Option (Bool × Value) := match l with
 | [.agg ⟨.int .u64 a :: .int .u64 b :: .int .u64 c :: .int .u64 d :: .int .u64 e :: .int .u8 c0 :: .int .u8 c1 :: .int .u8 c2 :: .int .u8 c3 :: .int .u8 c4 :: .int .u8 c5 :: .int .u8 c6 :: .int .u8 c7 :: .int .u8 c8 :: .int .u8 c9 :: .int .u8 c10 :: .int .u8 c11 :: .int .u8 c12 :: .int .u8 c13 :: .int .u8 c14 :: .int .u8 c15 :: .int .u8 c16 :: .int .u8 c17 :: .int .u8 c18 :: .int .u8 c19 :: .int .u8 c20 :: .int .u8 c21 :: .int .u8 c22 :: .int .u8 c23 :: .int .u8 c24 :: .int .u8 c25 :: .int .u8 c26 :: .int .u8 c27 :: .int .u8 c28 :: .int .u8 c29 :: .int .u8 c30 :: .int .u8 c31 :: []⟩] => some ((inU a 18446744073709551616) && (inU b 18446744073709551616) && (inU c 18446744073709551616) && (inU d 18446744073709551616) && (inU e 18446744073709551616), .agg #[.int .u64 (O.pbase a), .int .u64 (O.pbase b), .int .u64 (O.pbase c), .int .u64 (O.pbase d), .int .u64 (O.pbase e)])
 | _ => none
def g_kit (O : OO) (Y : OY) (l : List Value) : Option (Bool × Value) := match l with
 | [.agg m] => some ((O.isH m), .agg ⟨[.int .u64 (O.ffrom (AV (kitF O m 1))), .int .u64 (O.ffrom (AV (kitF O m 2))), .int .u64 (O.ffrom (AV (kitF O m 3))), .int .u64 (O.ffrom (AV (kitF O m 4))), .int .u64 (O.ffrom (AV (kitF O m 5)))] ++ (tabI (kitF O m 6) 32).map (Value.int .u8)⟩)
 | _ => none
set_option maxHeartbeats 4000000 in
theorem vc_kit (O : OO) (Y : OY) (m : Nat → Int) (out : Value) (F : FO O) (hy : Y = yO O) (h0 : O.isH (AV m) = true) (ho : .agg ⟨[.int .u64 (O.ffrom (AV (kitF O (AV m) 1))), .int .u64 (O.ffrom (AV (kitF O (AV m) 2))), .int .u64 (O.ffrom (AV (kitF O (AV m) 3))), .int .u64 (O.ffrom (AV (kitF O (AV m) 4))), .int .u64 (O.ffrom (AV (kitF O (AV m) 5)))] ++ (tabI (kitF O (AV m) 6) 32).map (Value.int .u8)⟩ = out) :
 If (decide (O.isH (Array.mk (List.map (Value.int .u8) (tabI (O.tag (ByteArray.mk (Array.mk [107, 105, 116])) [[m 0, m 1, m 2, m 3, m 4, m 5, m 6, m 7, m 8, m 9, m 10, m 11, m 12, m
  13, m 14, m 15, m 16, m 17, m 18, m 19, m 20, m 21, m 22, m 23, m 24, m 25, m 26, m 27, m 28, m 29, m 30, m 31], [IntKind.u8.wrap (IntKind.i64.wrap (iAdd 0 1))]]) 32))) = true)) (If
  (decide (O.isH (Array.mk (List.map (Value.int .u8) (tabI (O.tag (ByteArray.mk (Array.mk [107, 105, 116])) [[m 0, m 1, m 2, m 3, m 4, m 5, m 6, m 7, m 8, m 9, m 10, m 11, m 12, m 13,
  m 14, m 15, m 16, m 17, m 18, m 19, m 20, m 21, m 22, m 23, m 24, m 25, m 26, m 27, m 28, m 29, m 30, m 31], [IntKind.u8.wrap (IntKind.i64.wrap (iAdd (IntKind.i64.wrap (iAdd 0 1))
  1))]]) 32))) = true)) (If (decide (O.isH (Array.mk (List.map (Value.int .u8) (tabI (O.tag (ByteArray.mk (Array.mk [107, 105, 116])) [[m 0, m 1, m 2, m 3, m 4, m 5, m 6, m 7, m 8, m
  9, m 10, m 11, m 12, m 13, m 14, m 15, m 16, m 17, m 18, m 19, m 20, m 21, m 22, m 23, m 24, m 25, m 26, m 27, m 28, m 29, m 30, m 31], [IntKind.u8.wrap (IntKind.i64.wrap (iAdd
  (IntKind.i64.wrap (iAdd (IntKind.i64.wrap (iAdd 0 1)) 1)) 1))]]) 32))) = true)) (If (decide (O.isH (Array.mk (List.map (Value.int .u8) (tabI (O.tag (ByteArray.mk (Array.mk [107,
  105, 116])) [[m 0, m 1, m 2, m 3, m 4, m 5, m 6, m 7, m 8, m 9, m 10, m 11, m 12, m 13, m 14, m 15, m 16, m 17, m 18, m 19, m 20, m 21, m 22, m 23, m 24, m 25, m 26, m 27, m 28, m
  29, m 30, m 31], [IntKind.u8.wrap (IntKind.i64.wrap (iAdd (IntKind.i64.wrap (iAdd (IntKind.i64.wrap (iAdd (IntKind.i64.wrap (iAdd 0 1)) 1)) 1)) 1))]]) 32))) = true)) (If (decide
  (O.isH (Array.mk (List.map (Value.int .u8) (tabI (O.tag (ByteArray.mk (Array.mk [107, 105, 116])) [[m 0, m 1, m 2, m 3, m 4, m 5, m 6, m 7, m 8, m 9, m 10, m 11, m 12, m 13, m 14, m
  15, m 16, m 17, m 18, m 19, m 20, m 21, m 22, m 23, m 24, m 25, m 26, m 27, m 28, m 29, m 30, m 31], [IntKind.u8.wrap (IntKind.i64.wrap (iAdd (IntKind.i64.wrap (iAdd
  (IntKind.i64.wrap (iAdd (IntKind.i64.wrap (iAdd (IntKind.i64.wrap (iAdd 0 1)) 1)) 1)) 1)) 1))]]) 32))) = true)) (Value.agg (Array.mk [Value.int .u64 (O.ffrom (Array.mk (List.map
  (Value.int .u8) (tabI (O.tag (ByteArray.mk (Array.mk [107, 105, 116])) [[m 0, m 1, m 2, m 3, m 4, m 5, m 6, m 7, m 8, m 9, m 10, m 11, m 12, m 13, m 14, m 15, m 16, m 17, m 18, m
  19, m 20, m 21, m 22, m 23, m 24, m 25, m 26, m 27, m 28, m 29, m 30, m 31], [IntKind.u8.wrap (IntKind.i64.wrap (iAdd 0 1))]]) 32)))), Value.int .u64 (O.ffrom (Array.mk (List.map
  (Value.int .u8) (tabI (O.tag (ByteArray.mk (Array.mk [107, 105, 116])) [[m 0, m 1, m 2, m 3, m 4, m 5, m 6, m 7, m 8, m 9, m 10, m 11, m 12, m 13, m 14, m 15, m 16, m 17, m 18, m
  19, m 20, m 21, m 22, m 23, m 24, m 25, m 26, m 27, m 28, m 29, m 30, m 31], [IntKind.u8.wrap (IntKind.i64.wrap (iAdd (IntKind.i64.wrap (iAdd 0 1)) 1))]]) 32)))), Value.int .u64
  (O.ffrom (Array.mk (List.map (Value.int .u8) (tabI (O.tag (ByteArray.mk (Array.mk [107, 105, 116])) [[m 0, m 1, m 2, m 3, m 4, m 5, m 6, m 7, m 8, m 9, m 10, m 11, m 12, m 13, m 14,
  m 15, m 16, m 17, m 18, m 19, m 20, m 21, m 22, m 23, m 24, m 25, m 26, m 27, m 28, m 29, m 30, m 31], [IntKind.u8.wrap (IntKind.i64.wrap (iAdd (IntKind.i64.wrap (iAdd
  (IntKind.i64.wrap (iAdd 0 1)) 1)) 1))]]) 32)))), Value.int .u64 (O.ffrom (Array.mk (List.map (Value.int .u8) (tabI (O.tag (ByteArray.mk (Array.mk [107, 105, 116])) [[m 0, m 1, m 2,
  m 3, m 4, m 5, m 6, m 7, m 8, m 9, m 10, m 11, m 12, m 13, m 14, m 15, m 16, m 17, m 18, m 19, m 20, m 21, m 22, m 23, m 24, m 25, m 26, m 27, m 28, m 29, m 30, m 31],
  [IntKind.u8.wrap (IntKind.i64.wrap (iAdd (IntKind.i64.wrap (iAdd (IntKind.i64.wrap (iAdd (IntKind.i64.wrap (iAdd 0 1)) 1)) 1)) 1))]]) 32)))), Value.int .u64 (O.ffrom (Array.mk
  (List.map (Value.int .u8) (tabI (O.tag (ByteArray.mk (Array.mk [107, 105, 116])) [[m 0, m 1, m 2, m 3, m 4, m 5, m 6, m 7, m 8, m 9, m 10, m 11, m 12, m 13, m 14, m 15, m 16, m 17,
  m 18, m 19, m 20, m 21, m 22, m 23, m 24, m 25, m 26, m 27, m 28, m 29, m 30, m 31], [IntKind.u8.wrap (IntKind.i64.wrap (iAdd (IntKind.i64.wrap (iAdd (IntKind.i64.wrap (iAdd
  (IntKind.i64.wrap (iAdd (IntKind.i64.wrap (iAdd 0 1)) 1)) 1)) 1)) 1))]]) 32)))), Value.int .u8 (O.tag (ByteArray.mk (Array.mk [107, 105, 116])) [[m 0, m 1, m 2, m 3, m 4, m 5, m 6,
  m 7, m 8, m 9, m 10, m 11, m 12, m 13, m 14, m 15, m 16, m 17, m 18, m 19, m 20, m 21, m 22, m 23, m 24, m 25, m 26, m 27, m 28, m 29, m 30, m 31], [6]] 0), Value.int .u8 (O.tag
  (ByteArray.mk (Array.mk [107, 105, 116])) [[m 0, m 1, m 2, m 3, m 4, m 5, m 6, m 7, m 8, m 9, m 10, m 11, m 12, m 13, m 14, m 15, m 16, m 17, m 18, m 19, m 20, m 21, m 22, m 23, m
  24, m 25, m 26, m 27, m 28, m 29, m 30, m 31], [6]] 1), Value.int .u8 (O.tag (ByteArray.mk (Array.mk [107, 105, 116])) [[m 0, m 1, m 2, m 3, m 4, m 5, m 6, m 7, m 8, m 9, m 10, m
  11, m 12, m 13, m 14, m 15, m 16, m 17, m 18, m 19, m 20, m 21, m 22, m 23, m 24, m 25, m 26, m 27, m 28, m 29, m 30, m 31], [6]] 2), Value.int .u8 (O.tag (ByteArray.mk (Array.mk
  [107, 105, 116])) [[m 0, m 1, m 2, m 3, m 4, m 5, m 6, m 7, m 8, m 9, m 10, m 11, m 12, m 13, m 14, m 15, m 16, m 17, m 18, m 19, m 20, m 21, m 22, m 23, m 24, m 25, m 26, m 27, m
  28, m 29, m 30, m 31], [6]] 3), Value.int .u8 (O.tag (ByteArray.mk (Array.mk [107, 105, 116])) [[m 0, m 1, m 2, m 3, m 4, m 5, m 6, m 7, m 8, m 9, m 10, m 11, m 12, m 13, m 14, m
  15, m 16, m 17, m 18, m 19, m 20, m 21, m 22, m 23, m 24, m 25, m 26, m 27, m 28, m 29, m 30, m 31], [6]] 4), Value.int .u8 (O.tag (ByteArray.mk (Array.mk [107, 105, 116])) [[m 0, m
  1, m 2, m 3, m 4, m 5, m 6, m 7, m 8, m 9, m 10, m 11, m 12, m 13, m 14, m 15, m 16, m 17, m 18, m 19, m 20, m 21, m 22, m 23, m 24, m 25, m 26, m 27, m 28, m 29, m 30, m 31], [6]]
  5), Value.int .u8 (O.tag (ByteArray.mk (Array.mk [107, 105, 116])) [[m 0, m 1, m 2, m 3, m 4, m 5, m 6, m 7, m 8, m 9, m 10, m 11, m 12, m 13, m 14, m 15, m 16, m 17, m 18, m 19, m
  20, m 21, m 22, m 23, m 24, m 25, m 26, m 27, m 28, m 29, m 30, m 31], [6]] 6), Value.int .u8 (O.tag (ByteArray.mk (Array.mk [107, 105, 116])) [[m 0, m 1, m 2, m 3, m 4, m 5, m 6, m
  7, m 8, m 9, m 10, m 11, m 12, m 13, m 14, m 15, m 16, m 17, m 18, m 19, m 20, m 21, m 22, m 23, m 24, m 25, m 26, m 27, m 28, m 29, m 30, m 31], [6]] 7), Value.int .u8 (O.tag
  (ByteArray.mk (Array.mk [107, 105, 116])) [[m 0, m 1, m 2, m 3, m 4, m 5, m 6, m 7, m 8, m 9, m 10, m 11, m 12, m 13, m 14, m 15, m 16, m 17, m 18, m 19, m 20, m 21, m 22, m 23, m
  24, m 25, m 26, m 27, m 28, m 29, m 30, m 31], [6]] 8), Value.int .u8 (O.tag (ByteArray.mk (Array.mk [107, 105, 116])) [[m 0, m 1, m 2, m 3, m 4, m 5, m 6, m 7, m 8, m 9, m 10, m
  11, m 12, m 13, m 14, m 15, m 16, m 17, m 18, m 19, m 20, m 21, m 22, m 23, m 24, m 25, m 26, m 27, m 28, m 29, m 30, m 31], [6]] 9), Value.int .u8 (O.tag (ByteArray.mk (Array.mk
  [107, 105, 116])) [[m 0, m 1, m 2, m 3, m 4, m 5, m 6, m 7, m 8, m 9, m 10, m 11, m 12, m 13, m 14, m 15, m 16, m 17, m 18, m 19, m 20, m 21, m 22, m 23, m 24, m 25, m 26, m 27, m
  28, m 29, m 30, m 31], [6]] 10), Value.int .u8 (O.tag (ByteArray.mk (Array.mk [107, 105, 116])) [[m 0, m 1, m 2, m 3, m 4, m 5, m 6, m 7, m 8, m 9, m 10, m 11, m 12, m 13, m 14, m
  15, m 16, m 17, m 18, m 19, m 20, m 21, m 22, m 23, m 24, m 25, m 26, m 27, m 28, m 29, m 30, m 31], [6]] 11), Value.int .u8 (O.tag (ByteArray.mk (Array.mk [107, 105, 116])) [[m 0,
  m 1, m 2, m 3, m 4, m 5, m 6, m 7, m 8, m 9, m 10, m 11, m 12, m 13, m 14, m 15, m 16, m 17, m 18, m 19, m 20, m 21, m 22, m 23, m 24, m 25, m 26, m 27, m 28, m 29, m 30, m 31],
  [6]] 12), Value.int .u8 (O.tag (ByteArray.mk (Array.mk [107, 105, 116])) [[m 0, m 1, m 2, m 3, m 4, m 5, m 6, m 7, m 8, m 9, m 10, m 11, m 12, m 13, m 14, m 15, m 16, m 17, m 18, m
  19, m 20, m 21, m 22, m 23, m 24, m 25, m 26, m 27, m 28, m 29, m 30, m 31], [6]] 13), Value.int .u8 (O.tag (ByteArray.mk (Array.mk [107, 105, 116])) [[m 0, m 1, m 2, m 3, m 4, m 5,
  m 6, m 7, m 8, m 9, m 10, m 11, m 12, m 13, m 14, m 15, m 16, m 17, m 18, m 19, m 20, m 21, m 22, m 23, m 24, m 25, m 26, m 27, m 28, m 29, m 30, m 31], [6]] 14), Value.int .u8
  (O.tag (ByteArray.mk (Array.mk [107, 105, 116])) [[m 0, m 1, m 2, m 3, m 4, m 5, m 6, m 7, m 8, m 9, m 10, m 11, m 12, m 13, m 14, m 15, m 16, m 17, m 18, m 19, m 20, m 21, m 22, m
  23, m 24, m 25, m 26, m 27, m 28, m 29, m 30, m 31], [6]] 15), Value.int .u8 (O.tag (ByteArray.mk (Array.mk [107, 105, 116])) [[m 0, m 1, m 2, m 3, m 4, m 5, m 6, m 7, m 8, m 9, m
  10, m 11, m 12, m 13, m 14, m 15, m 16, m 17, m 18, m 19, m 20, m 21, m 22, m 23, m 24, m 25, m 26, m 27, m 28, m 29, m 30, m 31], [6]] 16), Value.int .u8 (O.tag (ByteArray.mk
  (Array.mk [107, 105, 116])) [[m 0, m 1, m 2, m 3, m 4, m 5, m 6, m 7, m 8, m 9, m 10, m 11, m 12, m 13, m 14, m 15, m 16, m 17, m 18, m 19, m 20, m 21, m 22, m 23, m 24, m 25, m 26,
  m 27, m 28, m 29, m 30, m 31], [6]] 17), Value.int .u8 (O.tag (ByteArray.mk (Array.mk [107, 105, 116])) [[m 0, m 1, m 2, m 3, m 4, m 5, m 6, m 7, m 8, m 9, m 10, m 11, m 12, m 13, m
  14, m 15, m 16, m 17, m 18, m 19, m 20, m 21, m 22, m 23, m 24, m 25, m 26, m 27, m 28, m 29, m 30, m 31], [6]] 18), Value.int .u8 (O.tag (ByteArray.mk (Array.mk [107, 105, 116]))
  [[m 0, m 1, m 2, m 3, m 4, m 5, m 6, m 7, m 8, m 9, m 10, m 11, m 12, m 13, m 14, m 15, m 16, m 17, m 18, m 19, m 20, m 21, m 22, m 23, m 24, m 25, m 26, m 27, m 28, m 29, m 30, m
  31], [6]] 19), Value.int .u8 (O.tag (ByteArray.mk (Array.mk [107, 105, 116])) [[m 0, m 1, m 2, m 3, m 4, m 5, m 6, m 7, m 8, m 9, m 10, m 11, m 12, m 13, m 14, m 15, m 16, m 17, m
  18, m 19, m 20, m 21, m 22, m 23, m 24, m 25, m 26, m 27, m 28, m 29, m 30, m 31], [6]] 20), Value.int .u8 (O.tag (ByteArray.mk (Array.mk [107, 105, 116])) [[m 0, m 1, m 2, m 3, m
  4, m 5, m 6, m 7, m 8, m 9, m 10, m 11, m 12, m 13, m 14, m 15, m 16, m 17, m 18, m 19, m 20, m 21, m 22, m 23, m 24, m 25, m 26, m 27, m 28, m 29, m 30, m 31], [6]] 21), Value.int
  .u8 (O.tag (ByteArray.mk (Array.mk [107, 105, 116])) [[m 0, m 1, m 2, m 3, m 4, m 5, m 6, m 7, m 8, m 9, m 10, m 11, m 12, m 13, m 14, m 15, m 16, m 17, m 18, m 19, m 20, m 21, m
  22, m 23, m 24, m 25, m 26, m 27, m 28, m 29, m 30, m 31], [6]] 22), Value.int .u8 (O.tag (ByteArray.mk (Array.mk [107, 105, 116])) [[m 0, m 1, m 2, m 3, m 4, m 5, m 6, m 7, m 8, m
  9, m 10, m 11, m 12, m 13, m 14, m 15, m 16, m 17, m 18, m 19, m 20, m 21, m 22, m 23, m 24, m 25, m 26, m 27, m 28, m 29, m 30, m 31], [6]] 23), Value.int .u8 (O.tag (ByteArray.mk
  (Array.mk [107, 105, 116])) [[m 0, m 1, m 2, m 3, m 4, m 5, m 6, m 7, m 8, m 9, m 10, m 11, m 12, m 13, m 14, m 15, m 16, m 17, m 18, m 19, m 20, m 21, m 22, m 23, m 24, m 25, m 26,
  m 27, m 28, m 29, m 30, m 31], [6]] 24), Value.int .u8 (O.tag (ByteArray.mk (Array.mk [107, 105, 116])) [[m 0, m 1, m 2, m 3, m 4, m 5, m 6, m 7, m 8, m 9, m 10, m 11, m 12, m 13, m
  14, m 15, m 16, m 17, m 18, m 19, m 20, m 21, m 22, m 23, m 24, m 25, m 26, m 27, m 28, m 29, m 30, m 31], [6]] 25), Value.int .u8 (O.tag (ByteArray.mk (Array.mk [107, 105, 116]))
  [[m 0, m 1, m 2, m 3, m 4, m 5, m 6, m 7, m 8, m 9, m 10, m 11, m 12, m 13, m 14, m 15, m 16, m 17, m 18, m 19, m 20, m 21, m 22, m 23, m 24, m 25, m 26, m 27, m 28, m 29, m 30, m
  31], [6]] 26), Value.int .u8 (O.tag (ByteArray.mk (Array.mk [107, 105, 116])) [[m 0, m 1, m 2, m 3, m 4, m 5, m 6, m 7, m 8, m 9, m 10, m 11, m 12, m 13, m 14, m 15, m 16, m 17, m
  18, m 19, m 20, m 21, m 22, m 23, m 24, m 25, m 26, m 27, m 28, m 29, m 30, m 31], [6]] 27), Value.int .u8 (O.tag (ByteArray.mk (Array.mk [107, 105, 116])) [[m 0, m 1, m 2, m 3, m
  4, m 5, m 6, m 7, m 8, m 9, m 10, m 11, m 12, m 13, m 14, m 15, m 16, m 17, m 18, m 19, m 20, m 21, m 22, m 23, m 24, m 25, m 26, m 27, m 28, m 29, m 30, m 31], [6]] 28), Value.int
  .u8 (O.tag (ByteArray.mk (Array.mk [107, 105, 116])) [[m 0, m 1, m 2, m 3, m 4, m 5, m 6, m 7, m 8, m 9, m 10, m 11, m 12, m 13, m 14, m 15, m 16, m 17, m 18, m 19, m 20, m 21, m
  22, m 23, m 24, m 25, m 26, m 27, m 28, m 29, m 30, m 31], [6]] 29), Value.int .u8 (O.tag (ByteArray.mk (Array.mk [107, 105, 116])) [[m 0, m 1, m 2, m 3, m 4, m 5, m 6, m 7, m 8, m
  9, m 10, m 11, m 12, m 13, m 14, m 15, m 16, m 17, m 18, m 19, m 20, m 21, m 22, m 23, m 24, m 25, m 26, m 27, m 28, m 29, m 30, m 31], [6]] 30), Value.int .u8 (O.tag (ByteArray.mk
  (Array.mk [107, 105, 116])) [[m 0, m 1, m 2, m 3, m 4, m 5, m 6, m 7, m 8, m 9, m 10, m 11, m 12, m 13, m 14, m 15, m 16, m 17, m 18, m 19, m 20, m 21, m 22, m 23, m 24, m 25, m 26,
  m 27, m 28, m 29, m 30, m 31], [6]] 31)]) = out) False) False) False) False) False := by
 have hAm : O.isH (Array.mk (List.map (Value.int IntKind.u8) (tabI m 32))) = true := h0
 repeat (refine Sx.if_true (decide_eq_true (F.tH _ _)) ?_)
 rw [← ho]
 kernel_rfl
theorem wpc_kit (O : OO) (Y : OY) (m : Nat → Int) (out : Value) (F : FO O) (hy : Y = yO O) (h0 : O.isH (AV m) = true) (ho : .agg ⟨[.int .u64 (O.ffrom (AV (kitF O (AV m) 1))), .int .u64 (O.ffrom (AV (kitF O (AV m) 2))), .int .u64 (O.ffrom (AV (kitF O (AV m) 3))), .int .u64 (O.ffrom (AV (kitF O (AV m) 4))), .int .u64 (O.ffrom (AV (kitF O (AV m) 5)))] ++ (tabI (kitF O (AV m) 6) 32).map (Value.int .u8)⟩ = out) : wpcI Tryd.prog (spY3 O Y) Tryd.f5.ntmps [Ann.walk 6] (bodyOf Tryd.f5) 0 0 (argEnv [.agg (AV m)] 0) [] (retK Tryd.prog Tryd.f5.results.toList out) :=
 Eq.mpr (by kernel_rfl) (vc_kit O Y m out F hy h0 ho)
theorem ok_kit (I : Sx.Interp) (O : OO) (hO : O = oo) (Y : OY) (hY : Y = yO O) : Sx.SpecOK I Tryd.prog 5 (Sx.vspec (g_kit O Y)) := by
 refine spec_walk (n := 1) (spY3_ok I O hO Y hY) (by kernel_rfl) [Ann.walk 6] Tryd.func5 (by kernel_rfl) (by kernel_rfl) rfl Tryd.ntmps5 (by decide) ?_ ?_
 ·intro l p v hg; unfold g_kit at hg; split at hg <;> first | rfl | cases hg
 ·intro l v hg
  unfold g_kit at hg
  split at hg
  ·rename_i m
   simp only [Option.some.injEq, Prod.mk.injEq, Bool.and_eq_true] at hg
   obtain ⟨q0, rfl⟩ := hg
   obtain ⟨m, rfl⟩ := isH_AV (by subst hO; exact q0 : isHa m = true)
   exact wpc_kit O Y m  _ (fo_oo O hO) hY q0  rfl
  ·cases hg
def g_part (O : OO) (Y : OY) (l : List Value) : Option (Bool × Value) := match l with
 | [.agg m, .int .u8 n] => some ((inU n 256) && (O.isH m), .agg (AV (kitF O m n)))
 | _ => none
def spY4 (O : OO) (Y : OY) (f : FuncId) : Option Sx.Spec := match f with
 | f => spY3 O Y f
theorem spY4_ok (I : Sx.Interp) (O : OO) (hO : O = oo) (Y : OY) (hY : Y = yO O) : ∀ f s, spY4 O Y f = some s → Sx.SpecOK I Tryd.prog f s := by
 intro f s h
 unfold spY4 at h
 exact spY3_ok I O hO Y hY _ s h

def g_rkit (O : OO) (Y : OY) (l : List Value) : Option (Bool × Value) := match l with
 | [.agg m] => some ((O.isH m), .agg ⟨[.int .u64 (O.ffrom (AV (kitF O m 1))), .int .u64 (O.ffrom (AV (kitF O m 2))), .int .u64 (O.ffrom (AV (kitF O m 3))), .int .u64 (O.ffrom (AV (kitF O m 4))), .int .u64 (O.ffrom (AV (kitF O m 5)))] ++ (tabI (kitF O m 6) 32).map (Value.int .u8)⟩)
 | _ => none
def g_kmix (O : OO) (Y : OY) (l : List Value) : Option (Bool × Value) := match l with
 | [.int .u64 b, .int .u64 p] => some ((inU b 18446744073709551616) && (inU p 18446744073709551616), .int .u64 (mixO O Y b p))
 | _ => none
set_option maxHeartbeats 4000000 in
theorem vc_kmix (O : OO) (Y : OY) (b p : Int) (out : Value) (F : FO O) (hy : Y = yO O) (h0 : inU b 18446744073709551616 = true) (h1 : inU p 18446744073709551616 = true) (ho : .int .u64 (mixO O Y b p) = out) :
 If (inU p 18446744073709551616 && inU b 18446744073709551616 && Nat.ble 3 1000) (If (inU (Y.fac (ByteArray.mk (Array.mk [109, 105, 120])) p b) 18446744073709551616) (If (inU b
  18446744073709551616 && inU (O.pbase (Y.fac (ByteArray.mk (Array.mk [109, 105, 120])) p b)) 18446744073709551616) (Value.int .u64 (O.padd b (O.pbase (Y.fac (ByteArray.mk (Array.mk
  [109, 105, 120])) p b))) = out) False) False) False := by
 have fu := facU F hy
 have n3 : Nat.ble 3 1000 = true := rfl
 have n6 : Nat.ble 6 1000 = true := rfl
 simp only [h0, h1, F.fadd, F.fsub, F.fmul, F.padd, F.pneg, F.pbase, F.pscale, F.pall, F.ffrom, F.tH, Bool.and_self, Bool.and_true, Bool.true_and, decide_true, If_t, If_f, fu, n3, n6]
 exact ho
theorem wpc_kmix (O : OO) (Y : OY) (b p : Int) (out : Value) (F : FO O) (hy : Y = yO O) (h0 : inU b 18446744073709551616 = true) (h1 : inU p 18446744073709551616 = true) (ho : .int .u64 (mixO O Y b p) = out) : wpcI Tryd.prog (spY4 O Y) Tryd.f17.ntmps [] (bodyOf Tryd.f17) 0 0 (argEnv [.int .u64 b, .int .u64 p] 0) [] (retK Tryd.prog Tryd.f17.results.toList out) :=
 Eq.mpr (by kernel_rfl) (vc_kmix O Y b p out F hy h0 h1 ho)
theorem ok_kmix (I : Sx.Interp) (O : OO) (hO : O = oo) (Y : OY) (hY : Y = yO O) : Sx.SpecOK I Tryd.prog 17 (Sx.vspec (g_kmix O Y)) := by
 refine spec_walk (n := 2) (spY4_ok I O hO Y hY) (by kernel_rfl) [] Tryd.func17 (by kernel_rfl) (by kernel_rfl) rfl Tryd.ntmps17 (by decide) ?_ ?_
 ·intro l p v hg; unfold g_kmix at hg; split at hg <;> first | rfl | cases hg
 ·intro l v hg
  unfold g_kmix at hg
  split at hg
  ·rename_i b p
   simp only [Option.some.injEq, Prod.mk.injEq, Bool.and_eq_true] at hg
   obtain ⟨⟨q0, q1⟩, rfl⟩ := hg
   exact wpc_kmix O Y b p  _ (fo_oo O hO) hY q0 q1  rfl
  ·cases hg
def g_krmix (O : OO) (Y : OY) (l : List Value) : Option (Bool × Value) := match l with
 | [.int .u64 b, .int .u64 p] => some ((inU b 18446744073709551616) && (inU p 18446744073709551616), .int .u64 (mixO O Y b p))
 | _ => none
def g_msec (O : OO) (Y : OY) (l : List Value) : Option (Bool × Value) := match l with
 | [.int .u64 b, .int .u64 p] => some ((inU b 18446744073709551616) && (inU p 18446744073709551616), .int .u64 (msecO O Y b p))
 | _ => none
set_option maxHeartbeats 4000000 in
theorem vc_msec (O : OO) (Y : OY) (b p : Int) (out : Value) (F : FO O) (hy : Y = yO O) (h0 : inU b 18446744073709551616 = true) (h1 : inU p 18446744073709551616 = true) (ho : .int .u64 (msecO O Y b p) = out) :
 If (inU b 18446744073709551616) (If (inU p 18446744073709551616 && inU (O.pbase b) 18446744073709551616 && Nat.ble 3 1000) (If (inU b 18446744073709551616 && inU (Y.fac
  (ByteArray.mk (Array.mk [109, 105, 120])) p (O.pbase b)) 18446744073709551616) (Value.int .u64 (O.fadd b (Y.fac (ByteArray.mk (Array.mk [109, 105, 120])) p (O.pbase b))) = out)
  False) False) False := by
 have fu := facU F hy
 have n3 : Nat.ble 3 1000 = true := rfl
 have n6 : Nat.ble 6 1000 = true := rfl
 simp only [h0, h1, F.fadd, F.fsub, F.fmul, F.padd, F.pneg, F.pbase, F.pscale, F.pall, F.ffrom, F.tH, Bool.and_self, Bool.and_true, Bool.true_and, decide_true, If_t, If_f, fu, n3, n6]
 exact ho
theorem wpc_msec (O : OO) (Y : OY) (b p : Int) (out : Value) (F : FO O) (hy : Y = yO O) (h0 : inU b 18446744073709551616 = true) (h1 : inU p 18446744073709551616 = true) (ho : .int .u64 (msecO O Y b p) = out) : wpcI Tryd.prog (spY4 O Y) Tryd.f16.ntmps [] (bodyOf Tryd.f16) 0 0 (argEnv [.int .u64 b, .int .u64 p] 0) [] (retK Tryd.prog Tryd.f16.results.toList out) :=
 Eq.mpr (by kernel_rfl) (vc_msec O Y b p out F hy h0 h1 ho)
theorem ok_msec (I : Sx.Interp) (O : OO) (hO : O = oo) (Y : OY) (hY : Y = yO O) : Sx.SpecOK I Tryd.prog 16 (Sx.vspec (g_msec O Y)) := by
 refine spec_walk (n := 2) (spY4_ok I O hO Y hY) (by kernel_rfl) [] Tryd.func16 (by kernel_rfl) (by kernel_rfl) rfl Tryd.ntmps16 (by decide) ?_ ?_
 ·intro l p v hg; unfold g_msec at hg; split at hg <;> first | rfl | cases hg
 ·intro l v hg
  unfold g_msec at hg
  split at hg
  ·rename_i b p
   simp only [Option.some.injEq, Prod.mk.injEq, Bool.and_eq_true] at hg
   obtain ⟨⟨q0, q1⟩, rfl⟩ := hg
   exact wpc_msec O Y b p  _ (fo_oo O hO) hY q0 q1  rfl
  ·cases hg
def g_rmsec (O : OO) (Y : OY) (l : List Value) : Option (Bool × Value) := match l with
 | [.int .u64 b, .int .u64 p] => some ((inU b 18446744073709551616) && (inU p 18446744073709551616), .int .u64 (msecO O Y b p))
 | _ => none
def g_rev (O : OO) (Y : OY) (l : List Value) : Option (Bool × Value) := match l with
 | [.int .u64 b, .int .u64 p] => some ((inU b 18446744073709551616) && (inU p 18446744073709551616), .int .u64 (revO O Y b p))
 | _ => none
set_option maxHeartbeats 4000000 in
theorem vc_rev (O : OO) (Y : OY) (b p : Int) (out : Value) (F : FO O) (hy : Y = yO O) (h0 : inU b 18446744073709551616 = true) (h1 : inU p 18446744073709551616 = true) (ho : .int .u64 (revO O Y b p) = out) :
 If (inU b 18446744073709551616 && inU p 18446744073709551616 && Nat.ble 6 1000) (If (inU b 18446744073709551616 && inU (Y.fac (ByteArray.mk (Array.mk [114, 101, 118, 111, 107,
  101])) b p) 18446744073709551616) (If (inU p 18446744073709551616 && inU b 18446744073709551616 && Nat.ble 6 1000) (If (inU p 18446744073709551616 && inU (Y.fac (ByteArray.mk
  (Array.mk [114, 101, 118, 111, 107, 101])) p b) 18446744073709551616) (If (inU (O.pscale b (Y.fac (ByteArray.mk (Array.mk [114, 101, 118, 111, 107, 101])) b p)) 18446744073709551616
  && inU (O.pscale p (Y.fac (ByteArray.mk (Array.mk [114, 101, 118, 111, 107, 101])) p b)) 18446744073709551616) (Value.int .u64 (O.padd (O.pscale b (Y.fac (ByteArray.mk (Array.mk
  [114, 101, 118, 111, 107, 101])) b p)) (O.pscale p (Y.fac (ByteArray.mk (Array.mk [114, 101, 118, 111, 107, 101])) p b))) = out) False) False) False) False) False := by
 have fu := facU F hy
 have n3 : Nat.ble 3 1000 = true := rfl
 have n6 : Nat.ble 6 1000 = true := rfl
 simp only [h0, h1, F.fadd, F.fsub, F.fmul, F.padd, F.pneg, F.pbase, F.pscale, F.pall, F.ffrom, F.tH, Bool.and_self, Bool.and_true, Bool.true_and, decide_true, If_t, If_f, fu, n3, n6]
 exact ho
theorem wpc_rev (O : OO) (Y : OY) (b p : Int) (out : Value) (F : FO O) (hy : Y = yO O) (h0 : inU b 18446744073709551616 = true) (h1 : inU p 18446744073709551616 = true) (ho : .int .u64 (revO O Y b p) = out) : wpcI Tryd.prog (spY4 O Y) Tryd.f15.ntmps [] (bodyOf Tryd.f15) 0 0 (argEnv [.int .u64 b, .int .u64 p] 0) [] (retK Tryd.prog Tryd.f15.results.toList out) :=
 Eq.mpr (by kernel_rfl) (vc_rev O Y b p out F hy h0 h1 ho)
theorem ok_rev (I : Sx.Interp) (O : OO) (hO : O = oo) (Y : OY) (hY : Y = yO O) : Sx.SpecOK I Tryd.prog 15 (Sx.vspec (g_rev O Y)) := by
 refine spec_walk (n := 2) (spY4_ok I O hO Y hY) (by kernel_rfl) [] Tryd.func15 (by kernel_rfl) (by kernel_rfl) rfl Tryd.ntmps15 (by decide) ?_ ?_
 ·intro l p v hg; unfold g_rev at hg; split at hg <;> first | rfl | cases hg
 ·intro l v hg
  unfold g_rev at hg
  split at hg
  ·rename_i b p
   simp only [Option.some.injEq, Prod.mk.injEq, Bool.and_eq_true] at hg
   obtain ⟨⟨q0, q1⟩, rfl⟩ := hg
   exact wpc_rev O Y b p  _ (fo_oo O hO) hY q0 q1  rfl
  ·cases hg
def g_rrev (O : OO) (Y : OY) (l : List Value) : Option (Bool × Value) := match l with
 | [.int .u64 b, .int .u64 p] => some ((inU b 18446744073709551616) && (inU p 18446744073709551616), .int .u64 (revO O Y b p))
 | _ => none
def g_rvs (O : OO) (Y : OY) (l : List Value) : Option (Bool × Value) := match l with
 | [.int .u64 b, .agg m] => some ((inU b 18446744073709551616) && (O.isH m), .int .u64 (rsecO O Y b m))
 | _ => none
set_option maxHeartbeats 4000000 in
theorem vc_rvs (O : OO) (Y : OY) (b : Int) (m : Nat → Int) (out : Value) (F : FO O) (hy : Y = yO O) (h0 : inU b 18446744073709551616 = true) (h1 : O.isH (AV m) = true) (ho : .int .u64 (rsecO O Y b (AV m)) = out) :
 If (inU b 18446744073709551616) (If (O.isH (Array.mk (List.map (Value.int .u8) (tabI m 32)))) (If (inU (O.pbase b) 18446744073709551616 && inU (O.pbase (O.ffrom (Array.mk (List.map
  (Value.int .u8) (tabI m 32))))) 18446744073709551616 && Nat.ble 6 1000) (If (inU b 18446744073709551616 && inU (Y.fac (ByteArray.mk (Array.mk [114, 101, 118, 111, 107, 101]))
  (O.pbase b) (O.pbase (O.ffrom (Array.mk (List.map (Value.int .u8) (tabI m 32)))))) 18446744073709551616) (If (decide (O.isH (AV m) = true)) (If (inU (O.pbase (O.ffrom (Array.mk
  (List.map (Value.int .u8) (tabI m 32))))) 18446744073709551616 && inU (O.pbase b) 18446744073709551616 && Nat.ble 6 1000) (If (inU (O.ffrom (Array.mk (List.map (Value.int .u8) (tabI
  m 32)))) 18446744073709551616 && inU (Y.fac (ByteArray.mk (Array.mk [114, 101, 118, 111, 107, 101])) (O.pbase (O.ffrom (Array.mk (List.map (Value.int .u8) (tabI m 32))))) (O.pbase
  b)) 18446744073709551616) (If (inU (O.fmul b (Y.fac (ByteArray.mk (Array.mk [114, 101, 118, 111, 107, 101])) (O.pbase b) (O.pbase (O.ffrom (Array.mk (List.map (Value.int .u8) (tabI
  m 32))))))) 18446744073709551616 && inU (O.fmul (O.ffrom (Array.mk (List.map (Value.int .u8) (tabI m 32)))) (Y.fac (ByteArray.mk (Array.mk [114, 101, 118, 111, 107, 101])) (O.pbase
  (O.ffrom (Array.mk (List.map (Value.int .u8) (tabI m 32))))) (O.pbase b))) 18446744073709551616) (Value.int .u64 (O.fadd (O.fmul b (Y.fac (ByteArray.mk (Array.mk [114, 101, 118,
  111, 107, 101])) (O.pbase b) (O.pbase (O.ffrom (Array.mk (List.map (Value.int .u8) (tabI m 32))))))) (O.fmul (O.ffrom (Array.mk (List.map (Value.int .u8) (tabI m 32)))) (Y.fac
  (ByteArray.mk (Array.mk [114, 101, 118, 111, 107, 101])) (O.pbase (O.ffrom (Array.mk (List.map (Value.int .u8) (tabI m 32))))) (O.pbase b)))) = out) False) False) False) False)
  False) False) False) False := by
 have hAm : O.isH (Array.mk (List.map (Value.int IntKind.u8) (tabI m 32))) = true := h1
 have fu := facU F hy
 have n3 : Nat.ble 3 1000 = true := rfl
 have n6 : Nat.ble 6 1000 = true := rfl
 simp only [hAm, h0, h1, F.fadd, F.fsub, F.fmul, F.padd, F.pneg, F.pbase, F.pscale, F.pall, F.ffrom, F.tH, Bool.and_self, Bool.and_true, Bool.true_and, decide_true, If_t, If_f, fu, n3, n6]
 exact ho
theorem wpc_rvs (O : OO) (Y : OY) (b : Int) (m : Nat → Int) (out : Value) (F : FO O) (hy : Y = yO O) (h0 : inU b 18446744073709551616 = true) (h1 : O.isH (AV m) = true) (ho : .int .u64 (rsecO O Y b (AV m)) = out) : wpcI Tryd.prog (spY4 O Y) Tryd.f14.ntmps [] (bodyOf Tryd.f14) 0 0 (argEnv [.int .u64 b, .agg (AV m)] 0) [] (retK Tryd.prog Tryd.f14.results.toList out) :=
 Eq.mpr (by kernel_rfl) (vc_rvs O Y b m out F hy h0 h1 ho)
theorem ok_rvs (I : Sx.Interp) (O : OO) (hO : O = oo) (Y : OY) (hY : Y = yO O) : Sx.SpecOK I Tryd.prog 14 (Sx.vspec (g_rvs O Y)) := by
 refine spec_walk (n := 2) (spY4_ok I O hO Y hY) (by kernel_rfl) [] Tryd.func14 (by kernel_rfl) (by kernel_rfl) rfl Tryd.ntmps14 (by decide) ?_ ?_
 ·intro l p v hg; unfold g_rvs at hg; split at hg <;> first | rfl | cases hg
 ·intro l v hg
  unfold g_rvs at hg
  split at hg
  ·rename_i b m
   simp only [Option.some.injEq, Prod.mk.injEq, Bool.and_eq_true] at hg
   obtain ⟨⟨q0, q1⟩, rfl⟩ := hg
   obtain ⟨m, rfl⟩ := isH_AV (by subst hO; exact q1 : isHa m = true)
   exact wpc_rvs O Y b m  _ (fo_oo O hO) hY q0 q1  rfl
  ·cases hg
def g_rrvs (O : OO) (Y : OY) (l : List Value) : Option (Bool × Value) := match l with
 | [.int .u64 b, .agg m] => some ((inU b 18446744073709551616) && (O.isH m), .int .u64 (rsecO O Y b m))
 | _ => none
def spY5 (O : OO) (Y : OY) (f : FuncId) : Option Sx.Spec := match f with
 | 11 => some (Sx.vspec (g_per O Y))
 | 6 => some (Sx.vspec (g_bas O Y))
 | 5 => some (Sx.vspec (g_kit O Y))
 | 17 => some (Sx.vspec (g_kmix O Y))
 | 16 => some (Sx.vspec (g_msec O Y))
 | 15 => some (Sx.vspec (g_rev O Y))
 | 14 => some (Sx.vspec (g_rvs O Y))
 | f => spY4 O Y f
theorem spY5_ok (I : Sx.Interp) (O : OO) (hO : O = oo) (Y : OY) (hY : Y = yO O) : ∀ f s, spY5 O Y f = some s → Sx.SpecOK I Tryd.prog f s := by
 intro f s h
 unfold spY5 at h
 split at h
 · cases h; exact ok_per I O hO Y hY
 · cases h; exact ok_bas I O hO Y hY
 · cases h; exact ok_kit I O hO Y hY
 · cases h; exact ok_kmix I O hO Y hY
 · cases h; exact ok_msec I O hO Y hY
 · cases h; exact ok_rev I O hO Y hY
 · cases h; exact ok_rvs I O hO Y hY
 ·exact spY4_ok I O hO Y hY _ s h
end Go.Proofs.YtheihhjlkefhgaaDoor
