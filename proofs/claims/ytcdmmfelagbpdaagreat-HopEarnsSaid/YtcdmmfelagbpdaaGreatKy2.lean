/- Keys: the further functions of the program and of the document (printed by genky.py; VCs by VcTool). -/
import Derived.Test.YtcdmmfelagbpdaaGreatKy1
namespace Go.Proofs.YtcdmmfelagbpdaaGreat
open Go.RowKit Go.Lib Ckp Cfd Cpd Sx
set_option linter.unusedVariables false
set_option linter.unusedSimpArgs false
set_option maxRecDepth 1000000
def spY2 (O : OO) (Y : OY) (f : FuncId) : Option Sx.Spec := match f with
 | f => spY1 O Y f
theorem spY2_ok (I : Sx.Interp) (O : OO) (hO : O = oo) (Y : OY) (hY : Y = yO O) : ∀ f s, spY2 O Y f = some s → Sx.SpecOK I Tryz.prog f s := by
 intro f s h
 unfold spY2 at h
 exact spY1_ok I O hO Y hY _ s h

def g_sec (O : OO) (Y : OY) (l : List Value) : Option (Bool × Value) := match l with
 | [.agg m, .int .i64 n] => some ((O.isH m), .tuple #[.agg (AV (secF Y n m)), .bool (okN n)])
 | _ => none
def g_rsec (O : OO) (Y : OY) (l : List Value) : Option (Bool × Value) := match l with
 | [.agg m, .int .i64 n] => some ((O.isH m), .tuple #[.agg (AV (secF Y n m)), .bool (okN n)])
 | _ => none
def g_perof (O : OO) (Y : OY) (l : List Value) : Option (Bool × Value) := match l with
 | [.agg m] => some ((O.isH m), .int .u64 (perO O m))
 | _ => none
def g_rperof (O : OO) (Y : OY) (l : List Value) : Option (Bool × Value) := match l with
 | [.agg m] => some ((O.isH m), .int .u64 (perO O m))
 | _ => none
def spY3 (O : OO) (Y : OY) (f : FuncId) : Option Sx.Spec := match f with
 | f => spY2 O Y f
theorem spY3_ok (I : Sx.Interp) (O : OO) (hO : O = oo) (Y : OY) (hY : Y = yO O) : ∀ f s, spY3 O Y f = some s → Sx.SpecOK I Tryz.prog f s := by
 intro f s h
 unfold spY3 at h
 exact spY2_ok I O hO Y hY _ s h

def g_per (O : OO) (Y : OY) (l : List Value) : Option (Bool × Value) := match l with
 | [.agg ⟨.int .u64 a :: .int .u64 b :: .int .u64 c :: .int .u64 d :: .int .u64 e :: .int .u8 c0 :: .int .u8 c1 :: .int .u8 c2 :: .int .u8 c3 :: .int .u8 c4 :: .int .u8 c5 :: .int .u8 c6 :: .int .u8 c7 :: .int .u8 c8 :: .int .u8 c9 :: .int .u8 c10 :: .int .u8 c11 :: .int .u8 c12 :: .int .u8 c13 :: .int .u8 c14 :: .int .u8 c15 :: .int .u8 c16 :: .int .u8 c17 :: .int .u8 c18 :: .int .u8 c19 :: .int .u8 c20 :: .int .u8 c21 :: .int .u8 c22 :: .int .u8 c23 :: .int .u8 c24 :: .int .u8 c25 :: .int .u8 c26 :: .int .u8 c27 :: .int .u8 c28 :: .int .u8 c29 :: .int .u8 c30 :: .int .u8 c31 :: []⟩, .int .i64 n] => some ((inU a 18446744073709551616) && (inU b 18446744073709551616) && (inU c 18446744073709551616) && (inU d 18446744073709551616) && (inU e 18446744073709551616) && (O.isH (AV (cel [c0, c1, c2, c3, c4, c5, c6, c7, c8, c9, c10, c11, c12, c13, c14, c15, c16, c17, c18, c19, c20, c21, c22, c23, c24, c25, c26, c27, c28, c29, c30, c31]))), .tuple #[.int .u64 (bif okN n then perO O (AV (secF Y n (AV (cel [c0, c1, c2, c3, c4, c5, c6, c7, c8, c9, c10, c11, c12, c13, c14, c15, c16, c17, c18, c19, c20, c21, c22, c23, c24, c25, c26, c27, c28, c29, c30, c31])))) else 0), .bool (okN n)])
 | _ => none
def g_rper (O : OO) (Y : OY) (l : List Value) : Option (Bool × Value) := match l with
 | [.agg ⟨.int .u64 a :: .int .u64 b :: .int .u64 c :: .int .u64 d :: .int .u64 e :: .int .u8 c0 :: .int .u8 c1 :: .int .u8 c2 :: .int .u8 c3 :: .int .u8 c4 :: .int .u8 c5 :: .int .u8 c6 :: .int .u8 c7 :: .int .u8 c8 :: .int .u8 c9 :: .int .u8 c10 :: .int .u8 c11 :: .int .u8 c12 :: .int .u8 c13 :: .int .u8 c14 :: .int .u8 c15 :: .int .u8 c16 :: .int .u8 c17 :: .int .u8 c18 :: .int .u8 c19 :: .int .u8 c20 :: .int .u8 c21 :: .int .u8 c22 :: .int .u8 c23 :: .int .u8 c24 :: .int .u8 c25 :: .int .u8 c26 :: .int .u8 c27 :: .int .u8 c28 :: .int .u8 c29 :: .int .u8 c30 :: .int .u8 c31 :: []⟩, .int .i64 n] => some ((inU a 18446744073709551616) && (inU b 18446744073709551616) && (inU c 18446744073709551616) && (inU d 18446744073709551616) && (inU e 18446744073709551616) && (O.isH (AV (cel [c0, c1, c2, c3, c4, c5, c6, c7, c8, c9, c10, c11, c12, c13, c14, c15, c16, c17, c18, c19, c20, c21, c22, c23, c24, c25, c26, c27, c28, c29, c30, c31]))), .tuple #[.int .u64 (bif okN n then perO O (AV (secF Y n (AV (cel [c0, c1, c2, c3, c4, c5, c6, c7, c8, c9, c10, c11, c12, c13, c14, c15, c16, c17, c18, c19, c20, c21, c22, c23, c24, c25, c26, c27, c28, c29, c30, c31])))) else 0), .bool (okN n)])
 | _ => none
def g_bas (O : OO) (Y : OY) (l : List Value) : Option (Bool × Value) := match l with
 | [.agg ⟨.int .u64 a :: .int .u64 b :: .int .u64 c :: .int .u64 d :: .int .u64 e :: .int .u8 c0 :: .int .u8 c1 :: .int .u8 c2 :: .int .u8 c3 :: .int .u8 c4 :: .int .u8 c5 :: .int .u8 c6 :: .int .u8 c7 :: .int .u8 c8 :: .int .u8 c9 :: .int .u8 c10 :: .int .u8 c11 :: .int .u8 c12 :: .int .u8 c13 :: .int .u8 c14 :: .int .u8 c15 :: .int .u8 c16 :: .int .u8 c17 :: .int .u8 c18 :: .int .u8 c19 :: .int .u8 c20 :: .int .u8 c21 :: .int .u8 c22 :: .int .u8 c23 :: .int .u8 c24 :: .int .u8 c25 :: .int .u8 c26 :: .int .u8 c27 :: .int .u8 c28 :: .int .u8 c29 :: .int .u8 c30 :: .int .u8 c31 :: []⟩] => some ((inU a 18446744073709551616) && (inU b 18446744073709551616) && (inU c 18446744073709551616) && (inU d 18446744073709551616) && (inU e 18446744073709551616), .agg #[.int .u64 (O.pbase a), .int .u64 (O.pbase b), .int .u64 (O.pbase c), .int .u64 (O.pbase d), .int .u64 (O.pbase e)])
 | _ => none
def g_rbas (O : OO) (Y : OY) (l : List Value) : Option (Bool × Value) := match l with
 | [.agg ⟨.int .u64 a :: .int .u64 b :: .int .u64 c :: .int .u64 d :: .int .u64 e :: .int .u8 c0 :: .int .u8 c1 :: .int .u8 c2 :: .int .u8 c3 :: .int .u8 c4 :: .int .u8 c5 :: .int .u8 c6 :: .int .u8 c7 :: .int .u8 c8 :: .int .u8 c9 :: .int .u8 c10 :: .int .u8 c11 :: .int .u8 c12 :: .int .u8 c13 :: .int .u8 c14 :: .int .u8 c15 :: .int .u8 c16 :: .int .u8 c17 :: .int .u8 c18 :: .int .u8 c19 :: .int .u8 c20 :: .int .u8 c21 :: .int .u8 c22 :: .int .u8 c23 :: .int .u8 c24 :: .int .u8 c25 :: .int .u8 c26 :: .int .u8 c27 :: .int .u8 c28 :: .int .u8 c29 :: .int .u8 c30 :: .int .u8 c31 :: []⟩] => some ((inU a 18446744073709551616) && (inU b 18446744073709551616) && (inU c 18446744073709551616) && (inU d 18446744073709551616) && (inU e 18446744073709551616), .agg #[.int .u64 (O.pbase a), .int .u64 (O.pbase b), .int .u64 (O.pbase c), .int .u64 (O.pbase d), .int .u64 (O.pbase e)])
 | _ => none
set_option maxHeartbeats 4000000 in
theorem vc_rbas (O : OO) (Y : OY) (a b c d e c0 c1 c2 c3 c4 c5 c6 c7 c8 c9 c10 c11 c12 c13 c14 c15 c16 c17 c18 c19 c20 c21 c22 c23 c24 c25 c26 c27 c28 c29 c30 c31 : Int) (out : Value) (F : FO O) (hy : Y = yO O) (h0 : inU a 18446744073709551616 = true) (h1 : inU b 18446744073709551616 = true) (h2 : inU c 18446744073709551616 = true) (h3 : inU d 18446744073709551616 = true) (h4 : inU e 18446744073709551616 = true) (ho : .agg #[.int .u64 (O.pbase a), .int .u64 (O.pbase b), .int .u64 (O.pbase c), .int .u64 (O.pbase d), .int .u64 (O.pbase e)] = out) :
 If (inU a 18446744073709551616) (If (inU b 18446744073709551616) (If (inU c 18446744073709551616) (If (inU d 18446744073709551616) (If (inU e 18446744073709551616) (Value.agg
  (Array.mk [Value.int .u64 (O.pbase a), Value.int .u64 (O.pbase b), Value.int .u64 (O.pbase c), Value.int .u64 (O.pbase d), Value.int .u64 (O.pbase e)]) = out) False) False) False)
  False) False := by
 simp only [h0, h1, h2, h3, h4, If_t]
 exact ho
theorem wpc_rbas (O : OO) (Y : OY) (a b c d e c0 c1 c2 c3 c4 c5 c6 c7 c8 c9 c10 c11 c12 c13 c14 c15 c16 c17 c18 c19 c20 c21 c22 c23 c24 c25 c26 c27 c28 c29 c30 c31 : Int) (out : Value) (F : FO O) (hy : Y = yO O) (h0 : inU a 18446744073709551616 = true) (h1 : inU b 18446744073709551616 = true) (h2 : inU c 18446744073709551616 = true) (h3 : inU d 18446744073709551616 = true) (h4 : inU e 18446744073709551616 = true) (ho : .agg #[.int .u64 (O.pbase a), .int .u64 (O.pbase b), .int .u64 (O.pbase c), .int .u64 (O.pbase d), .int .u64 (O.pbase e)] = out) : wpcI Tryz.prog (spY3 O Y) Tryz.f19.ntmps [] (bodyOf Tryz.f19) 0 0 (argEnv [.agg ⟨.int .u64 a :: .int .u64 b :: .int .u64 c :: .int .u64 d :: .int .u64 e :: .int .u8 c0 :: .int .u8 c1 :: .int .u8 c2 :: .int .u8 c3 :: .int .u8 c4 :: .int .u8 c5 :: .int .u8 c6 :: .int .u8 c7 :: .int .u8 c8 :: .int .u8 c9 :: .int .u8 c10 :: .int .u8 c11 :: .int .u8 c12 :: .int .u8 c13 :: .int .u8 c14 :: .int .u8 c15 :: .int .u8 c16 :: .int .u8 c17 :: .int .u8 c18 :: .int .u8 c19 :: .int .u8 c20 :: .int .u8 c21 :: .int .u8 c22 :: .int .u8 c23 :: .int .u8 c24 :: .int .u8 c25 :: .int .u8 c26 :: .int .u8 c27 :: .int .u8 c28 :: .int .u8 c29 :: .int .u8 c30 :: .int .u8 c31 :: []⟩] 0) [] (retK Tryz.prog Tryz.f19.results.toList out) :=
 Eq.mpr (by kernel_rfl) (vc_rbas O Y a b c d e c0 c1 c2 c3 c4 c5 c6 c7 c8 c9 c10 c11 c12 c13 c14 c15 c16 c17 c18 c19 c20 c21 c22 c23 c24 c25 c26 c27 c28 c29 c30 c31 out F hy h0 h1 h2 h3 h4 ho)
theorem ok_rbas (I : Sx.Interp) (O : OO) (hO : O = oo) (Y : OY) (hY : Y = yO O) : Sx.SpecOK I Tryz.prog 19 (Sx.vspec (g_rbas O Y)) := by
 refine spec_walk (n := 1) (spY3_ok I O hO Y hY) (by kernel_rfl) [] Tryz.func19 (by kernel_rfl) (by kernel_rfl) rfl Tryz.ntmps19 (by decide) ?_ ?_
 ·intro l p v hg; unfold g_rbas at hg; split at hg <;> first | rfl | cases hg
 ·intro l v hg
  unfold g_rbas at hg
  split at hg
  ·rename_i a b c d e c0 c1 c2 c3 c4 c5 c6 c7 c8 c9 c10 c11 c12 c13 c14 c15 c16 c17 c18 c19 c20 c21 c22 c23 c24 c25 c26 c27 c28 c29 c30 c31
   simp only [Option.some.injEq, Prod.mk.injEq, Bool.and_eq_true] at hg
   obtain ⟨⟨⟨⟨⟨q0, q1⟩, q2⟩, q3⟩, q4⟩, rfl⟩ := hg
   exact wpc_rbas O Y a b c d e c0 c1 c2 c3 c4 c5 c6 c7 c8 c9 c10 c11 c12 c13 c14 c15 c16 c17 c18 c19 c20 c21 c22 c23 c24 c25 c26 c27 c28 c29 c30 c31  _ (fo_oo O hO) hY q0 q1 q2 q3 q4  rfl
  ·cases hg
def g_kit (O : OO) (Y : OY) (l : List Value) : Option (Bool × Value) := match l with
 | [.agg m] => some ((O.isH m), .agg ⟨[.int .u64 (O.ffrom (AV (kitF O m 1))), .int .u64 (O.ffrom (AV (kitF O m 2))), .int .u64 (O.ffrom (AV (kitF O m 3))), .int .u64 (O.ffrom (AV (kitF O m 4))), .int .u64 (O.ffrom (AV (kitF O m 5)))] ++ (tabI (kitF O m 6) 32).map (Value.int .u8)⟩)
 | _ => none
def g_part (O : OO) (Y : OY) (l : List Value) : Option (Bool × Value) := match l with
 | [.agg m, .int .u8 n] => some ((inU n 256) && (O.isH m), .agg (AV (kitF O m n)))
 | _ => none
set_option maxHeartbeats 4000000 in
theorem vc_part (O : OO) (Y : OY) (n : Int) (m : Nat → Int) (out : Value) (F : FO O) (hy : Y = yO O) (h0 : inU n 256 = true) (h1 : O.isH (AV m) = true) (ho : .agg (AV (kitF O (AV m) n)) = out) :
 Value.agg (Array.mk (List.map (Value.int .u8) (tabI (O.tag (ByteArray.mk (Array.mk [107, 105, 116])) [app [] [m 0, m 1, m 2, m 3, m 4, m 5, m 6, m 7, m 8, m 9, m 10, m 11, m 12, m
  13, m 14, m 15, m 16, m 17, m 18, m 19, m 20, m 21, m 22, m 23, m 24, m 25, m 26, m 27, m 28, m 29, m 30, m 31], [n]]) 32))) = out := by
 have hAm : O.isH (Array.mk (List.map (Value.int IntKind.u8) (tabI m 32))) = true := h1
 rw [← ho]
 change _ = _
 kernel_rfl
theorem wpc_part (O : OO) (Y : OY) (n : Int) (m : Nat → Int) (out : Value) (F : FO O) (hy : Y = yO O) (h0 : inU n 256 = true) (h1 : O.isH (AV m) = true) (ho : .agg (AV (kitF O (AV m) n)) = out) : wpcI Tryz.prog (spY3 O Y) Tryz.f42.ntmps [] (bodyOf Tryz.f42) 0 0 (argEnv [.agg (AV m), .int .u8 n] 0) [] (retK Tryz.prog Tryz.f42.results.toList out) :=
 Eq.mpr (by kernel_rfl) (vc_part O Y n m out F hy h0 h1 ho)
theorem ok_part (I : Sx.Interp) (O : OO) (hO : O = oo) (Y : OY) (hY : Y = yO O) : Sx.SpecOK I Tryz.prog 42 (Sx.vspec (g_part O Y)) := by
 refine spec_walk (n := 2) (spY3_ok I O hO Y hY) (by kernel_rfl) [] Tryz.func42 (by kernel_rfl) (by kernel_rfl) rfl Tryz.ntmps42 (by decide) ?_ ?_
 ·intro l p v hg; unfold g_part at hg; split at hg <;> first | rfl | cases hg
 ·intro l v hg
  unfold g_part at hg
  split at hg
  ·rename_i m n
   simp only [Option.some.injEq, Prod.mk.injEq, Bool.and_eq_true] at hg
   obtain ⟨⟨q0, q1⟩, rfl⟩ := hg
   obtain ⟨m, rfl⟩ := isH_AV (by subst hO; exact q1 : isHa m = true)
   exact wpc_part O Y n m  _ (fo_oo O hO) hY q0 q1  rfl
  ·cases hg
def spY4 (O : OO) (Y : OY) (f : FuncId) : Option Sx.Spec := match f with
 | 42 => some (Sx.vspec (g_part O Y))
 | f => spY3 O Y f
theorem spY4_ok (I : Sx.Interp) (O : OO) (hO : O = oo) (Y : OY) (hY : Y = yO O) : ∀ f s, spY4 O Y f = some s → Sx.SpecOK I Tryz.prog f s := by
 intro f s h
 unfold spY4 at h
 split at h
 · cases h; exact ok_part I O hO Y hY
 ·exact spY3_ok I O hO Y hY _ s h
def g_rkit (O : OO) (Y : OY) (l : List Value) : Option (Bool × Value) := match l with
 | [.agg m] => some ((O.isH m), .agg ⟨[.int .u64 (O.ffrom (AV (kitF O m 1))), .int .u64 (O.ffrom (AV (kitF O m 2))), .int .u64 (O.ffrom (AV (kitF O m 3))), .int .u64 (O.ffrom (AV (kitF O m 4))), .int .u64 (O.ffrom (AV (kitF O m 5)))] ++ (tabI (kitF O m 6) 32).map (Value.int .u8)⟩)
 | _ => none
set_option maxHeartbeats 4000000 in
theorem vc_rkit (O : OO) (Y : OY) (m : Nat → Int) (out : Value) (F : FO O) (hy : Y = yO O) (h0 : O.isH (AV m) = true) (ho : .agg ⟨[.int .u64 (O.ffrom (AV (kitF O (AV m) 1))), .int .u64 (O.ffrom (AV (kitF O (AV m) 2))), .int .u64 (O.ffrom (AV (kitF O (AV m) 3))), .int .u64 (O.ffrom (AV (kitF O (AV m) 4))), .int .u64 (O.ffrom (AV (kitF O (AV m) 5)))] ++ (tabI (kitF O (AV m) 6) 32).map (Value.int .u8)⟩ = out) :
 If (inU 1 256 && O.isH (Array.mk (List.map (Value.int .u8) (tabI m 32)))) (If (decide (O.isH (AV (kitF O (AV m) 1)) = true)) (If (inU 2 256 && O.isH (Array.mk (List.map (Value.int
  .u8) (tabI m 32)))) (If (decide (O.isH (AV (kitF O (AV m) 2)) = true)) (If (inU 3 256 && O.isH (Array.mk (List.map (Value.int .u8) (tabI m 32)))) (If (decide (O.isH (AV (kitF O (AV
  m) 3)) = true)) (If (inU 4 256 && O.isH (Array.mk (List.map (Value.int .u8) (tabI m 32)))) (If (decide (O.isH (AV (kitF O (AV m) 4)) = true)) (If (inU 5 256 && O.isH (Array.mk
  (List.map (Value.int .u8) (tabI m 32)))) (If (decide (O.isH (AV (kitF O (AV m) 5)) = true)) (If (inU 6 256 && O.isH (Array.mk (List.map (Value.int .u8) (tabI m 32)))) (Value.agg
  (Array.mk [Value.int .u64 (O.ffrom (Array.mk (List.map (Value.int .u8) (tabI (O.tag (ByteArray.mk (Array.mk [107, 105, 116])) [[m 0, m 1, m 2, m 3, m 4, m 5, m 6, m 7, m 8, m 9, m
  10, m 11, m 12, m 13, m 14, m 15, m 16, m 17, m 18, m 19, m 20, m 21, m 22, m 23, m 24, m 25, m 26, m 27, m 28, m 29, m 30, m 31], [1]]) 32)))), Value.int .u64 (O.ffrom (Array.mk
  (List.map (Value.int .u8) (tabI (O.tag (ByteArray.mk (Array.mk [107, 105, 116])) [[m 0, m 1, m 2, m 3, m 4, m 5, m 6, m 7, m 8, m 9, m 10, m 11, m 12, m 13, m 14, m 15, m 16, m 17,
  m 18, m 19, m 20, m 21, m 22, m 23, m 24, m 25, m 26, m 27, m 28, m 29, m 30, m 31], [2]]) 32)))), Value.int .u64 (O.ffrom (Array.mk (List.map (Value.int .u8) (tabI (O.tag
  (ByteArray.mk (Array.mk [107, 105, 116])) [[m 0, m 1, m 2, m 3, m 4, m 5, m 6, m 7, m 8, m 9, m 10, m 11, m 12, m 13, m 14, m 15, m 16, m 17, m 18, m 19, m 20, m 21, m 22, m 23, m
  24, m 25, m 26, m 27, m 28, m 29, m 30, m 31], [3]]) 32)))), Value.int .u64 (O.ffrom (Array.mk (List.map (Value.int .u8) (tabI (O.tag (ByteArray.mk (Array.mk [107, 105, 116])) [[m
  0, m 1, m 2, m 3, m 4, m 5, m 6, m 7, m 8, m 9, m 10, m 11, m 12, m 13, m 14, m 15, m 16, m 17, m 18, m 19, m 20, m 21, m 22, m 23, m 24, m 25, m 26, m 27, m 28, m 29, m 30, m 31],
  [4]]) 32)))), Value.int .u64 (O.ffrom (Array.mk (List.map (Value.int .u8) (tabI (O.tag (ByteArray.mk (Array.mk [107, 105, 116])) [[m 0, m 1, m 2, m 3, m 4, m 5, m 6, m 7, m 8, m 9,
  m 10, m 11, m 12, m 13, m 14, m 15, m 16, m 17, m 18, m 19, m 20, m 21, m 22, m 23, m 24, m 25, m 26, m 27, m 28, m 29, m 30, m 31], [5]]) 32)))), Value.int .u8 (O.tag (ByteArray.mk
  (Array.mk [107, 105, 116])) [[m 0, m 1, m 2, m 3, m 4, m 5, m 6, m 7, m 8, m 9, m 10, m 11, m 12, m 13, m 14, m 15, m 16, m 17, m 18, m 19, m 20, m 21, m 22, m 23, m 24, m 25, m 26,
  m 27, m 28, m 29, m 30, m 31], [6]] 0), Value.int .u8 (O.tag (ByteArray.mk (Array.mk [107, 105, 116])) [[m 0, m 1, m 2, m 3, m 4, m 5, m 6, m 7, m 8, m 9, m 10, m 11, m 12, m 13, m
  14, m 15, m 16, m 17, m 18, m 19, m 20, m 21, m 22, m 23, m 24, m 25, m 26, m 27, m 28, m 29, m 30, m 31], [6]] 1), Value.int .u8 (O.tag (ByteArray.mk (Array.mk [107, 105, 116]))
  [[m 0, m 1, m 2, m 3, m 4, m 5, m 6, m 7, m 8, m 9, m 10, m 11, m 12, m 13, m 14, m 15, m 16, m 17, m 18, m 19, m 20, m 21, m 22, m 23, m 24, m 25, m 26, m 27, m 28, m 29, m 30, m
  31], [6]] 2), Value.int .u8 (O.tag (ByteArray.mk (Array.mk [107, 105, 116])) [[m 0, m 1, m 2, m 3, m 4, m 5, m 6, m 7, m 8, m 9, m 10, m 11, m 12, m 13, m 14, m 15, m 16, m 17, m
  18, m 19, m 20, m 21, m 22, m 23, m 24, m 25, m 26, m 27, m 28, m 29, m 30, m 31], [6]] 3), Value.int .u8 (O.tag (ByteArray.mk (Array.mk [107, 105, 116])) [[m 0, m 1, m 2, m 3, m 4,
  m 5, m 6, m 7, m 8, m 9, m 10, m 11, m 12, m 13, m 14, m 15, m 16, m 17, m 18, m 19, m 20, m 21, m 22, m 23, m 24, m 25, m 26, m 27, m 28, m 29, m 30, m 31], [6]] 4), Value.int .u8
  (O.tag (ByteArray.mk (Array.mk [107, 105, 116])) [[m 0, m 1, m 2, m 3, m 4, m 5, m 6, m 7, m 8, m 9, m 10, m 11, m 12, m 13, m 14, m 15, m 16, m 17, m 18, m 19, m 20, m 21, m 22, m
  23, m 24, m 25, m 26, m 27, m 28, m 29, m 30, m 31], [6]] 5), Value.int .u8 (O.tag (ByteArray.mk (Array.mk [107, 105, 116])) [[m 0, m 1, m 2, m 3, m 4, m 5, m 6, m 7, m 8, m 9, m
  10, m 11, m 12, m 13, m 14, m 15, m 16, m 17, m 18, m 19, m 20, m 21, m 22, m 23, m 24, m 25, m 26, m 27, m 28, m 29, m 30, m 31], [6]] 6), Value.int .u8 (O.tag (ByteArray.mk
  (Array.mk [107, 105, 116])) [[m 0, m 1, m 2, m 3, m 4, m 5, m 6, m 7, m 8, m 9, m 10, m 11, m 12, m 13, m 14, m 15, m 16, m 17, m 18, m 19, m 20, m 21, m 22, m 23, m 24, m 25, m 26,
  m 27, m 28, m 29, m 30, m 31], [6]] 7), Value.int .u8 (O.tag (ByteArray.mk (Array.mk [107, 105, 116])) [[m 0, m 1, m 2, m 3, m 4, m 5, m 6, m 7, m 8, m 9, m 10, m 11, m 12, m 13, m
  14, m 15, m 16, m 17, m 18, m 19, m 20, m 21, m 22, m 23, m 24, m 25, m 26, m 27, m 28, m 29, m 30, m 31], [6]] 8), Value.int .u8 (O.tag (ByteArray.mk (Array.mk [107, 105, 116]))
  [[m 0, m 1, m 2, m 3, m 4, m 5, m 6, m 7, m 8, m 9, m 10, m 11, m 12, m 13, m 14, m 15, m 16, m 17, m 18, m 19, m 20, m 21, m 22, m 23, m 24, m 25, m 26, m 27, m 28, m 29, m 30, m
  31], [6]] 9), Value.int .u8 (O.tag (ByteArray.mk (Array.mk [107, 105, 116])) [[m 0, m 1, m 2, m 3, m 4, m 5, m 6, m 7, m 8, m 9, m 10, m 11, m 12, m 13, m 14, m 15, m 16, m 17, m
  18, m 19, m 20, m 21, m 22, m 23, m 24, m 25, m 26, m 27, m 28, m 29, m 30, m 31], [6]] 10), Value.int .u8 (O.tag (ByteArray.mk (Array.mk [107, 105, 116])) [[m 0, m 1, m 2, m 3, m
  4, m 5, m 6, m 7, m 8, m 9, m 10, m 11, m 12, m 13, m 14, m 15, m 16, m 17, m 18, m 19, m 20, m 21, m 22, m 23, m 24, m 25, m 26, m 27, m 28, m 29, m 30, m 31], [6]] 11), Value.int
  .u8 (O.tag (ByteArray.mk (Array.mk [107, 105, 116])) [[m 0, m 1, m 2, m 3, m 4, m 5, m 6, m 7, m 8, m 9, m 10, m 11, m 12, m 13, m 14, m 15, m 16, m 17, m 18, m 19, m 20, m 21, m
  22, m 23, m 24, m 25, m 26, m 27, m 28, m 29, m 30, m 31], [6]] 12), Value.int .u8 (O.tag (ByteArray.mk (Array.mk [107, 105, 116])) [[m 0, m 1, m 2, m 3, m 4, m 5, m 6, m 7, m 8, m
  9, m 10, m 11, m 12, m 13, m 14, m 15, m 16, m 17, m 18, m 19, m 20, m 21, m 22, m 23, m 24, m 25, m 26, m 27, m 28, m 29, m 30, m 31], [6]] 13), Value.int .u8 (O.tag (ByteArray.mk
  (Array.mk [107, 105, 116])) [[m 0, m 1, m 2, m 3, m 4, m 5, m 6, m 7, m 8, m 9, m 10, m 11, m 12, m 13, m 14, m 15, m 16, m 17, m 18, m 19, m 20, m 21, m 22, m 23, m 24, m 25, m 26,
  m 27, m 28, m 29, m 30, m 31], [6]] 14), Value.int .u8 (O.tag (ByteArray.mk (Array.mk [107, 105, 116])) [[m 0, m 1, m 2, m 3, m 4, m 5, m 6, m 7, m 8, m 9, m 10, m 11, m 12, m 13, m
  14, m 15, m 16, m 17, m 18, m 19, m 20, m 21, m 22, m 23, m 24, m 25, m 26, m 27, m 28, m 29, m 30, m 31], [6]] 15), Value.int .u8 (O.tag (ByteArray.mk (Array.mk [107, 105, 116]))
  [[m 0, m 1, m 2, m 3, m 4, m 5, m 6, m 7, m 8, m 9, m 10, m 11, m 12, m 13, m 14, m 15, m 16, m 17, m 18, m 19, m 20, m 21, m 22, m 23, m 24, m 25, m 26, m 27, m 28, m 29, m 30, m
  31], [6]] 16), Value.int .u8 (O.tag (ByteArray.mk (Array.mk [107, 105, 116])) [[m 0, m 1, m 2, m 3, m 4, m 5, m 6, m 7, m 8, m 9, m 10, m 11, m 12, m 13, m 14, m 15, m 16, m 17, m
  18, m 19, m 20, m 21, m 22, m 23, m 24, m 25, m 26, m 27, m 28, m 29, m 30, m 31], [6]] 17), Value.int .u8 (O.tag (ByteArray.mk (Array.mk [107, 105, 116])) [[m 0, m 1, m 2, m 3, m
  4, m 5, m 6, m 7, m 8, m 9, m 10, m 11, m 12, m 13, m 14, m 15, m 16, m 17, m 18, m 19, m 20, m 21, m 22, m 23, m 24, m 25, m 26, m 27, m 28, m 29, m 30, m 31], [6]] 18), Value.int
  .u8 (O.tag (ByteArray.mk (Array.mk [107, 105, 116])) [[m 0, m 1, m 2, m 3, m 4, m 5, m 6, m 7, m 8, m 9, m 10, m 11, m 12, m 13, m 14, m 15, m 16, m 17, m 18, m 19, m 20, m 21, m
  22, m 23, m 24, m 25, m 26, m 27, m 28, m 29, m 30, m 31], [6]] 19), Value.int .u8 (O.tag (ByteArray.mk (Array.mk [107, 105, 116])) [[m 0, m 1, m 2, m 3, m 4, m 5, m 6, m 7, m 8, m
  9, m 10, m 11, m 12, m 13, m 14, m 15, m 16, m 17, m 18, m 19, m 20, m 21, m 22, m 23, m 24, m 25, m 26, m 27, m 28, m 29, m 30, m 31], [6]] 20), Value.int .u8 (O.tag (ByteArray.mk
  (Array.mk [107, 105, 116])) [[m 0, m 1, m 2, m 3, m 4, m 5, m 6, m 7, m 8, m 9, m 10, m 11, m 12, m 13, m 14, m 15, m 16, m 17, m 18, m 19, m 20, m 21, m 22, m 23, m 24, m 25, m 26,
  m 27, m 28, m 29, m 30, m 31], [6]] 21), Value.int .u8 (O.tag (ByteArray.mk (Array.mk [107, 105, 116])) [[m 0, m 1, m 2, m 3, m 4, m 5, m 6, m 7, m 8, m 9, m 10, m 11, m 12, m 13, m
  14, m 15, m 16, m 17, m 18, m 19, m 20, m 21, m 22, m 23, m 24, m 25, m 26, m 27, m 28, m 29, m 30, m 31], [6]] 22), Value.int .u8 (O.tag (ByteArray.mk (Array.mk [107, 105, 116]))
  [[m 0, m 1, m 2, m 3, m 4, m 5, m 6, m 7, m 8, m 9, m 10, m 11, m 12, m 13, m 14, m 15, m 16, m 17, m 18, m 19, m 20, m 21, m 22, m 23, m 24, m 25, m 26, m 27, m 28, m 29, m 30, m
  31], [6]] 23), Value.int .u8 (O.tag (ByteArray.mk (Array.mk [107, 105, 116])) [[m 0, m 1, m 2, m 3, m 4, m 5, m 6, m 7, m 8, m 9, m 10, m 11, m 12, m 13, m 14, m 15, m 16, m 17, m
  18, m 19, m 20, m 21, m 22, m 23, m 24, m 25, m 26, m 27, m 28, m 29, m 30, m 31], [6]] 24), Value.int .u8 (O.tag (ByteArray.mk (Array.mk [107, 105, 116])) [[m 0, m 1, m 2, m 3, m
  4, m 5, m 6, m 7, m 8, m 9, m 10, m 11, m 12, m 13, m 14, m 15, m 16, m 17, m 18, m 19, m 20, m 21, m 22, m 23, m 24, m 25, m 26, m 27, m 28, m 29, m 30, m 31], [6]] 25), Value.int
  .u8 (O.tag (ByteArray.mk (Array.mk [107, 105, 116])) [[m 0, m 1, m 2, m 3, m 4, m 5, m 6, m 7, m 8, m 9, m 10, m 11, m 12, m 13, m 14, m 15, m 16, m 17, m 18, m 19, m 20, m 21, m
  22, m 23, m 24, m 25, m 26, m 27, m 28, m 29, m 30, m 31], [6]] 26), Value.int .u8 (O.tag (ByteArray.mk (Array.mk [107, 105, 116])) [[m 0, m 1, m 2, m 3, m 4, m 5, m 6, m 7, m 8, m
  9, m 10, m 11, m 12, m 13, m 14, m 15, m 16, m 17, m 18, m 19, m 20, m 21, m 22, m 23, m 24, m 25, m 26, m 27, m 28, m 29, m 30, m 31], [6]] 27), Value.int .u8 (O.tag (ByteArray.mk
  (Array.mk [107, 105, 116])) [[m 0, m 1, m 2, m 3, m 4, m 5, m 6, m 7, m 8, m 9, m 10, m 11, m 12, m 13, m 14, m 15, m 16, m 17, m 18, m 19, m 20, m 21, m 22, m 23, m 24, m 25, m 26,
  m 27, m 28, m 29, m 30, m 31], [6]] 28), Value.int .u8 (O.tag (ByteArray.mk (Array.mk [107, 105, 116])) [[m 0, m 1, m 2, m 3, m 4, m 5, m 6, m 7, m 8, m 9, m 10, m 11, m 12, m 13, m
  14, m 15, m 16, m 17, m 18, m 19, m 20, m 21, m 22, m 23, m 24, m 25, m 26, m 27, m 28, m 29, m 30, m 31], [6]] 29), Value.int .u8 (O.tag (ByteArray.mk (Array.mk [107, 105, 116]))
  [[m 0, m 1, m 2, m 3, m 4, m 5, m 6, m 7, m 8, m 9, m 10, m 11, m 12, m 13, m 14, m 15, m 16, m 17, m 18, m 19, m 20, m 21, m 22, m 23, m 24, m 25, m 26, m 27, m 28, m 29, m 30, m
  31], [6]] 30), Value.int .u8 (O.tag (ByteArray.mk (Array.mk [107, 105, 116])) [[m 0, m 1, m 2, m 3, m 4, m 5, m 6, m 7, m 8, m 9, m 10, m 11, m 12, m 13, m 14, m 15, m 16, m 17, m
  18, m 19, m 20, m 21, m 22, m 23, m 24, m 25, m 26, m 27, m 28, m 29, m 30, m 31], [6]] 31)]) = out) False) False) False) False) False) False) False) False) False) False) False := by
 have hAm : O.isH (Array.mk (List.map (Value.int IntKind.u8) (tabI m 32))) = true := h0
 have kH : ∀ n, O.isH (AV (kitF O (AV m) n)) = true := fun n => F.tH _ _
 have i1 : inU 1 256 = true := by decide
 have i2 : inU 2 256 = true := by decide
 have i3 : inU 3 256 = true := by decide
 have i4 : inU 4 256 = true := by decide
 have i5 : inU 5 256 = true := by decide
 have i6 : inU 6 256 = true := by decide
 simp only [hAm, kH, i1, i2, i3, i4, i5, i6, Bool.and_self, decide_true, If_t]
 rw [← ho]
 change _ = _
 kernel_rfl
theorem wpc_rkit (O : OO) (Y : OY) (m : Nat → Int) (out : Value) (F : FO O) (hy : Y = yO O) (h0 : O.isH (AV m) = true) (ho : .agg ⟨[.int .u64 (O.ffrom (AV (kitF O (AV m) 1))), .int .u64 (O.ffrom (AV (kitF O (AV m) 2))), .int .u64 (O.ffrom (AV (kitF O (AV m) 3))), .int .u64 (O.ffrom (AV (kitF O (AV m) 4))), .int .u64 (O.ffrom (AV (kitF O (AV m) 5)))] ++ (tabI (kitF O (AV m) 6) 32).map (Value.int .u8)⟩ = out) : wpcI Tryz.prog (spY4 O Y) Tryz.f18.ntmps [] (bodyOf Tryz.f18) 0 0 (argEnv [.agg (AV m)] 0) [] (retK Tryz.prog Tryz.f18.results.toList out) :=
 Eq.mpr (by kernel_rfl) (vc_rkit O Y m out F hy h0 ho)
theorem ok_rkit (I : Sx.Interp) (O : OO) (hO : O = oo) (Y : OY) (hY : Y = yO O) : Sx.SpecOK I Tryz.prog 18 (Sx.vspec (g_rkit O Y)) := by
 refine spec_walk (n := 1) (spY4_ok I O hO Y hY) (by kernel_rfl) [] Tryz.func18 (by kernel_rfl) (by kernel_rfl) rfl Tryz.ntmps18 (by decide) ?_ ?_
 ·intro l p v hg; unfold g_rkit at hg; split at hg <;> first | rfl | cases hg
 ·intro l v hg
  unfold g_rkit at hg
  split at hg
  ·rename_i m
   simp only [Option.some.injEq, Prod.mk.injEq, Bool.and_eq_true] at hg
   obtain ⟨q0, rfl⟩ := hg
   obtain ⟨m, rfl⟩ := isH_AV (by subst hO; exact q0 : isHa m = true)
   exact wpc_rkit O Y m  _ (fo_oo O hO) hY q0  rfl
  ·cases hg
def g_kmix (O : OO) (Y : OY) (l : List Value) : Option (Bool × Value) := match l with
 | [.int .u64 b, .int .u64 p] => some ((inU b 18446744073709551616) && (inU p 18446744073709551616), .int .u64 (mixO O Y b p))
 | _ => none
def g_krmix (O : OO) (Y : OY) (l : List Value) : Option (Bool × Value) := match l with
 | [.int .u64 b, .int .u64 p] => some ((inU b 18446744073709551616) && (inU p 18446744073709551616), .int .u64 (mixO O Y b p))
 | _ => none
def g_msec (O : OO) (Y : OY) (l : List Value) : Option (Bool × Value) := match l with
 | [.int .u64 b, .int .u64 p] => some ((inU b 18446744073709551616) && (inU p 18446744073709551616), .int .u64 (msecO O Y b p))
 | _ => none
def g_rmsec (O : OO) (Y : OY) (l : List Value) : Option (Bool × Value) := match l with
 | [.int .u64 b, .int .u64 p] => some ((inU b 18446744073709551616) && (inU p 18446744073709551616), .int .u64 (msecO O Y b p))
 | _ => none
def g_rev (O : OO) (Y : OY) (l : List Value) : Option (Bool × Value) := match l with
 | [.int .u64 b, .int .u64 p] => some ((inU b 18446744073709551616) && (inU p 18446744073709551616), .int .u64 (revO O Y b p))
 | _ => none
def g_rrev (O : OO) (Y : OY) (l : List Value) : Option (Bool × Value) := match l with
 | [.int .u64 b, .int .u64 p] => some ((inU b 18446744073709551616) && (inU p 18446744073709551616), .int .u64 (revO O Y b p))
 | _ => none
def g_rvs (O : OO) (Y : OY) (l : List Value) : Option (Bool × Value) := match l with
 | [.int .u64 b, .agg m] => some ((inU b 18446744073709551616) && (O.isH m), .int .u64 (rsecO O Y b m))
 | _ => none
def g_rrvs (O : OO) (Y : OY) (l : List Value) : Option (Bool × Value) := match l with
 | [.int .u64 b, .agg m] => some ((inU b 18446744073709551616) && (O.isH m), .int .u64 (rsecO O Y b m))
 | _ => none
def spY5 (O : OO) (Y : OY) (f : FuncId) : Option Sx.Spec := match f with
 | 19 => some (Sx.vspec (g_rbas O Y))
 | 18 => some (Sx.vspec (g_rkit O Y))
 | f => spY4 O Y f
theorem spY5_ok (I : Sx.Interp) (O : OO) (hO : O = oo) (Y : OY) (hY : Y = yO O) : ∀ f s, spY5 O Y f = some s → Sx.SpecOK I Tryz.prog f s := by
 intro f s h
 unfold spY5 at h
 split at h
 · cases h; exact ok_rbas I O hO Y hY
 · cases h; exact ok_rkit I O hO Y hY
 ·exact spY4_ok I O hO Y hY _ s h
end Go.Proofs.YtcdmmfelagbpdaaGreat
