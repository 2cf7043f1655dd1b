/- Keys: the further functions of the program and of the document (printed by genky.py; VCs by VcTool). -/
import Derived.Test.YtgekiddgdjeaiaaGreatKy1
namespace Go.Proofs.YtgekiddgdjeaiaaGreat
open Go.RowKit Go.Lib Ckp Cfd Cpd Sx
set_option linter.unusedVariables false
set_option linter.unusedSimpArgs false
set_option maxRecDepth 1000000
set_option maxHeartbeats 4000000
def bol (O : OO) (Y : OY) (f : FuncId) : Option Sx.Spec := match f with
 | f => bnv O Y f
theorem bjv (I : Sx.Interp) (O : OO) (hO : O = oo) (Y : OY) (hY : Y = yO O) : ∀ f s, bol O Y f = some s → ag I Tryz.prog f s := by
 intro f s h
 unfold bol at h
 exact bhb I O hO Y hY _ s h

def bo0 (O : OO) (Y : OY) (l : List Value) : Option (Bool × Value) := match l with
 | [.agg m, .int .i64 n] => some ((O.isH m), .tuple #[.agg (AV (bka Y n m)), .bool (okN n)])
 | _ => none
def boj (O : OO) (Y : OY) (l : List Value) : Option (Bool × Value) := match l with
 | [.agg m, .int .i64 n] => some ((O.isH m), .tuple #[.agg (AV (bka Y n m)), .bool (okN n)])
 | _ => none
def bgr (O : OO) (Y : OY) (l : List Value) : Option (Bool × Value) := match l with
 | [.agg m] => some ((O.isH m), .int .u64 (a4u O m))
 | _ => none
def bbv (O : OO) (Y : OY) (l : List Value) : Option (Bool × Value) := match l with
 | [.agg m] => some ((O.isH m), .int .u64 (a4u O m))
 | _ => none
def bls (O : OO) (Y : OY) (f : FuncId) : Option Sx.Spec := match f with
 | f => bol O Y f
theorem as1 (I : Sx.Interp) (O : OO) (hO : O = oo) (Y : OY) (hY : Y = yO O) : ∀ f s, bls O Y f = some s → ag I Tryz.prog f s := by
 intro f s h
 unfold bls at h
 exact bjv I O hO Y hY _ s h

def bps (O : OO) (Y : OY) (l : List Value) : Option (Bool × Value) := match l with
 | [.agg ⟨.int .u64 a :: .int .u64 b :: .int .u64 c :: .int .u64 d :: .int .u64 e :: .int .u8 c0 :: .int .u8 c1 :: .int .u8 c2 :: .int .u8 c3 :: .int .u8 c4 :: .int .u8 c5 :: .int .u8 c6 :: .int .u8 c7 :: .int .u8 c8 :: .int .u8 c9 :: .int .u8 c10 :: .int .u8 c11 :: .int .u8 c12 :: .int .u8 c13 :: .int .u8 c14 :: .int .u8 c15 :: .int .u8 c16 :: .int .u8 c17 :: .int .u8 c18 :: .int .u8 c19 :: .int .u8 c20 :: .int .u8 c21 :: .int .u8 c22 :: .int .u8 c23 :: .int .u8 c24 :: .int .u8 c25 :: .int .u8 c26 :: .int .u8 c27 :: .int .u8 c28 :: .int .u8 c29 :: .int .u8 c30 :: .int .u8 c31 :: []⟩, .int .i64 n] => some ((inU a 18446744073709551616) && (inU b 18446744073709551616) && (inU c 18446744073709551616) && (inU d 18446744073709551616) && (inU e 18446744073709551616) && (O.isH (AV (cel [c0, c1, c2, c3, c4, c5, c6, c7, c8, c9, c10, c11, c12, c13, c14, c15, c16, c17, c18, c19, c20, c21, c22, c23, c24, c25, c26, c27, c28, c29, c30, c31]))), .tuple #[.int .u64 (bif okN n then a4u O (AV (bka Y n (AV (cel [c0, c1, c2, c3, c4, c5, c6, c7, c8, c9, c10, c11, c12, c13, c14, c15, c16, c17, c18, c19, c20, c21, c22, c23, c24, c25, c26, c27, c28, c29, c30, c31])))) else 0), .bool (okN n)])
 | _ => none
def bnu (O : OO) (Y : OY) (l : List Value) : Option (Bool × Value) := match l with
 | [.agg ⟨.int .u64 a :: .int .u64 b :: .int .u64 c :: .int .u64 d :: .int .u64 e :: .int .u8 c0 :: .int .u8 c1 :: .int .u8 c2 :: .int .u8 c3 :: .int .u8 c4 :: .int .u8 c5 :: .int .u8 c6 :: .int .u8 c7 :: .int .u8 c8 :: .int .u8 c9 :: .int .u8 c10 :: .int .u8 c11 :: .int .u8 c12 :: .int .u8 c13 :: .int .u8 c14 :: .int .u8 c15 :: .int .u8 c16 :: .int .u8 c17 :: .int .u8 c18 :: .int .u8 c19 :: .int .u8 c20 :: .int .u8 c21 :: .int .u8 c22 :: .int .u8 c23 :: .int .u8 c24 :: .int .u8 c25 :: .int .u8 c26 :: .int .u8 c27 :: .int .u8 c28 :: .int .u8 c29 :: .int .u8 c30 :: .int .u8 c31 :: []⟩, .int .i64 n] => some ((inU a 18446744073709551616) && (inU b 18446744073709551616) && (inU c 18446744073709551616) && (inU d 18446744073709551616) && (inU e 18446744073709551616) && (O.isH (AV (cel [c0, c1, c2, c3, c4, c5, c6, c7, c8, c9, c10, c11, c12, c13, c14, c15, c16, c17, c18, c19, c20, c21, c22, c23, c24, c25, c26, c27, c28, c29, c30, c31]))), .tuple #[.int .u64 (bif okN n then a4u O (AV (bka Y n (AV (cel [c0, c1, c2, c3, c4, c5, c6, c7, c8, c9, c10, c11, c12, c13, c14, c15, c16, c17, c18, c19, c20, c21, c22, c23, c24, c25, c26, c27, c28, c29, c30, c31])))) else 0), .bool (okN n)])
 | _ => none
def bp7 (O : OO) (Y : OY) (l : List Value) : Option (Bool × Value) := match l with
 | [.agg ⟨.int .u64 a :: .int .u64 b :: .int .u64 c :: .int .u64 d :: .int .u64 e :: .int .u8 c0 :: .int .u8 c1 :: .int .u8 c2 :: .int .u8 c3 :: .int .u8 c4 :: .int .u8 c5 :: .int .u8 c6 :: .int .u8 c7 :: .int .u8 c8 :: .int .u8 c9 :: .int .u8 c10 :: .int .u8 c11 :: .int .u8 c12 :: .int .u8 c13 :: .int .u8 c14 :: .int .u8 c15 :: .int .u8 c16 :: .int .u8 c17 :: .int .u8 c18 :: .int .u8 c19 :: .int .u8 c20 :: .int .u8 c21 :: .int .u8 c22 :: .int .u8 c23 :: .int .u8 c24 :: .int .u8 c25 :: .int .u8 c26 :: .int .u8 c27 :: .int .u8 c28 :: .int .u8 c29 :: .int .u8 c30 :: .int .u8 c31 :: []⟩] => some ((inU a 18446744073709551616) && (inU b 18446744073709551616) && (inU c 18446744073709551616) && (inU d 18446744073709551616) && (inU e 18446744073709551616), .agg #[.int .u64 (O.jl a), .int .u64 (O.jl b), .int .u64 (O.jl c), .int .u64 (O.jl d), .int .u64 (O.jl e)])
 | _ => none
def au6 (O : OO) (Y : OY) (l : List Value) : Option (Bool × Value) := match l with
 | [.agg ⟨.int .u64 a :: .int .u64 b :: .int .u64 c :: .int .u64 d :: .int .u64 e :: .int .u8 c0 :: .int .u8 c1 :: .int .u8 c2 :: .int .u8 c3 :: .int .u8 c4 :: .int .u8 c5 :: .int .u8 c6 :: .int .u8 c7 :: .int .u8 c8 :: .int .u8 c9 :: .int .u8 c10 :: .int .u8 c11 :: .int .u8 c12 :: .int .u8 c13 :: .int .u8 c14 :: .int .u8 c15 :: .int .u8 c16 :: .int .u8 c17 :: .int .u8 c18 :: .int .u8 c19 :: .int .u8 c20 :: .int .u8 c21 :: .int .u8 c22 :: .int .u8 c23 :: .int .u8 c24 :: .int .u8 c25 :: .int .u8 c26 :: .int .u8 c27 :: .int .u8 c28 :: .int .u8 c29 :: .int .u8 c30 :: .int .u8 c31 :: []⟩] => some ((inU a 18446744073709551616) && (inU b 18446744073709551616) && (inU c 18446744073709551616) && (inU d 18446744073709551616) && (inU e 18446744073709551616), .agg #[.int .u64 (O.jl a), .int .u64 (O.jl b), .int .u64 (O.jl c), .int .u64 (O.jl d), .int .u64 (O.jl e)])
 | _ => none
theorem bjz (O : OO) (Y : OY) (a b c d e c0 c1 c2 c3 c4 c5 c6 c7 c8 c9 c10 c11 c12 c13 c14 c15 c16 c17 c18 c19 c20 c21 c22 c23 c24 c25 c26 c27 c28 c29 c30 c31 : Int) (out : Value) (F : FO O) (hy : Y = yO O) (h0 : inU a 18446744073709551616 = true) (h1 : inU b 18446744073709551616 = true) (h2 : inU c 18446744073709551616 = true) (h3 : inU d 18446744073709551616 = true) (h4 : inU e 18446744073709551616 = true) (ho : .agg #[.int .u64 (O.jl a), .int .u64 (O.jl b), .int .u64 (O.jl c), .int .u64 (O.jl d), .int .u64 (O.jl e)] = out) :
 If (inU a 18446744073709551616) (If (inU b 18446744073709551616) (If (inU c 18446744073709551616) (If (inU d 18446744073709551616) (If (inU e 18446744073709551616) (Value.agg (Array.mk [Value.int .u64 (O.jl a), Value.int .u64 (O.jl b), Value.int .u64 (O.jl c), Value.int .u64 (O.jl d), Value.int .u64 (O.jl e)]) = out) False) False) False) False) False := by
 simp only [h0, h1, h2, h3, h4, axe]
 exact ho
theorem bh5 (I : Sx.Interp) (O : OO) (hO : O = oo) (Y : OY) (hY : Y = yO O) : ag I Tryz.prog 67 (bz (au6 O Y)) := by
 refine jq (n := 1) (as1 I O hO Y hY) (by kernel_rfl) [] Tryz.func67 (by kernel_rfl) (by kernel_rfl) rfl Tryz.ntmps67 (by decide) ?_ ?_
 ·intro l p v hg; unfold au6 at hg; split at hg <;> first | rfl | cases hg
 ·intro l v hg
  unfold au6 at hg
  split at hg
  ·rename_i a b c d e c0 c1 c2 c3 c4 c5 c6 c7 c8 c9 c10 c11 c12 c13 c14 c15 c16 c17 c18 c19 c20 c21 c22 c23 c24 c25 c26 c27 c28 c29 c30 c31
   simp only [zsI, zpI, zaT] at hg
   obtain ⟨⟨⟨⟨⟨q0, q1⟩, q2⟩, q3⟩, q4⟩, rfl⟩ := hg
   exact Eq.mpr (by kernel_rfl) (bjz O Y a b c d e c0 c1 c2 c3 c4 c5 c6 c7 c8 c9 c10 c11 c12 c13 c14 c15 c16 c17 c18 c19 c20 c21 c22 c23 c24 c25 c26 c27 c28 c29 c30 c31  _ (dn O hO) hY q0 q1 q2 q3 q4  rfl)
  ·cases hg
def bpa (O : OO) (Y : OY) (l : List Value) : Option (Bool × Value) := match l with
 | [.agg m] => some ((O.isH m), .agg ⟨[.int .u64 (O.lm (AV (ab6 O m 1))), .int .u64 (O.lm (AV (ab6 O m 2))), .int .u64 (O.lm (AV (ab6 O m 3))), .int .u64 (O.lm (AV (ab6 O m 4))), .int .u64 (O.lm (AV (ab6 O m 5)))] ++ (jo (ab6 O m 6) 32).map (Value.int .u8)⟩)
 | _ => none
def avr (O : OO) (Y : OY) (l : List Value) : Option (Bool × Value) := match l with
 | [.agg m, .int .u8 n] => some ((inU n 256) && (O.isH m), .agg (AV (ab6 O m n)))
 | _ => none
theorem bgz (O : OO) (Y : OY) (n : Int) (m : Nat → Int) (out : Value) (F : FO O) (hy : Y = yO O) (h0 : inU n 256 = true) (h1 : O.isH (AV m) = true) (ho : .agg (AV (ab6 O (AV m) n)) = out) :
 Value.agg (Array.mk (List.map (Value.int .u8) (jo (O.tag (ByteArray.mk (Array.mk [107, 105, 116])) [app [] [m 0, m 1, m 2, m 3, m 4, m 5, m 6, m 7, m 8, m 9, m 10, m 11, m 12, m 13, m 14, m 15, m 16, m 17, m 18, m 19, m 20, m 21, m 22, m 23, m 24, m 25, m 26, m 27, m 28, m 29, m 30, m 31], [n]]) 32))) = out := by
 have hAm : O.isH (Array.mk (List.map (Value.int IntKind.u8) (jo m 32))) = true := h1
 rw [← ho]
 change _ = _
 kernel_rfl
theorem bho (I : Sx.Interp) (O : OO) (hO : O = oo) (Y : OY) (hY : Y = yO O) : ag I Tryz.prog 99 (bz (avr O Y)) := by
 refine jq (n := 2) (as1 I O hO Y hY) (by kernel_rfl) [] Tryz.func99 (by kernel_rfl) (by kernel_rfl) rfl Tryz.ntmps99 (by decide) ?_ ?_
 ·intro l p v hg; unfold avr at hg; split at hg <;> first | rfl | cases hg
 ·intro l v hg
  unfold avr at hg
  split at hg
  ·rename_i m n
   simp only [zsI, zpI, zaT] at hg
   obtain ⟨⟨q0, q1⟩, rfl⟩ := hg
   obtain ⟨m, rfl⟩ := ay6 (by subst hO; exact q1 : alm m = true)
   exact Eq.mpr (by kernel_rfl) (bgz O Y n m  _ (dn O hO) hY q0 q1  rfl)
  ·cases hg
def bma (O : OO) (Y : OY) (f : FuncId) : Option Sx.Spec := match f with
 | 99 => some (bz (avr O Y))
 | f => bls O Y f
theorem a1g (I : Sx.Interp) (O : OO) (hO : O = oo) (Y : OY) (hY : Y = yO O) : ∀ f s, bma O Y f = some s → ag I Tryz.prog f s := by
 intro f s h
 unfold bma at h
 split at h
 · cases h; exact bho I O hO Y hY
 ·exact as1 I O hO Y hY _ s h
def aty (O : OO) (Y : OY) (l : List Value) : Option (Bool × Value) := match l with
 | [.agg m] => some ((O.isH m), .agg ⟨[.int .u64 (O.lm (AV (ab6 O m 1))), .int .u64 (O.lm (AV (ab6 O m 2))), .int .u64 (O.lm (AV (ab6 O m 3))), .int .u64 (O.lm (AV (ab6 O m 4))), .int .u64 (O.lm (AV (ab6 O m 5)))] ++ (jo (ab6 O m 6) 32).map (Value.int .u8)⟩)
 | _ => none
theorem bhk (O : OO) (Y : OY) (m : Nat → Int) (out : Value) (F : FO O) (hy : Y = yO O) (h0 : O.isH (AV m) = true) (ho : .agg ⟨[.int .u64 (O.lm (AV (ab6 O (AV m) 1))), .int .u64 (O.lm (AV (ab6 O (AV m) 2))), .int .u64 (O.lm (AV (ab6 O (AV m) 3))), .int .u64 (O.lm (AV (ab6 O (AV m) 4))), .int .u64 (O.lm (AV (ab6 O (AV m) 5)))] ++ (jo (ab6 O (AV m) 6) 32).map (Value.int .u8)⟩ = out) :
 let T1 := ByteArray.mk (Array.mk [107, 105, 116]); let T2 := Array.mk (List.map (Value.int .u8) (jo m 32)); If (inU 1 256 && O.isH T2) (If (decide (O.isH (AV (ab6 O (AV m) 1)) =
  true)) (If (inU 2 256 && O.isH T2) (If (decide (O.isH (AV (ab6 O (AV m) 2)) = true)) (If (inU 3 256 && O.isH T2) (If (decide (O.isH (AV (ab6 O (AV m) 3)) = true)) (If (inU 4 256
  && O.isH T2) (If (decide (O.isH (AV (ab6 O (AV m) 4)) = true)) (If (inU 5 256 && O.isH T2) (If (decide (O.isH (AV (ab6 O (AV m) 5)) = true)) (If (inU 6 256 && O.isH T2) (Value.agg
  (Array.mk [Value.int .u64 (O.lm (Array.mk (List.map (Value.int .u8) (jo (O.tag T1 [[m 0, m 1, m 2, m 3, m 4, m 5, m 6, m 7, m 8, m 9, m 10, m 11, m 12, m 13, m 14, m 15, m 16,
  m 17, m 18, m 19, m 20, m 21, m 22, m 23, m 24, m 25, m 26, m 27, m 28, m 29, m 30, m 31], [1]]) 32)))), Value.int .u64 (O.lm (Array.mk (List.map (Value.int .u8) (jo (O.tag T1
  [[m 0, m 1, m 2, m 3, m 4, m 5, m 6, m 7, m 8, m 9, m 10, m 11, m 12, m 13, m 14, m 15, m 16, m 17, m 18, m 19, m 20, m 21, m 22, m 23, m 24, m 25, m 26, m 27, m 28, m 29, m 30, m
  31], [2]]) 32)))), Value.int .u64 (O.lm (Array.mk (List.map (Value.int .u8) (jo (O.tag T1 [[m 0, m 1, m 2, m 3, m 4, m 5, m 6, m 7, m 8, m 9, m 10, m 11, m 12, m 13, m 14, m
  15, m 16, m 17, m 18, m 19, m 20, m 21, m 22, m 23, m 24, m 25, m 26, m 27, m 28, m 29, m 30, m 31], [3]]) 32)))), Value.int .u64 (O.lm (Array.mk (List.map (Value.int .u8) (jo
  (O.tag T1 [[m 0, m 1, m 2, m 3, m 4, m 5, m 6, m 7, m 8, m 9, m 10, m 11, m 12, m 13, m 14, m 15, m 16, m 17, m 18, m 19, m 20, m 21, m 22, m 23, m 24, m 25, m 26, m 27, m 28, m 29,
  m 30, m 31], [4]]) 32)))), Value.int .u64 (O.lm (Array.mk (List.map (Value.int .u8) (jo (O.tag T1 [[m 0, m 1, m 2, m 3, m 4, m 5, m 6, m 7, m 8, m 9, m 10, m 11, m 12, m 13, m
  14, m 15, m 16, m 17, m 18, m 19, m 20, m 21, m 22, m 23, m 24, m 25, m 26, m 27, m 28, m 29, m 30, m 31], [5]]) 32)))), Value.int .u8 (O.tag T1 [[m 0, m 1, m 2, m 3, m 4, m 5, m 6,
  m 7, m 8, m 9, m 10, m 11, m 12, m 13, m 14, m 15, m 16, m 17, m 18, m 19, m 20, m 21, m 22, m 23, m 24, m 25, m 26, m 27, m 28, m 29, m 30, m 31], [6]] 0), Value.int .u8 (O.tag T1
  [[m 0, m 1, m 2, m 3, m 4, m 5, m 6, m 7, m 8, m 9, m 10, m 11, m 12, m 13, m 14, m 15, m 16, m 17, m 18, m 19, m 20, m 21, m 22, m 23, m 24, m 25, m 26, m 27, m 28, m 29, m 30, m
  31], [6]] 1), Value.int .u8 (O.tag T1 [[m 0, m 1, m 2, m 3, m 4, m 5, m 6, m 7, m 8, m 9, m 10, m 11, m 12, m 13, m 14, m 15, m 16, m 17, m 18, m 19, m 20, m 21, m 22, m 23, m 24, m
  25, m 26, m 27, m 28, m 29, m 30, m 31], [6]] 2), Value.int .u8 (O.tag T1 [[m 0, m 1, m 2, m 3, m 4, m 5, m 6, m 7, m 8, m 9, m 10, m 11, m 12, m 13, m 14, m 15, m 16, m 17, m 18, m
  19, m 20, m 21, m 22, m 23, m 24, m 25, m 26, m 27, m 28, m 29, m 30, m 31], [6]] 3), Value.int .u8 (O.tag T1 [[m 0, m 1, m 2, m 3, m 4, m 5, m 6, m 7, m 8, m 9, m 10, m 11, m 12, m
  13, m 14, m 15, m 16, m 17, m 18, m 19, m 20, m 21, m 22, m 23, m 24, m 25, m 26, m 27, m 28, m 29, m 30, m 31], [6]] 4), Value.int .u8 (O.tag T1 [[m 0, m 1, m 2, m 3, m 4, m 5, m
  6, m 7, m 8, m 9, m 10, m 11, m 12, m 13, m 14, m 15, m 16, m 17, m 18, m 19, m 20, m 21, m 22, m 23, m 24, m 25, m 26, m 27, m 28, m 29, m 30, m 31], [6]] 5), Value.int .u8 (O.tag
  T1 [[m 0, m 1, m 2, m 3, m 4, m 5, m 6, m 7, m 8, m 9, m 10, m 11, m 12, m 13, m 14, m 15, m 16, m 17, m 18, m 19, m 20, m 21, m 22, m 23, m 24, m 25, m 26, m 27, m 28, m 29, m 30,
  m 31], [6]] 6), Value.int .u8 (O.tag T1 [[m 0, m 1, m 2, m 3, m 4, m 5, m 6, m 7, m 8, m 9, m 10, m 11, m 12, m 13, m 14, m 15, m 16, m 17, m 18, m 19, m 20, m 21, m 22, m 23, m 24,
  m 25, m 26, m 27, m 28, m 29, m 30, m 31], [6]] 7), Value.int .u8 (O.tag T1 [[m 0, m 1, m 2, m 3, m 4, m 5, m 6, m 7, m 8, m 9, m 10, m 11, m 12, m 13, m 14, m 15, m 16, m 17, m 18,
  m 19, m 20, m 21, m 22, m 23, m 24, m 25, m 26, m 27, m 28, m 29, m 30, m 31], [6]] 8), Value.int .u8 (O.tag T1 [[m 0, m 1, m 2, m 3, m 4, m 5, m 6, m 7, m 8, m 9, m 10, m 11, m 12,
  m 13, m 14, m 15, m 16, m 17, m 18, m 19, m 20, m 21, m 22, m 23, m 24, m 25, m 26, m 27, m 28, m 29, m 30, m 31], [6]] 9), Value.int .u8 (O.tag T1 [[m 0, m 1, m 2, m 3, m 4, m 5, m
  6, m 7, m 8, m 9, m 10, m 11, m 12, m 13, m 14, m 15, m 16, m 17, m 18, m 19, m 20, m 21, m 22, m 23, m 24, m 25, m 26, m 27, m 28, m 29, m 30, m 31], [6]] 10), Value.int .u8 (O.tag
  T1 [[m 0, m 1, m 2, m 3, m 4, m 5, m 6, m 7, m 8, m 9, m 10, m 11, m 12, m 13, m 14, m 15, m 16, m 17, m 18, m 19, m 20, m 21, m 22, m 23, m 24, m 25, m 26, m 27, m 28, m 29, m 30,
  m 31], [6]] 11), Value.int .u8 (O.tag T1 [[m 0, m 1, m 2, m 3, m 4, m 5, m 6, m 7, m 8, m 9, m 10, m 11, m 12, m 13, m 14, m 15, m 16, m 17, m 18, m 19, m 20, m 21, m 22, m 23, m
  24, m 25, m 26, m 27, m 28, m 29, m 30, m 31], [6]] 12), Value.int .u8 (O.tag T1 [[m 0, m 1, m 2, m 3, m 4, m 5, m 6, m 7, m 8, m 9, m 10, m 11, m 12, m 13, m 14, m 15, m 16, m 17,
  m 18, m 19, m 20, m 21, m 22, m 23, m 24, m 25, m 26, m 27, m 28, m 29, m 30, m 31], [6]] 13), Value.int .u8 (O.tag T1 [[m 0, m 1, m 2, m 3, m 4, m 5, m 6, m 7, m 8, m 9, m 10, m
  11, m 12, m 13, m 14, m 15, m 16, m 17, m 18, m 19, m 20, m 21, m 22, m 23, m 24, m 25, m 26, m 27, m 28, m 29, m 30, m 31], [6]] 14), Value.int .u8 (O.tag T1 [[m 0, m 1, m 2, m 3,
  m 4, m 5, m 6, m 7, m 8, m 9, m 10, m 11, m 12, m 13, m 14, m 15, m 16, m 17, m 18, m 19, m 20, m 21, m 22, m 23, m 24, m 25, m 26, m 27, m 28, m 29, m 30, m 31], [6]] 15),
  Value.int .u8 (O.tag T1 [[m 0, m 1, m 2, m 3, m 4, m 5, m 6, m 7, m 8, m 9, m 10, m 11, m 12, m 13, m 14, m 15, m 16, m 17, m 18, m 19, m 20, m 21, m 22, m 23, m 24, m 25, m 26, m
  27, m 28, m 29, m 30, m 31], [6]] 16), Value.int .u8 (O.tag T1 [[m 0, m 1, m 2, m 3, m 4, m 5, m 6, m 7, m 8, m 9, m 10, m 11, m 12, m 13, m 14, m 15, m 16, m 17, m 18, m 19, m 20,
  m 21, m 22, m 23, m 24, m 25, m 26, m 27, m 28, m 29, m 30, m 31], [6]] 17), Value.int .u8 (O.tag T1 [[m 0, m 1, m 2, m 3, m 4, m 5, m 6, m 7, m 8, m 9, m 10, m 11, m 12, m 13, m
  14, m 15, m 16, m 17, m 18, m 19, m 20, m 21, m 22, m 23, m 24, m 25, m 26, m 27, m 28, m 29, m 30, m 31], [6]] 18), Value.int .u8 (O.tag T1 [[m 0, m 1, m 2, m 3, m 4, m 5, m 6, m
  7, m 8, m 9, m 10, m 11, m 12, m 13, m 14, m 15, m 16, m 17, m 18, m 19, m 20, m 21, m 22, m 23, m 24, m 25, m 26, m 27, m 28, m 29, m 30, m 31], [6]] 19), Value.int .u8 (O.tag T1
  [[m 0, m 1, m 2, m 3, m 4, m 5, m 6, m 7, m 8, m 9, m 10, m 11, m 12, m 13, m 14, m 15, m 16, m 17, m 18, m 19, m 20, m 21, m 22, m 23, m 24, m 25, m 26, m 27, m 28, m 29, m 30, m
  31], [6]] 20), Value.int .u8 (O.tag T1 [[m 0, m 1, m 2, m 3, m 4, m 5, m 6, m 7, m 8, m 9, m 10, m 11, m 12, m 13, m 14, m 15, m 16, m 17, m 18, m 19, m 20, m 21, m 22, m 23, m 24,
  m 25, m 26, m 27, m 28, m 29, m 30, m 31], [6]] 21), Value.int .u8 (O.tag T1 [[m 0, m 1, m 2, m 3, m 4, m 5, m 6, m 7, m 8, m 9, m 10, m 11, m 12, m 13, m 14, m 15, m 16, m 17, m
  18, m 19, m 20, m 21, m 22, m 23, m 24, m 25, m 26, m 27, m 28, m 29, m 30, m 31], [6]] 22), Value.int .u8 (O.tag T1 [[m 0, m 1, m 2, m 3, m 4, m 5, m 6, m 7, m 8, m 9, m 10, m 11,
  m 12, m 13, m 14, m 15, m 16, m 17, m 18, m 19, m 20, m 21, m 22, m 23, m 24, m 25, m 26, m 27, m 28, m 29, m 30, m 31], [6]] 23), Value.int .u8 (O.tag T1 [[m 0, m 1, m 2, m 3, m 4,
  m 5, m 6, m 7, m 8, m 9, m 10, m 11, m 12, m 13, m 14, m 15, m 16, m 17, m 18, m 19, m 20, m 21, m 22, m 23, m 24, m 25, m 26, m 27, m 28, m 29, m 30, m 31], [6]] 24), Value.int .u8
  (O.tag T1 [[m 0, m 1, m 2, m 3, m 4, m 5, m 6, m 7, m 8, m 9, m 10, m 11, m 12, m 13, m 14, m 15, m 16, m 17, m 18, m 19, m 20, m 21, m 22, m 23, m 24, m 25, m 26, m 27, m 28, m 29,
  m 30, m 31], [6]] 25), Value.int .u8 (O.tag T1 [[m 0, m 1, m 2, m 3, m 4, m 5, m 6, m 7, m 8, m 9, m 10, m 11, m 12, m 13, m 14, m 15, m 16, m 17, m 18, m 19, m 20, m 21, m 22, m
  23, m 24, m 25, m 26, m 27, m 28, m 29, m 30, m 31], [6]] 26), Value.int .u8 (O.tag T1 [[m 0, m 1, m 2, m 3, m 4, m 5, m 6, m 7, m 8, m 9, m 10, m 11, m 12, m 13, m 14, m 15, m 16,
  m 17, m 18, m 19, m 20, m 21, m 22, m 23, m 24, m 25, m 26, m 27, m 28, m 29, m 30, m 31], [6]] 27), Value.int .u8 (O.tag T1 [[m 0, m 1, m 2, m 3, m 4, m 5, m 6, m 7, m 8, m 9, m
  10, m 11, m 12, m 13, m 14, m 15, m 16, m 17, m 18, m 19, m 20, m 21, m 22, m 23, m 24, m 25, m 26, m 27, m 28, m 29, m 30, m 31], [6]] 28), Value.int .u8 (O.tag T1 [[m 0, m 1, m 2,
  m 3, m 4, m 5, m 6, m 7, m 8, m 9, m 10, m 11, m 12, m 13, m 14, m 15, m 16, m 17, m 18, m 19, m 20, m 21, m 22, m 23, m 24, m 25, m 26, m 27, m 28, m 29, m 30, m 31], [6]] 29),
  Value.int .u8 (O.tag T1 [[m 0, m 1, m 2, m 3, m 4, m 5, m 6, m 7, m 8, m 9, m 10, m 11, m 12, m 13, m 14, m 15, m 16, m 17, m 18, m 19, m 20, m 21, m 22, m 23, m 24, m 25, m 26, m
  27, m 28, m 29, m 30, m 31], [6]] 30), Value.int .u8 (O.tag T1 [[m 0, m 1, m 2, m 3, m 4, m 5, m 6, m 7, m 8, m 9, m 10, m 11, m 12, m 13, m 14, m 15, m 16, m 17, m 18, m 19, m 20,
  m 21, m 22, m 23, m 24, m 25, m 26, m 27, m 28, m 29, m 30, m 31], [6]] 31)]) = out) False) False) False) False) False) False) False) False) False) False) False := by
 conv => zeta
 have hAm : O.isH (Array.mk (List.map (Value.int IntKind.u8) (jo m 32))) = true := h0
 have kH : ∀ n, O.isH (AV (ab6 O (AV m) n)) = true := fun n => F.tH _ _
 have i1 : inU 1 256 = true := by decide
 have i2 : inU 2 256 = true := by decide
 have i3 : inU 3 256 = true := by decide
 have i4 : inU 4 256 = true := by decide
 have i5 : inU 5 256 = true := by decide
 have i6 : inU 6 256 = true := by decide
 simp only [hAm, kH, i1, i2, i3, i4, i5, i6, Bool.and_self, decide_true, axe]
 rw [← ho]
 change _ = _
 kernel_rfl
theorem bgf (I : Sx.Interp) (O : OO) (hO : O = oo) (Y : OY) (hY : Y = yO O) : ag I Tryz.prog 68 (bz (aty O Y)) := by
 refine jq (n := 1) (a1g I O hO Y hY) (by kernel_rfl) [] Tryz.func68 (by kernel_rfl) (by kernel_rfl) rfl Tryz.ntmps68 (by decide) ?_ ?_
 ·intro l p v hg; unfold aty at hg; split at hg <;> first | rfl | cases hg
 ·intro l v hg
  unfold aty at hg
  split at hg
  ·rename_i m
   simp only [zsI, zpI, zaT] at hg
   obtain ⟨q0, rfl⟩ := hg
   obtain ⟨m, rfl⟩ := ay6 (by subst hO; exact q0 : alm m = true)
   exact Eq.mpr (by kernel_rfl) (bhk O Y m  _ (dn O hO) hY q0  rfl)
  ·cases hg
def bli (O : OO) (Y : OY) (l : List Value) : Option (Bool × Value) := match l with
 | [.int .u64 b, .int .u64 p] => some ((inU b 18446744073709551616) && (inU p 18446744073709551616), .int .u64 (bow O Y b p))
 | _ => none
def bkb (O : OO) (Y : OY) (l : List Value) : Option (Bool × Value) := match l with
 | [.int .u64 b, .int .u64 p] => some ((inU b 18446744073709551616) && (inU p 18446744073709551616), .int .u64 (bow O Y b p))
 | _ => none
def bn8 (O : OO) (Y : OY) (l : List Value) : Option (Bool × Value) := match l with
 | [.int .u64 b, .int .u64 p] => some ((inU b 18446744073709551616) && (inU p 18446744073709551616), .int .u64 (bkn O Y b p))
 | _ => none
def bf2 (O : OO) (Y : OY) (l : List Value) : Option (Bool × Value) := match l with
 | [.int .u64 b, .int .u64 p] => some ((inU b 18446744073709551616) && (inU p 18446744073709551616), .int .u64 (bkn O Y b p))
 | _ => none
def bpq (O : OO) (Y : OY) (l : List Value) : Option (Bool × Value) := match l with
 | [.int .u64 b, .int .u64 p] => some ((inU b 18446744073709551616) && (inU p 18446744073709551616), .int .u64 (bp2 O Y b p))
 | _ => none
def bl1 (O : OO) (Y : OY) (l : List Value) : Option (Bool × Value) := match l with
 | [.int .u64 b, .int .u64 p] => some ((inU b 18446744073709551616) && (inU p 18446744073709551616), .int .u64 (bp2 O Y b p))
 | _ => none
def bpg (O : OO) (Y : OY) (l : List Value) : Option (Bool × Value) := match l with
 | [.int .u64 b, .agg m] => some ((inU b 18446744073709551616) && (O.isH m), .int .u64 (bkk O Y b m))
 | _ => none
def bm0 (O : OO) (Y : OY) (l : List Value) : Option (Bool × Value) := match l with
 | [.int .u64 b, .agg m] => some ((inU b 18446744073709551616) && (O.isH m), .int .u64 (bkk O Y b m))
 | _ => none
def bok (O : OO) (Y : OY) (f : FuncId) : Option Sx.Spec := match f with
 | 67 => some (bz (au6 O Y))
 | 68 => some (bz (aty O Y))
 | f => bma O Y f
theorem a2e (I : Sx.Interp) (O : OO) (hO : O = oo) (Y : OY) (hY : Y = yO O) : ∀ f s, bok O Y f = some s → ag I Tryz.prog f s := by
 intro f s h
 unfold bok at h
 split at h
 · cases h; exact bh5 I O hO Y hY
 · cases h; exact bgf I O hO Y hY
 ·exact a1g I O hO Y hY _ s h
end Go.Proofs.YtgekiddgdjeaiaaGreat
