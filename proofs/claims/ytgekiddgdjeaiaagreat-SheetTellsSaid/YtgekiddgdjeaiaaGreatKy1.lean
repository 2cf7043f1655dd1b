/- Keys: the functions of the program and of the document, by the symbolic machine (printed by genky.py; VCs by VcTool). -/
import Derived.Test.YtgekiddgdjeaiaaGreatPh
namespace Go.Proofs.YtgekiddgdjeaiaaGreat
open Go.RowKit Go.Lib Ckp Cfd Cpd Sx
open IntKind (i64 u64 u8 i32 u32)
set_option linter.unusedVariables false
set_option linter.unusedSimpArgs false
set_option maxRecDepth 1000000
set_option maxHeartbeats 4000000
structure OY where
 fac : ByteArray → Int → Int → Int
 cs : Int → Array Value → Nat → Int
def bqn (O : OO) (s : ByteArray) (a b : Int) : Int := O.lm (AV (O.tag s [O.be8 a, O.be8 b]))
def bka (Y : OY) (n : Int) (a : Array Value) (i : Nat) : Int := bif okN n then Y.cs (i64.wrap (1048575 - n)) a i else 0
def bqe : ByteArray := ByteArray.mk #[107, 105, 116]
def bpu : ByteArray := ByteArray.mk #[109, 105, 120]
def bje : ByteArray := ByteArray.mk #[114, 101, 118, 111, 107, 101]
def cel (l : List Int) (i : Nat) : Int := l.getD i 0
def ab6 (O : OO) (a : Array Value) (n : Int) : Nat → Int := O.tag bqe [ax8 a, [n]]
def bow (O : OO) (Y : OY) (b p : Int) : Int := O.uo b (O.jl (Y.fac bpu p b))
def bkn (O : OO) (Y : OY) (b p : Int) : Int := O.ab8 b (Y.fac bpu p (O.jl b))
def bp2 (O : OO) (Y : OY) (b p : Int) : Int := O.uo (O.mi b (Y.fac bje b p)) (O.mi p (Y.fac bje p b))
def a4u (O : OO) (a : Array Value) : Int := O.jl (O.lm a)
def bkk (O : OO) (Y : OY) (b : Int) (a : Array Value) : Int := O.ab8 (O.uk b (Y.fac bje (O.jl b) (a4u O a))) (O.uk (O.lm a) (Y.fac bje (a4u O a) (O.jl b)))
def yO (O : OO) : OY := ⟨bqn O, fun p a => stepS O p 20 (fnA a) 20⟩
def bgd (O : OO) (Y : OY) (f : FuncId) : Option Sx.Spec := match f with
 | 121 => some (l7 [.ro .u8] (atb O))
 | f => bj1 O (zO O) f
theorem a2o (I : Sx.Interp) (O : OO) (hO : O = oo) (Y : OY) (hY : Y = yO O) : ∀ f s, bgd O Y f = some s → ag I Tryz.prog f s := by
 intro f s h
 unfold bgd at h
 split at h
 · cases h; exact a8w I O hO
 ·exact a2v I O hO (zO O) rfl _ s h
def bcm (O : OO) (Y : OY) (l : List Value) : Option (Bool × Value) := match l with
 | [.int .i64 n] => some (true, .int .i64 (i64.wrap (1048575 - n)))
 | _ => none
def bcn (O : OO) (Y : OY) (l : List Value) : Option (Bool × Value) := match l with
 | [.int .i64 n] => some (true, .int .i64 (i64.wrap (1048575 - n)))
 | _ => none
def bm8 (O : OO) (Y : OY) (l : List Value) : Option (Bool × Value) := match l with
 | [.agg m, .int .i64 20, .int .i64 p] => some ((O.isH m), .agg (AV (Y.cs p m)))
 | _ => none
def bqo (O : OO) (Y : OY) (l : List Value) : Option (Bool × Value) := match l with
 | [.agg m, .int .i64 20, .int .i64 p] => some ((O.isH m), .agg (AV (Y.cs p m)))
 | _ => none
def avt (O : OO) (Y : OY) (xs : List Arg) : Option (Bool × List Ret) := match xs with
 | [.ints b, .v (.int .u64 n)] => some ((inU n 18446744073709551616) && (Nat.ble b.length 1000), [.ints 5 .u8 (b ++ O.be8 n)])
 | _ => none
theorem bh7 (O : OO) (Y : OY) (b : List Int) (n : Int) (F : FO O) (hy : Y = yO O) (h0 : inU n 18446744073709551616 = true) (h1 : Nat.ble b.length 1000 = true) (hb : O.be8 = ao6) :
 let T1 := app (app (app (app (app [] b) [u8.wrap (n.fdiv (df 2 56))]) [u8.wrap (n.fdiv (df 2 48))]) [u8.wrap (n.fdiv (df 2 40))]) [u8.wrap (n.fdiv (df 2 32))];
  let T2 := app (app T1 [u8.wrap (n.fdiv (df 2 24))]) [u8.wrap (n.fdiv (df 2 16))]; let T3 := app (app (app [] b) [u8.wrap (n.fdiv (df 2 56))]) [u8.wrap (n.fdiv (df 2 48))];
  let T4 := ay (app (app [] b) [u8.wrap (n.fdiv (df 2 56))]).length [u8.wrap (n.fdiv (df 2 48))].length; let T5 := ay (app T3 [u8.wrap (n.fdiv (df 2 40))]).length [u8.wrap (n.fdiv (df 2 32))].length;
  let T6 := ay (app T1 [u8.wrap (n.fdiv (df 2 24))]).length [u8.wrap (n.fdiv (df 2 16))].length; let T7 := ay (app T2 [u8.wrap (n.fdiv (df 2 8))]).length [u8.wrap (n.fdiv (df 2 0))].length;
  let T8 := ay (app [] b).length [u8.wrap (n.fdiv (df 2 56))].length; let T9 := ay T3.length [u8.wrap (n.fdiv (df 2 40))].length; let T10 := ay T1.length [u8.wrap (n.fdiv (df 2 24))].length;
  let T11 := ay T2.length [u8.wrap (n.fdiv (df 2 8))].length; If ((jd (ay 0 b.length) 1).ble 140737488355328 && (ay 0 b.length).ble 9223372036854775807) (If ((jd
  T8 1).ble 140737488355328 && T8.ble 9223372036854775807) (If ((jd T4 1).ble 140737488355328 && T4.ble 9223372036854775807) (If ((jd T9 1).ble 140737488355328 && T9.ble
  9223372036854775807) (If ((jd T5 1).ble 140737488355328 && T5.ble 9223372036854775807) (If ((jd T10 1).ble 140737488355328 && T10.ble 9223372036854775807) (If ((jd T6 1).ble
  140737488355328 && T6.ble 9223372036854775807) (If ((jd T11 1).ble 140737488355328 && T11.ble 9223372036854775807) (If ((jd T7 1).ble 140737488355328 && T7.ble
  9223372036854775807) (EqI (app (app T2 [u8.wrap (n.fdiv (df 2 8))]) [u8.wrap (n.fdiv (df 2 0))]) (app b (O.be8 n)) ∧ True) False) False) False) False) False)
  False) False) False) False := by
 conv => zeta
 have h1' := zbL h1
 repeat (refine ziT (by simp only [Sx.app, ay, jd, zaT, Nat.ble_eq, zlA, List.length_cons, List.length_nil]; omega) ?_)
 refine ⟨?_, trivial⟩
 rw [hb]
 simp [Sx.app, Sx.EqI, ao6, beZ, df]
theorem bdh (O : OO) (Y : OY) (b : List Int) (n : Int) (F : FO O) (hy : Y = yO O) (h0 : inU n 18446744073709551616 = true) (h1 : Nat.ble b.length 1000 = true) (hb : O.be8 = ao6) : apt Tryz.prog (bgd O Y) Tryz.f66.ntmps [Ann.walk 9] (wu Tryz.f66) 0 64 (ae5 [.ro .u8, .v] [.ints b, .v (.int .u64 n)] 0) (afm [.ro .u8, .v] [.ints b, .v (.int .u64 n)] 0) (aph Tryz.prog Tryz.f66.results.toList [.ints 5 .u8 (b ++ O.be8 n)]) :=
 Eq.mpr (by kernel_rfl) (bh7 O Y b n F hy h0 h1 hb)
theorem bhr (I : Sx.Interp) (O : OO) (hO : O = oo) (Y : OY) (hY : Y = yO O) : ag I Tryz.prog 66 (l7 [.ro .u8, .v] (avt O Y)) := by
 refine aan (a2o I O hO Y hY) (by kernel_rfl) [Ann.walk 9] Tryz.func66 (by kernel_rfl) (by kernel_rfl) rfl Tryz.ntmps66 (by decide) ?_ ?_
 ·intro xs p rs h; unfold avt at h; split at h <;> first | (simp only [zsI, zpI] at h; rw [← h.2]; simp) | cases h
 ·intro xs rs hl h
  unfold avt at h
  split at h
  ·simp only [zsI, zpI, zaT] at h
   obtain ⟨⟨h0, h1⟩, rfl⟩ := h
   exact acu (bdh O Y _ _ (dn O hO) hY h0 h1 (by subst hO; kernel_rfl))
  ·cases h
def atd (O : OO) (Y : OY) (xs : List Arg) : Option (Bool × List Ret) := match xs with
 | [.ints b, .v (.agg ⟨[.int .u8 c0, .int .u8 c1, .int .u8 c2, .int .u8 c3, .int .u8 c4, .int .u8 c5, .int .u8 c6, .int .u8 c7, .int .u8 c8, .int .u8 c9, .int .u8 c10, .int .u8 c11, .int .u8 c12, .int .u8 c13, .int .u8 c14, .int .u8 c15, .int .u8 c16, .int .u8 c17, .int .u8 c18, .int .u8 c19, .int .u8 c20, .int .u8 c21, .int .u8 c22, .int .u8 c23, .int .u8 c24, .int .u8 c25, .int .u8 c26, .int .u8 c27, .int .u8 c28, .int .u8 c29, .int .u8 c30, .int .u8 c31]⟩)] => some ((Nat.ble b.length 1000), [.ints 5 .u8 (b ++ [c0, c1, c2, c3, c4, c5, c6, c7, c8, c9, c10, c11, c12, c13, c14, c15, c16, c17, c18, c19, c20, c21, c22, c23, c24, c25, c26, c27, c28, c29, c30, c31])])
 | _ => none
theorem bhl (I : Sx.Interp) (O : OO) (hO : O = oo) (Y : OY) (hY : Y = yO O) : ag I Tryz.prog 114 (l7 [.ro .u8, .v] (atd O Y)) := by
 refine aeg (sp := fun _ => none) (fun _ _ h => by cases h) (by kernel_rfl) (fun xs => match xs with | [.ints b, .v (.agg ⟨[.int .u8 c0, .int .u8 c1, .int .u8 c2, .int .u8 c3, .int .u8 c4, .int .u8 c5, .int .u8 c6, .int .u8 c7, .int .u8 c8, .int .u8 c9, .int .u8 c10, .int .u8 c11, .int .u8 c12, .int .u8 c13, .int .u8 c14, .int .u8 c15, .int .u8 c16, .int .u8 c17, .int .u8 c18, .int .u8 c19, .int .u8 c20, .int .u8 c21, .int .u8 c22, .int .u8 c23, .int .u8 c24, .int .u8 c25, .int .u8 c26, .int .u8 c27, .int .u8 c28, .int .u8 c29, .int .u8 c30, .int .u8 c31]⟩)] => bkm b (fun j => [c0, c1, c2, c3, c4, c5, c6, c7, c8, c9, c10, c11, c12, c13, c14, c15, c16, c17, c18, c19, c20, c21, c22, c23, c24, c25, c26, c27, c28, c29, c30, c31].getD j 0) | _ => []) Tryz.func114 (by kernel_rfl) (by kernel_rfl) rfl Tryz.ntmps114 (by decide) ?_ ?_
 ·intro xs p rs h; unfold atd at h; split at h <;> first | (simp only [zsI, zpI] at h; rw [← h.2]; simp) | cases h
 ·intro xs rs hl h
  unfold atd at h
  split at h
  ·simp only [zsI, zpI] at h
   obtain ⟨h1, rfl⟩ := h
   rename_i b c0 c1 c2 c3 c4 c5 c6 c7 c8 c9 c10 c11 c12 c13 c14 c15 c16 c17 c18 c19 c20 c21 c22 c23 c24 c25 c26 c27 c28 c29 c30 c31
   exact acu (Eq.mp (by kernel_rfl) (a7i b (fun j => [c0, c1, c2, c3, c4, c5, c6, c7, c8, c9, c10, c11, c12, c13, c14, c15, c16, c17, c18, c19, c20, c21, c22, c23, c24, c25, c26, c27, c28, c29, c30, c31].getD j 0) h1))
  ·cases h
def bec (O : OO) (Y : OY) (ds : List Dt) : zG := match ds with
 | [.v (.int .u64 n)] => some ((inU n 18446744073709551616), [], fun bs => ⟨[.sl 0 0 8 8], [(0, .arr 118 8 ⟨(jo (fun i => (O.be8 n).getD i 0) 8).map (Value.int .u8)⟩)]⟩)
 | _ => none
def bnv (O : OO) (Y : OY) (f : FuncId) : Option Sx.Spec := match f with
 | 66 => some (l7 [.ro .u8, .v] (avt O Y))
 | 114 => some (l7 [.ro .u8, .v] (atd O Y))
 | f => bgd O Y f
theorem bhb (I : Sx.Interp) (O : OO) (hO : O = oo) (Y : OY) (hY : Y = yO O) : ∀ f s, bnv O Y f = some s → ag I Tryz.prog f s := by
 intro f s h
 unfold bnv at h
 split at h
 · cases h; exact bhr I O hO Y hY
 · cases h; exact bhl I O hO Y hY
 ·exact a2o I O hO Y hY _ s h
def bpe (O : OO) (Y : OY) (xs : List Arg) : Option (Bool × List Ret) := match xs with
 | [.v (.string s), .ints [a, b]] => some ((inU a 18446744073709551616) && (inU b 18446744073709551616) && (Nat.ble s.size 1000), [.v (.int .u64 (Y.fac s a b))])
 | _ => none
def bp6 (O : OO) (Y : OY) (l : List Value) : Option (Bool × Value) := match l with
 | [.string s, .int .u64 a, .int .u64 b] => some ((inU a 18446744073709551616) && (inU b 18446744073709551616) && (Nat.ble s.size 1000), .int .u64 (Y.fac s a b))
 | _ => none