/- Keys: the functions of the program and of the document, by the symbolic machine (printed by genky.py; VCs by VcTool). -/
import Derived.Test.YtcdmmfelagbpdaaGreatPh
namespace Go.Proofs.YtcdmmfelagbpdaaGreat
open Go.RowKit Go.Lib Ckp Cfd Cpd Sx
set_option linter.unusedVariables false
set_option linter.unusedSimpArgs false
set_option maxRecDepth 1000000
structure OY where
 fac : ByteArray → Int → Int → Int
 cs : Int → Array Value → Nat → Int
def facO (O : OO) (s : ByteArray) (a b : Int) : Int := O.ffrom (AV (O.tag s [O.be8 a, O.be8 b]))
def secF (Y : OY) (n : Int) (a : Array Value) (i : Nat) : Int := bif okN n then Y.cs (IntKind.i64.wrap (1048575 - n)) a i else 0
def kitB : ByteArray := ByteArray.mk #[107, 105, 116]
def mixB : ByteArray := ByteArray.mk #[109, 105, 120]
def revB : ByteArray := ByteArray.mk #[114, 101, 118, 111, 107, 101]
def cel (l : List Int) (i : Nat) : Int := l.getD i 0
def kitF (O : OO) (a : Array Value) (n : Int) : Nat → Int := O.tag kitB [intsA a, [n]]
def mixO (O : OO) (Y : OY) (b p : Int) : Int := O.padd b (O.pbase (Y.fac mixB p b))
def msecO (O : OO) (Y : OY) (b p : Int) : Int := O.fadd b (Y.fac mixB p (O.pbase b))
def revO (O : OO) (Y : OY) (b p : Int) : Int := O.padd (O.pscale b (Y.fac revB b p)) (O.pscale p (Y.fac revB p b))
def perO (O : OO) (a : Array Value) : Int := O.pbase (O.ffrom a)
def rsecO (O : OO) (Y : OY) (b : Int) (a : Array Value) : Int := O.fadd (O.fmul b (Y.fac revB (O.pbase b) (perO O a))) (O.fmul (O.ffrom a) (Y.fac revB (perO O a) (O.pbase b)))
def yO (O : OO) : OY := ⟨facO O, fun p a => stepS O p 20 (fnA a) 20⟩
theorem calls_realK {I : Interp} {P : Program} {sp : FuncId → Option Sx.Spec} (hsp : ∀ f s, sp f = some s → Sx.SpecOK I P f s) (hm : P.follows .mixedOrders = true) (an : List Ann) {f : FuncId} {fn : Func} {c : Code} {N : Nat}
  (hf : P.funcs[f]? = some fn) (hb' : fn.body.isSome = true) (hc : bodyOf fn = c) (hN : fn.ntmps = N) {l : List Value} {v : Value} (hl : l.length ≤ N)
  (h : wpcI P sp N an c 0 0 (argEnv l 0) [] (retK P fn.results.toList v)) (w : World) (ha : AmbW I w := by first | assumption | exact And.intro trivial (fun _ h => h.elim)) : Calls P f l.toArray w fun e w' => e = .returned v ∧ Fr (fun _ => False) w w' :=
 calls_real hsp hm an hf hb' hc hN hl (wpcI_of h) w
def spY0 (O : OO) (Y : OY) (f : FuncId) : Option Sx.Spec := match f with
 | 96 => some (gspec [.ro .u8] (g_sumO O))
 | f => spZ0 O (zO O) f
theorem spY0_ok (I : Sx.Interp) (O : OO) (hO : O = oo) (Y : OY) (hY : Y = yO O) : ∀ f s, spY0 O Y f = some s → Sx.SpecOK I Tryz.prog f s := by
 intro f s h
 unfold spY0 at h
 split at h
 · cases h; exact ok_rSum4 I O hO
 ·exact spZ0_ok I O hO (zO O) rfl _ s h
def g_placed (O : OO) (Y : OY) (l : List Value) : Option (Bool × Value) := match l with
 | [.int .i64 n] => some (true, .int .i64 (IntKind.i64.wrap (1048575 - n)))
 | _ => none
def g_rplace (O : OO) (Y : OY) (l : List Value) : Option (Bool × Value) := match l with
 | [.int .i64 n] => some (true, .int .i64 (IntKind.i64.wrap (1048575 - n)))
 | _ => none
def g_come (O : OO) (Y : OY) (l : List Value) : Option (Bool × Value) := match l with
 | [.agg m, .int .i64 20, .int .i64 p] => some ((O.isH m), .agg (AV (Y.cs p m)))
 | _ => none
def g_to (O : OO) (Y : OY) (l : List Value) : Option (Bool × Value) := match l with
 | [.agg m, .int .i64 20, .int .i64 p] => some ((O.isH m), .agg (AV (Y.cs p m)))
 | _ => none
def g_putU (O : OO) (Y : OY) (xs : List Arg) : Option (Bool × List Ret) := match xs with
 | [.ints b, .v (.int .u64 n)] => some ((inU n 18446744073709551616) && (Nat.ble b.length 1000), [.ints 5 .u8 (b ++ O.be8 n)])
 | _ => none
def g_putH (O : OO) (Y : OY) (xs : List Arg) : Option (Bool × List Ret) := match xs with
 | [.ints b, .v (.agg ⟨[.int .u8 c0, .int .u8 c1, .int .u8 c2, .int .u8 c3, .int .u8 c4, .int .u8 c5, .int .u8 c6, .int .u8 c7, .int .u8 c8, .int .u8 c9, .int .u8 c10, .int .u8 c11, .int .u8 c12, .int .u8 c13, .int .u8 c14, .int .u8 c15, .int .u8 c16, .int .u8 c17, .int .u8 c18, .int .u8 c19, .int .u8 c20, .int .u8 c21, .int .u8 c22, .int .u8 c23, .int .u8 c24, .int .u8 c25, .int .u8 c26, .int .u8 c27, .int .u8 c28, .int .u8 c29, .int .u8 c30, .int .u8 c31]⟩)] => some ((Nat.ble b.length 1000), [.ints 5 .u8 (b ++ [c0, c1, c2, c3, c4, c5, c6, c7, c8, c9, c10, c11, c12, c13, c14, c15, c16, c17, c18, c19, c20, c21, c22, c23, c24, c25, c26, c27, c28, c29, c30, c31])])
 | _ => none
theorem ok_putH (I : Sx.Interp) (O : OO) (hO : O = oo) (Y : OY) (hY : Y = yO O) : Sx.SpecOK I Tryz.prog 75 (gspec [.ro .u8, .v] (g_putH O Y)) := by
 refine spec_genA (sp := fun _ => none) (fun _ _ h => by cases h) (by kernel_rfl) (fun xs => match xs with | [.ints b, .v (.agg ⟨[.int .u8 c0, .int .u8 c1, .int .u8 c2, .int .u8 c3, .int .u8 c4, .int .u8 c5, .int .u8 c6, .int .u8 c7, .int .u8 c8, .int .u8 c9, .int .u8 c10, .int .u8 c11, .int .u8 c12, .int .u8 c13, .int .u8 c14, .int .u8 c15, .int .u8 c16, .int .u8 c17, .int .u8 c18, .int .u8 c19, .int .u8 c20, .int .u8 c21, .int .u8 c22, .int .u8 c23, .int .u8 c24, .int .u8 c25, .int .u8 c26, .int .u8 c27, .int .u8 c28, .int .u8 c29, .int .u8 c30, .int .u8 c31]⟩)] => anPut b (fun j => [c0, c1, c2, c3, c4, c5, c6, c7, c8, c9, c10, c11, c12, c13, c14, c15, c16, c17, c18, c19, c20, c21, c22, c23, c24, c25, c26, c27, c28, c29, c30, c31].getD j 0) | _ => []) Tryz.func75 (by kernel_rfl) (by kernel_rfl) rfl Tryz.ntmps75 (by decide) ?_ ?_
 ·intro xs p rs h; unfold g_putH at h; split at h <;> first | (simp only [Option.some.injEq, Prod.mk.injEq] at h; rw [← h.2]; simp) | cases h
 ·intro xs rs hl h
  unfold g_putH at h
  split at h
  ·simp only [Option.some.injEq, Prod.mk.injEq] at h
   obtain ⟨h1, rfl⟩ := h
   rename_i b c0 c1 c2 c3 c4 c5 c6 c7 c8 c9 c10 c11 c12 c13 c14 c15 c16 c17 c18 c19 c20 c21 c22 c23 c24 c25 c26 c27 c28 c29 c30 c31
   exact wpcI_of (Eq.mp (by kernel_rfl) (wpc_putHc b (fun j => [c0, c1, c2, c3, c4, c5, c6, c7, c8, c9, c10, c11, c12, c13, c14, c15, c16, c17, c18, c19, c20, c21, c22, c23, c24, c25, c26, c27, c28, c29, c30, c31].getD j 0) h1))
  ·cases h
def spY1 (O : OO) (Y : OY) (f : FuncId) : Option Sx.Spec := match f with
 | 75 => some (gspec [.ro .u8, .v] (g_putH O Y))
 | f => spY0 O Y f
theorem spY1_ok (I : Sx.Interp) (O : OO) (hO : O = oo) (Y : OY) (hY : Y = yO O) : ∀ f s, spY1 O Y f = some s → Sx.SpecOK I Tryz.prog f s := by
 intro f s h
 unfold spY1 at h
 split at h
 · cases h; exact ok_putH I O hO Y hY
 ·exact spY0_ok I O hO Y hY _ s h
def g_fac (O : OO) (Y : OY) (xs : List Arg) : Option (Bool × List Ret) := match xs with
 | [.v (.string s), .ints [a, b]] => some ((inU a 18446744073709551616) && (inU b 18446744073709551616) && (Nat.ble s.size 1000), [.v (.int .u64 (Y.fac s a b))])
 | _ => none
def g_Fac (O : OO) (Y : OY) (l : List Value) : Option (Bool × Value) := match l with
 | [.string s, .int .u64 a, .int .u64 b] => some ((inU a 18446744073709551616) && (inU b 18446744073709551616) && (Nat.ble s.size 1000), .int .u64 (Y.fac s a b))
 | _ => none