/- Keys: the functions of the program and of the document, by the symbolic machine (printed by genky.py; VCs by VcTool). -/
import Derived.Test.YtgekiddgdjeaiaaSg2
namespace Go.Proofs.Ytgekiddgdjeaiaa
open Go.RowKit Go.Lib Ckp Cfd Cpd Sx
set_option linter.unusedVariables false
set_option linter.unusedSimpArgs false
set_option maxRecDepth 1000000
/-- What the walks of keys are stuck on. -/
structure OY where
 fac : ByteArray → Int → Int → Int
 cs : Int → Array Value → Nat → Int
def fnA (a : Array Value) (i : Nat) : Int := intV (a.getD i (.int .u8 0))
def facO (O : OO) (s : ByteArray) (a b : Int) : Int := O.ffrom (AV (O.tag s [O.be8 a, O.be8 b]))
/-- A secret's next: a bit of the place, the byte that holds it. -/
def bitP (p : Int) (k : Nat) : Bool := (IntKind.i64.wrap (((BitVec.ofInt 64 (p.fdiv (2 ^ k)) &&& BitVec.ofInt 64 1).toNat : Nat) : Int)) == 1
def flipL (f : Nat → Int) (k : Nat) : List Int := (tabI f 32).set (k / 8) (IntKind.u8.wrap (((BitVec.ofInt 8 (f (k / 8)) ^^^ BitVec.ofInt 8 (IntKind.u8.wrap (1 * 2 ^ (k % 8)))).toNat : Nat) : Int))
def nextS (O : OO) (p : Int) (k : Nat) (m : Nat → Int) : Nat → Int := bif bitP p k then O.sum (flipL m k) else m
def okN (n : Int) : Bool := !(bif iLt n 0 then true else iLe 1048576 n)
def secF (Y : OY) (n : Int) (a : Array Value) (i : Nat) : Int := bif okN n then Y.cs (IntKind.i64.wrap (1048575 - n)) a i else 0
def kitB : ByteArray := ByteArray.mk #[107, 105, 116]
def mixB : ByteArray := ByteArray.mk #[109, 105, 120]
def revB : ByteArray := ByteArray.mk #[114, 101, 118, 111, 107, 101]
def cel (l : List Int) (i : Nat) : Int := l.getD i 0
def kitF (O : OO) (a : Array Value) (n : Int) : Nat → Int := O.tag kitB [intsA a, [n]]
def mixO (O : OO) (Y : OY) (b p : Int) : Int := O.padd b (O.pbase (Y.fac mixB p b))
def msecO (O : OO) (Y : OY) (b p : Int) : Int := O.fadd b (Y.fac mixB p (O.pbase b))
def revO (O : OO) (Y : OY) (b p : Int) : Int := O.padd (O.pscale b (Y.fac revB b p)) (O.pscale p (Y.fac revB p b))
def perO (O : OO) (a : Array Value) : Int := O.pbase (O.ffrom a)
def rsecO (O : OO) (Y : OY) (b : Int) (a : Array Value) : Int := O.fadd (O.fmul b (Y.fac revB (O.pbase b) (perO O a))) (O.fmul (O.ffrom a) (Y.fac revB (perO O a) (O.pbase b)))
def zA : Array Value := Array.mk (List.replicate 32 (Value.int .u8 0))
theorem rnd {O : OO} {p : Int} {s : Nat → Nat → Int} (r : Nat) (hs : ∀ r, s (r + 1) = nextS O p (20 - 1 - r) (s r)) {E : Prop} (hE : E) {Z : Prop} (hZ : Z) : If (bitP p (20 - 1 - r)) (E ∧ AV (O.sum (flipL (s r) (20 - 1 - r))) = AV (s (r + 1)) ∧ Z) (E ∧ AV (s r) = AV (s (r + 1)) ∧ Z) := by
 rw [hs r]
 unfold nextS
 cases bitP p (20 - 1 - r)
 ·exact ⟨hE, rfl, hZ⟩
 ·exact ⟨hE, rfl, hZ⟩
/-- A secret behind r rounds out of h. -/
def stepS (O : OO) (p : Int) (h : Nat) (m : Nat → Int) : Nat → Nat → Int
 | 0 => m
 | r + 1 => nextS O p (h - 1 - r) (stepS O p h m r)
def yO (O : OO) : OY := ⟨facO O, fun p a => stepS O p 20 (fnA a) 20⟩
theorem app_len {l : List Int} {x : Int} {k : Nat} (h : l.length ≤ k) : (Sx.app l [x]).length ≤ k + 1 := by simp only [Sx.app, List.length_append, List.length_cons, List.length_nil]; omega
theorem app_fit {l : List Int} {x : Int} {k : Nat} (h : l.length ≤ k) (hk : k ≤ 5000) : (Nat.ble (Sx.nMul (Sx.nAdd l.length [x].length) 1) 140737488355328 && Nat.ble (Sx.nAdd l.length [x].length) 9223372036854775807) = true := by
 simp only [Sx.nAdd, Sx.nMul, Bool.and_eq_true, Nat.ble_eq, List.length_cons, List.length_nil]; omega
def spY0 (O : OO) (Y : OY) (f : FuncId) : Option Sx.Spec := match f with
 | 95 => some (gspec [.ro .u8] (g_sumO O))
 | f => spZ0 O (zO O) f
theorem spY0_ok (I : Sx.Interp) (O : OO) (hO : O = oo) (Y : OY) (hY : Y = yO O) : ∀ f s, spY0 O Y f = some s → Sx.SpecOK I Try.prog f s := by
 intro f s h
 unfold spY0 at h
 split at h
 · cases h; exact ok_rSum4 I O hO
 ·exact spZ0_ok I O hO (zO O) rfl _ s h
def g_placed (O : OO) (Y : OY) (l : List Value) : Option (Bool × Value) := match l with
 | [.int .i64 n] => some (true, .int .i64 (IntKind.i64.wrap (1048575 - n)))
 | _ => none
def g_rplace (O : OO) (Y : OY) (l : List Value) : Option (Bool × Value) := match l with
 | [.int .i64 n] => some (true, .int .i64 (IntKind.i64.wrap (1048575 - n)))
 | _ => none
def g_come (O : OO) (Y : OY) (l : List Value) : Option (Bool × Value) := match l with
 | [.agg m, .int .i64 20, .int .i64 p] => some ((O.isH m), .agg (AV (Y.cs p m)))
 | _ => none
def g_to (O : OO) (Y : OY) (l : List Value) : Option (Bool × Value) := match l with
 | [.agg m, .int .i64 20, .int .i64 p] => some ((O.isH m), .agg (AV (Y.cs p m)))
 | _ => none
def g_putU (O : OO) (Y : OY) (xs : List Arg) : Option (Bool × List Ret) := match xs with
 | [.ints b, .v (.int .u64 n)] => some ((inU n 18446744073709551616) && (Nat.ble b.length 1000), [.ints 5 .u8 (b ++ O.be8 n)])
 | _ => none
def g_putH (O : OO) (Y : OY) (xs : List Arg) : Option (Bool × List Ret) := match xs with
 | [.ints b, .v (.agg ⟨[.int .u8 c0, .int .u8 c1, .int .u8 c2, .int .u8 c3, .int .u8 c4, .int .u8 c5, .int .u8 c6, .int .u8 c7, .int .u8 c8, .int .u8 c9, .int .u8 c10, .int .u8 c11, .int .u8 c12, .int .u8 c13, .int .u8 c14, .int .u8 c15, .int .u8 c16, .int .u8 c17, .int .u8 c18, .int .u8 c19, .int .u8 c20, .int .u8 c21, .int .u8 c22, .int .u8 c23, .int .u8 c24, .int .u8 c25, .int .u8 c26, .int .u8 c27, .int .u8 c28, .int .u8 c29, .int .u8 c30, .int .u8 c31]⟩)] => some ((Nat.ble b.length 1000), [.ints 5 .u8 (b ++ [c0, c1, c2, c3, c4, c5, c6, c7, c8, c9, c10, c11, c12, c13, c14, c15, c16, c17, c18, c19, c20, c21, c22, c23, c24, c25, c26, c27, c28, c29, c30, c31])])
 | _ => none
set_option maxHeartbeats 4000000 in
theorem vc_putH (O : OO) (Y : OY) (b : List Int) (c0 c1 c2 c3 c4 c5 c6 c7 c8 c9 c10 c11 c12 c13 c14 c15 c16 c17 c18 c19 c20 c21 c22 c23 c24 c25 c26 c27 c28 c29 c30 c31 : Int) (F : FO O) (hy : Y = yO O) (h1 : Nat.ble b.length 1000 = true) :
 If ((nMul (nAdd 0 b.length) 1).ble 140737488355328 && (nAdd 0 b.length).ble 9223372036854775807) (((Value.int .i64 0 = Value.int .i64 (iOf 0) ∧ True) ∧ EqI (app [] b) (app b []) ∧
  Array.mk [Value.int .u8 c0, Value.int .u8 c1, Value.int .u8 c2, Value.int .u8 c3, Value.int .u8 c4, Value.int .u8 c5, Value.int .u8 c6, Value.int .u8 c7, Value.int .u8 c8, Value.int
  .u8 c9, Value.int .u8 c10, Value.int .u8 c11, Value.int .u8 c12, Value.int .u8 c13, Value.int .u8 c14, Value.int .u8 c15, Value.int .u8 c16, Value.int .u8 c17, Value.int .u8 c18,
  Value.int .u8 c19, Value.int .u8 c20, Value.int .u8 c21, Value.int .u8 c22, Value.int .u8 c23, Value.int .u8 c24, Value.int .u8 c25, Value.int .u8 c26, Value.int .u8 c27, Value.int
  .u8 c28, Value.int .u8 c29, Value.int .u8 c30, Value.int .u8 c31] = Array.mk [Value.int .u8 c0, Value.int .u8 c1, Value.int .u8 c2, Value.int .u8 c3, Value.int .u8 c4, Value.int .u8
  c5, Value.int .u8 c6, Value.int .u8 c7, Value.int .u8 c8, Value.int .u8 c9, Value.int .u8 c10, Value.int .u8 c11, Value.int .u8 c12, Value.int .u8 c13, Value.int .u8 c14, Value.int
  .u8 c15, Value.int .u8 c16, Value.int .u8 c17, Value.int .u8 c18, Value.int .u8 c19, Value.int .u8 c20, Value.int .u8 c21, Value.int .u8 c22, Value.int .u8 c23, Value.int .u8 c24,
  Value.int .u8 c25, Value.int .u8 c26, Value.int .u8 c27, Value.int .u8 c28, Value.int .u8 c29, Value.int .u8 c30, Value.int .u8 c31] ∧ True) ∧ If ((nMul (nAdd (app b []).length
  [c0].length) 1).ble 140737488355328 && (nAdd (app b []).length [c0].length).ble 9223372036854775807) ((Value.int .i64 (IntKind.i64.wrap (iAdd (iOf 0) 1)) = Value.int .i64 (iOf 1) ∧
  True) ∧ EqI (app (app b []) [c0]) (app b [c0]) ∧ Array.mk [Value.int .u8 c0, Value.int .u8 c1, Value.int .u8 c2, Value.int .u8 c3, Value.int .u8 c4, Value.int .u8 c5, Value.int .u8
  c6, Value.int .u8 c7, Value.int .u8 c8, Value.int .u8 c9, Value.int .u8 c10, Value.int .u8 c11, Value.int .u8 c12, Value.int .u8 c13, Value.int .u8 c14, Value.int .u8 c15, Value.int
  .u8 c16, Value.int .u8 c17, Value.int .u8 c18, Value.int .u8 c19, Value.int .u8 c20, Value.int .u8 c21, Value.int .u8 c22, Value.int .u8 c23, Value.int .u8 c24, Value.int .u8 c25,
  Value.int .u8 c26, Value.int .u8 c27, Value.int .u8 c28, Value.int .u8 c29, Value.int .u8 c30, Value.int .u8 c31] = Array.mk [Value.int .u8 c0, Value.int .u8 c1, Value.int .u8 c2,
  Value.int .u8 c3, Value.int .u8 c4, Value.int .u8 c5, Value.int .u8 c6, Value.int .u8 c7, Value.int .u8 c8, Value.int .u8 c9, Value.int .u8 c10, Value.int .u8 c11, Value.int .u8
  c12, Value.int .u8 c13, Value.int .u8 c14, Value.int .u8 c15, Value.int .u8 c16, Value.int .u8 c17, Value.int .u8 c18, Value.int .u8 c19, Value.int .u8 c20, Value.int .u8 c21,
  Value.int .u8 c22, Value.int .u8 c23, Value.int .u8 c24, Value.int .u8 c25, Value.int .u8 c26, Value.int .u8 c27, Value.int .u8 c28, Value.int .u8 c29, Value.int .u8 c30, Value.int
  .u8 c31] ∧ True) False ∧ If ((nMul (nAdd (app b [c0]).length [c1].length) 1).ble 140737488355328 && (nAdd (app b [c0]).length [c1].length).ble 9223372036854775807) ((Value.int .i64
  (IntKind.i64.wrap (iAdd (iOf 1) 1)) = Value.int .i64 (iOf 2) ∧ True) ∧ EqI (app (app b [c0]) [c1]) (app b [c0, c1]) ∧ Array.mk [Value.int .u8 c0, Value.int .u8 c1, Value.int .u8 c2,
  Value.int .u8 c3, Value.int .u8 c4, Value.int .u8 c5, Value.int .u8 c6, Value.int .u8 c7, Value.int .u8 c8, Value.int .u8 c9, Value.int .u8 c10, Value.int .u8 c11, Value.int .u8
  c12, Value.int .u8 c13, Value.int .u8 c14, Value.int .u8 c15, Value.int .u8 c16, Value.int .u8 c17, Value.int .u8 c18, Value.int .u8 c19, Value.int .u8 c20, Value.int .u8 c21,
  Value.int .u8 c22, Value.int .u8 c23, Value.int .u8 c24, Value.int .u8 c25, Value.int .u8 c26, Value.int .u8 c27, Value.int .u8 c28, Value.int .u8 c29, Value.int .u8 c30, Value.int
  .u8 c31] = Array.mk [Value.int .u8 c0, Value.int .u8 c1, Value.int .u8 c2, Value.int .u8 c3, Value.int .u8 c4, Value.int .u8 c5, Value.int .u8 c6, Value.int .u8 c7, Value.int .u8
  c8, Value.int .u8 c9, Value.int .u8 c10, Value.int .u8 c11, Value.int .u8 c12, Value.int .u8 c13, Value.int .u8 c14, Value.int .u8 c15, Value.int .u8 c16, Value.int .u8 c17,
  Value.int .u8 c18, Value.int .u8 c19, Value.int .u8 c20, Value.int .u8 c21, Value.int .u8 c22, Value.int .u8 c23, Value.int .u8 c24, Value.int .u8 c25, Value.int .u8 c26, Value.int
  .u8 c27, Value.int .u8 c28, Value.int .u8 c29, Value.int .u8 c30, Value.int .u8 c31] ∧ True) False ∧ If ((nMul (nAdd (app b [c0, c1]).length [c2].length) 1).ble 140737488355328 &&
  (nAdd (app b [c0, c1]).length [c2].length).ble 9223372036854775807) ((Value.int .i64 (IntKind.i64.wrap (iAdd (iOf 2) 1)) = Value.int .i64 (iOf 3) ∧ True) ∧ EqI (app (app b [c0, c1])
  [c2]) (app b [c0, c1, c2]) ∧ Array.mk [Value.int .u8 c0, Value.int .u8 c1, Value.int .u8 c2, Value.int .u8 c3, Value.int .u8 c4, Value.int .u8 c5, Value.int .u8 c6, Value.int .u8
  c7, Value.int .u8 c8, Value.int .u8 c9, Value.int .u8 c10, Value.int .u8 c11, Value.int .u8 c12, Value.int .u8 c13, Value.int .u8 c14, Value.int .u8 c15, Value.int .u8 c16,
  Value.int .u8 c17, Value.int .u8 c18, Value.int .u8 c19, Value.int .u8 c20, Value.int .u8 c21, Value.int .u8 c22, Value.int .u8 c23, Value.int .u8 c24, Value.int .u8 c25, Value.int
  .u8 c26, Value.int .u8 c27, Value.int .u8 c28, Value.int .u8 c29, Value.int .u8 c30, Value.int .u8 c31] = Array.mk [Value.int .u8 c0, Value.int .u8 c1, Value.int .u8 c2, Value.int
  .u8 c3, Value.int .u8 c4, Value.int .u8 c5, Value.int .u8 c6, Value.int .u8 c7, Value.int .u8 c8, Value.int .u8 c9, Value.int .u8 c10, Value.int .u8 c11, Value.int .u8 c12,
  Value.int .u8 c13, Value.int .u8 c14, Value.int .u8 c15, Value.int .u8 c16, Value.int .u8 c17, Value.int .u8 c18, Value.int .u8 c19, Value.int .u8 c20, Value.int .u8 c21, Value.int
  .u8 c22, Value.int .u8 c23, Value.int .u8 c24, Value.int .u8 c25, Value.int .u8 c26, Value.int .u8 c27, Value.int .u8 c28, Value.int .u8 c29, Value.int .u8 c30, Value.int .u8 c31] ∧
  True) False ∧ If ((nMul (nAdd (app b [c0, c1, c2]).length [c3].length) 1).ble 140737488355328 && (nAdd (app b [c0, c1, c2]).length [c3].length).ble 9223372036854775807) ((Value.int
  .i64 (IntKind.i64.wrap (iAdd (iOf 3) 1)) = Value.int .i64 (iOf 4) ∧ True) ∧ EqI (app (app b [c0, c1, c2]) [c3]) (app b [c0, c1, c2, c3]) ∧ Array.mk [Value.int .u8 c0, Value.int .u8
  c1, Value.int .u8 c2, Value.int .u8 c3, Value.int .u8 c4, Value.int .u8 c5, Value.int .u8 c6, Value.int .u8 c7, Value.int .u8 c8, Value.int .u8 c9, Value.int .u8 c10, Value.int .u8
  c11, Value.int .u8 c12, Value.int .u8 c13, Value.int .u8 c14, Value.int .u8 c15, Value.int .u8 c16, Value.int .u8 c17, Value.int .u8 c18, Value.int .u8 c19, Value.int .u8 c20,
  Value.int .u8 c21, Value.int .u8 c22, Value.int .u8 c23, Value.int .u8 c24, Value.int .u8 c25, Value.int .u8 c26, Value.int .u8 c27, Value.int .u8 c28, Value.int .u8 c29, Value.int
  .u8 c30, Value.int .u8 c31] = Array.mk [Value.int .u8 c0, Value.int .u8 c1, Value.int .u8 c2, Value.int .u8 c3, Value.int .u8 c4, Value.int .u8 c5, Value.int .u8 c6, Value.int .u8
  c7, Value.int .u8 c8, Value.int .u8 c9, Value.int .u8 c10, Value.int .u8 c11, Value.int .u8 c12, Value.int .u8 c13, Value.int .u8 c14, Value.int .u8 c15, Value.int .u8 c16,
  Value.int .u8 c17, Value.int .u8 c18, Value.int .u8 c19, Value.int .u8 c20, Value.int .u8 c21, Value.int .u8 c22, Value.int .u8 c23, Value.int .u8 c24, Value.int .u8 c25, Value.int
  .u8 c26, Value.int .u8 c27, Value.int .u8 c28, Value.int .u8 c29, Value.int .u8 c30, Value.int .u8 c31] ∧ True) False ∧ If ((nMul (nAdd (app b [c0, c1, c2, c3]).length [c4].length)
  1).ble 140737488355328 && (nAdd (app b [c0, c1, c2, c3]).length [c4].length).ble 9223372036854775807) ((Value.int .i64 (IntKind.i64.wrap (iAdd (iOf 4) 1)) = Value.int .i64 (iOf 5) ∧
  True) ∧ EqI (app (app b [c0, c1, c2, c3]) [c4]) (app b [c0, c1, c2, c3, c4]) ∧ Array.mk [Value.int .u8 c0, Value.int .u8 c1, Value.int .u8 c2, Value.int .u8 c3, Value.int .u8 c4,
  Value.int .u8 c5, Value.int .u8 c6, Value.int .u8 c7, Value.int .u8 c8, Value.int .u8 c9, Value.int .u8 c10, Value.int .u8 c11, Value.int .u8 c12, Value.int .u8 c13, Value.int .u8
  c14, Value.int .u8 c15, Value.int .u8 c16, Value.int .u8 c17, Value.int .u8 c18, Value.int .u8 c19, Value.int .u8 c20, Value.int .u8 c21, Value.int .u8 c22, Value.int .u8 c23,
  Value.int .u8 c24, Value.int .u8 c25, Value.int .u8 c26, Value.int .u8 c27, Value.int .u8 c28, Value.int .u8 c29, Value.int .u8 c30, Value.int .u8 c31] = Array.mk [Value.int .u8 c0,
  Value.int .u8 c1, Value.int .u8 c2, Value.int .u8 c3, Value.int .u8 c4, Value.int .u8 c5, Value.int .u8 c6, Value.int .u8 c7, Value.int .u8 c8, Value.int .u8 c9, Value.int .u8 c10,
  Value.int .u8 c11, Value.int .u8 c12, Value.int .u8 c13, Value.int .u8 c14, Value.int .u8 c15, Value.int .u8 c16, Value.int .u8 c17, Value.int .u8 c18, Value.int .u8 c19, Value.int
  .u8 c20, Value.int .u8 c21, Value.int .u8 c22, Value.int .u8 c23, Value.int .u8 c24, Value.int .u8 c25, Value.int .u8 c26, Value.int .u8 c27, Value.int .u8 c28, Value.int .u8 c29,
  Value.int .u8 c30, Value.int .u8 c31] ∧ True) False ∧ If ((nMul (nAdd (app b [c0, c1, c2, c3, c4]).length [c5].length) 1).ble 140737488355328 && (nAdd (app b [c0, c1, c2, c3,
  c4]).length [c5].length).ble 9223372036854775807) ((Value.int .i64 (IntKind.i64.wrap (iAdd (iOf 5) 1)) = Value.int .i64 (iOf 6) ∧ True) ∧ EqI (app (app b [c0, c1, c2, c3, c4]) [c5])
  (app b [c0, c1, c2, c3, c4, c5]) ∧ Array.mk [Value.int .u8 c0, Value.int .u8 c1, Value.int .u8 c2, Value.int .u8 c3, Value.int .u8 c4, Value.int .u8 c5, Value.int .u8 c6, Value.int
  .u8 c7, Value.int .u8 c8, Value.int .u8 c9, Value.int .u8 c10, Value.int .u8 c11, Value.int .u8 c12, Value.int .u8 c13, Value.int .u8 c14, Value.int .u8 c15, Value.int .u8 c16,
  Value.int .u8 c17, Value.int .u8 c18, Value.int .u8 c19, Value.int .u8 c20, Value.int .u8 c21, Value.int .u8 c22, Value.int .u8 c23, Value.int .u8 c24, Value.int .u8 c25, Value.int
  .u8 c26, Value.int .u8 c27, Value.int .u8 c28, Value.int .u8 c29, Value.int .u8 c30, Value.int .u8 c31] = Array.mk [Value.int .u8 c0, Value.int .u8 c1, Value.int .u8 c2, Value.int
  .u8 c3, Value.int .u8 c4, Value.int .u8 c5, Value.int .u8 c6, Value.int .u8 c7, Value.int .u8 c8, Value.int .u8 c9, Value.int .u8 c10, Value.int .u8 c11, Value.int .u8 c12,
  Value.int .u8 c13, Value.int .u8 c14, Value.int .u8 c15, Value.int .u8 c16, Value.int .u8 c17, Value.int .u8 c18, Value.int .u8 c19, Value.int .u8 c20, Value.int .u8 c21, Value.int
  .u8 c22, Value.int .u8 c23, Value.int .u8 c24, Value.int .u8 c25, Value.int .u8 c26, Value.int .u8 c27, Value.int .u8 c28, Value.int .u8 c29, Value.int .u8 c30, Value.int .u8 c31] ∧
  True) False ∧ If ((nMul (nAdd (app b [c0, c1, c2, c3, c4, c5]).length [c6].length) 1).ble 140737488355328 && (nAdd (app b [c0, c1, c2, c3, c4, c5]).length [c6].length).ble
  9223372036854775807) ((Value.int .i64 (IntKind.i64.wrap (iAdd (iOf 6) 1)) = Value.int .i64 (iOf 7) ∧ True) ∧ EqI (app (app b [c0, c1, c2, c3, c4, c5]) [c6]) (app b [c0, c1, c2, c3,
  c4, c5, c6]) ∧ Array.mk [Value.int .u8 c0, Value.int .u8 c1, Value.int .u8 c2, Value.int .u8 c3, Value.int .u8 c4, Value.int .u8 c5, Value.int .u8 c6, Value.int .u8 c7, Value.int
  .u8 c8, Value.int .u8 c9, Value.int .u8 c10, Value.int .u8 c11, Value.int .u8 c12, Value.int .u8 c13, Value.int .u8 c14, Value.int .u8 c15, Value.int .u8 c16, Value.int .u8 c17,
  Value.int .u8 c18, Value.int .u8 c19, Value.int .u8 c20, Value.int .u8 c21, Value.int .u8 c22, Value.int .u8 c23, Value.int .u8 c24, Value.int .u8 c25, Value.int .u8 c26, Value.int
  .u8 c27, Value.int .u8 c28, Value.int .u8 c29, Value.int .u8 c30, Value.int .u8 c31] = Array.mk [Value.int .u8 c0, Value.int .u8 c1, Value.int .u8 c2, Value.int .u8 c3, Value.int
  .u8 c4, Value.int .u8 c5, Value.int .u8 c6, Value.int .u8 c7, Value.int .u8 c8, Value.int .u8 c9, Value.int .u8 c10, Value.int .u8 c11, Value.int .u8 c12, Value.int .u8 c13,
  Value.int .u8 c14, Value.int .u8 c15, Value.int .u8 c16, Value.int .u8 c17, Value.int .u8 c18, Value.int .u8 c19, Value.int .u8 c20, Value.int .u8 c21, Value.int .u8 c22, Value.int
  .u8 c23, Value.int .u8 c24, Value.int .u8 c25, Value.int .u8 c26, Value.int .u8 c27, Value.int .u8 c28, Value.int .u8 c29, Value.int .u8 c30, Value.int .u8 c31] ∧ True) False ∧ If
  ((nMul (nAdd (app b [c0, c1, c2, c3, c4, c5, c6]).length [c7].length) 1).ble 140737488355328 && (nAdd (app b [c0, c1, c2, c3, c4, c5, c6]).length [c7].length).ble
  9223372036854775807) ((Value.int .i64 (IntKind.i64.wrap (iAdd (iOf 7) 1)) = Value.int .i64 (iOf 8) ∧ True) ∧ EqI (app (app b [c0, c1, c2, c3, c4, c5, c6]) [c7]) (app b [c0, c1, c2,
  c3, c4, c5, c6, c7]) ∧ Array.mk [Value.int .u8 c0, Value.int .u8 c1, Value.int .u8 c2, Value.int .u8 c3, Value.int .u8 c4, Value.int .u8 c5, Value.int .u8 c6, Value.int .u8 c7,
  Value.int .u8 c8, Value.int .u8 c9, Value.int .u8 c10, Value.int .u8 c11, Value.int .u8 c12, Value.int .u8 c13, Value.int .u8 c14, Value.int .u8 c15, Value.int .u8 c16, Value.int
  .u8 c17, Value.int .u8 c18, Value.int .u8 c19, Value.int .u8 c20, Value.int .u8 c21, Value.int .u8 c22, Value.int .u8 c23, Value.int .u8 c24, Value.int .u8 c25, Value.int .u8 c26,
  Value.int .u8 c27, Value.int .u8 c28, Value.int .u8 c29, Value.int .u8 c30, Value.int .u8 c31] = Array.mk [Value.int .u8 c0, Value.int .u8 c1, Value.int .u8 c2, Value.int .u8 c3,
  Value.int .u8 c4, Value.int .u8 c5, Value.int .u8 c6, Value.int .u8 c7, Value.int .u8 c8, Value.int .u8 c9, Value.int .u8 c10, Value.int .u8 c11, Value.int .u8 c12, Value.int .u8
  c13, Value.int .u8 c14, Value.int .u8 c15, Value.int .u8 c16, Value.int .u8 c17, Value.int .u8 c18, Value.int .u8 c19, Value.int .u8 c20, Value.int .u8 c21, Value.int .u8 c22,
  Value.int .u8 c23, Value.int .u8 c24, Value.int .u8 c25, Value.int .u8 c26, Value.int .u8 c27, Value.int .u8 c28, Value.int .u8 c29, Value.int .u8 c30, Value.int .u8 c31] ∧ True)
  False ∧ If ((nMul (nAdd (app b [c0, c1, c2, c3, c4, c5, c6, c7]).length [c8].length) 1).ble 140737488355328 && (nAdd (app b [c0, c1, c2, c3, c4, c5, c6, c7]).length [c8].length).ble
  9223372036854775807) ((Value.int .i64 (IntKind.i64.wrap (iAdd (iOf 8) 1)) = Value.int .i64 (iOf 9) ∧ True) ∧ EqI (app (app b [c0, c1, c2, c3, c4, c5, c6, c7]) [c8]) (app b [c0, c1,
  c2, c3, c4, c5, c6, c7, c8]) ∧ Array.mk [Value.int .u8 c0, Value.int .u8 c1, Value.int .u8 c2, Value.int .u8 c3, Value.int .u8 c4, Value.int .u8 c5, Value.int .u8 c6, Value.int .u8
  c7, Value.int .u8 c8, Value.int .u8 c9, Value.int .u8 c10, Value.int .u8 c11, Value.int .u8 c12, Value.int .u8 c13, Value.int .u8 c14, Value.int .u8 c15, Value.int .u8 c16,
  Value.int .u8 c17, Value.int .u8 c18, Value.int .u8 c19, Value.int .u8 c20, Value.int .u8 c21, Value.int .u8 c22, Value.int .u8 c23, Value.int .u8 c24, Value.int .u8 c25, Value.int
  .u8 c26, Value.int .u8 c27, Value.int .u8 c28, Value.int .u8 c29, Value.int .u8 c30, Value.int .u8 c31] = Array.mk [Value.int .u8 c0, Value.int .u8 c1, Value.int .u8 c2, Value.int
  .u8 c3, Value.int .u8 c4, Value.int .u8 c5, Value.int .u8 c6, Value.int .u8 c7, Value.int .u8 c8, Value.int .u8 c9, Value.int .u8 c10, Value.int .u8 c11, Value.int .u8 c12,
  Value.int .u8 c13, Value.int .u8 c14, Value.int .u8 c15, Value.int .u8 c16, Value.int .u8 c17, Value.int .u8 c18, Value.int .u8 c19, Value.int .u8 c20, Value.int .u8 c21, Value.int
  .u8 c22, Value.int .u8 c23, Value.int .u8 c24, Value.int .u8 c25, Value.int .u8 c26, Value.int .u8 c27, Value.int .u8 c28, Value.int .u8 c29, Value.int .u8 c30, Value.int .u8 c31] ∧
  True) False ∧ If ((nMul (nAdd (app b [c0, c1, c2, c3, c4, c5, c6, c7, c8]).length [c9].length) 1).ble 140737488355328 && (nAdd (app b [c0, c1, c2, c3, c4, c5, c6, c7, c8]).length
  [c9].length).ble 9223372036854775807) ((Value.int .i64 (IntKind.i64.wrap (iAdd (iOf 9) 1)) = Value.int .i64 (iOf 10) ∧ True) ∧ EqI (app (app b [c0, c1, c2, c3, c4, c5, c6, c7, c8])
  [c9]) (app b [c0, c1, c2, c3, c4, c5, c6, c7, c8, c9]) ∧ Array.mk [Value.int .u8 c0, Value.int .u8 c1, Value.int .u8 c2, Value.int .u8 c3, Value.int .u8 c4, Value.int .u8 c5,
  Value.int .u8 c6, Value.int .u8 c7, Value.int .u8 c8, Value.int .u8 c9, Value.int .u8 c10, Value.int .u8 c11, Value.int .u8 c12, Value.int .u8 c13, Value.int .u8 c14, Value.int .u8
  c15, Value.int .u8 c16, Value.int .u8 c17, Value.int .u8 c18, Value.int .u8 c19, Value.int .u8 c20, Value.int .u8 c21, Value.int .u8 c22, Value.int .u8 c23, Value.int .u8 c24,
  Value.int .u8 c25, Value.int .u8 c26, Value.int .u8 c27, Value.int .u8 c28, Value.int .u8 c29, Value.int .u8 c30, Value.int .u8 c31] = Array.mk [Value.int .u8 c0, Value.int .u8 c1,
  Value.int .u8 c2, Value.int .u8 c3, Value.int .u8 c4, Value.int .u8 c5, Value.int .u8 c6, Value.int .u8 c7, Value.int .u8 c8, Value.int .u8 c9, Value.int .u8 c10, Value.int .u8 c11,
  Value.int .u8 c12, Value.int .u8 c13, Value.int .u8 c14, Value.int .u8 c15, Value.int .u8 c16, Value.int .u8 c17, Value.int .u8 c18, Value.int .u8 c19, Value.int .u8 c20, Value.int
  .u8 c21, Value.int .u8 c22, Value.int .u8 c23, Value.int .u8 c24, Value.int .u8 c25, Value.int .u8 c26, Value.int .u8 c27, Value.int .u8 c28, Value.int .u8 c29, Value.int .u8 c30,
  Value.int .u8 c31] ∧ True) False ∧ If ((nMul (nAdd (app b [c0, c1, c2, c3, c4, c5, c6, c7, c8, c9]).length [c10].length) 1).ble 140737488355328 && (nAdd (app b [c0, c1, c2, c3, c4,
  c5, c6, c7, c8, c9]).length [c10].length).ble 9223372036854775807) ((Value.int .i64 (IntKind.i64.wrap (iAdd (iOf 10) 1)) = Value.int .i64 (iOf 11) ∧ True) ∧ EqI (app (app b [c0, c1,
  c2, c3, c4, c5, c6, c7, c8, c9]) [c10]) (app b [c0, c1, c2, c3, c4, c5, c6, c7, c8, c9, c10]) ∧ Array.mk [Value.int .u8 c0, Value.int .u8 c1, Value.int .u8 c2, Value.int .u8 c3,
  Value.int .u8 c4, Value.int .u8 c5, Value.int .u8 c6, Value.int .u8 c7, Value.int .u8 c8, Value.int .u8 c9, Value.int .u8 c10, Value.int .u8 c11, Value.int .u8 c12, Value.int .u8
  c13, Value.int .u8 c14, Value.int .u8 c15, Value.int .u8 c16, Value.int .u8 c17, Value.int .u8 c18, Value.int .u8 c19, Value.int .u8 c20, Value.int .u8 c21, Value.int .u8 c22,
  Value.int .u8 c23, Value.int .u8 c24, Value.int .u8 c25, Value.int .u8 c26, Value.int .u8 c27, Value.int .u8 c28, Value.int .u8 c29, Value.int .u8 c30, Value.int .u8 c31] = Array.mk
  [Value.int .u8 c0, Value.int .u8 c1, Value.int .u8 c2, Value.int .u8 c3, Value.int .u8 c4, Value.int .u8 c5, Value.int .u8 c6, Value.int .u8 c7, Value.int .u8 c8, Value.int .u8 c9,
  Value.int .u8 c10, Value.int .u8 c11, Value.int .u8 c12, Value.int .u8 c13, Value.int .u8 c14, Value.int .u8 c15, Value.int .u8 c16, Value.int .u8 c17, Value.int .u8 c18, Value.int
  .u8 c19, Value.int .u8 c20, Value.int .u8 c21, Value.int .u8 c22, Value.int .u8 c23, Value.int .u8 c24, Value.int .u8 c25, Value.int .u8 c26, Value.int .u8 c27, Value.int .u8 c28,
  Value.int .u8 c29, Value.int .u8 c30, Value.int .u8 c31] ∧ True) False ∧ If ((nMul (nAdd (app b [c0, c1, c2, c3, c4, c5, c6, c7, c8, c9, c10]).length [c11].length) 1).ble
  140737488355328 && (nAdd (app b [c0, c1, c2, c3, c4, c5, c6, c7, c8, c9, c10]).length [c11].length).ble 9223372036854775807) ((Value.int .i64 (IntKind.i64.wrap (iAdd (iOf 11) 1)) =
  Value.int .i64 (iOf 12) ∧ True) ∧ EqI (app (app b [c0, c1, c2, c3, c4, c5, c6, c7, c8, c9, c10]) [c11]) (app b [c0, c1, c2, c3, c4, c5, c6, c7, c8, c9, c10, c11]) ∧ Array.mk
  [Value.int .u8 c0, Value.int .u8 c1, Value.int .u8 c2, Value.int .u8 c3, Value.int .u8 c4, Value.int .u8 c5, Value.int .u8 c6, Value.int .u8 c7, Value.int .u8 c8, Value.int .u8 c9,
  Value.int .u8 c10, Value.int .u8 c11, Value.int .u8 c12, Value.int .u8 c13, Value.int .u8 c14, Value.int .u8 c15, Value.int .u8 c16, Value.int .u8 c17, Value.int .u8 c18, Value.int
  .u8 c19, Value.int .u8 c20, Value.int .u8 c21, Value.int .u8 c22, Value.int .u8 c23, Value.int .u8 c24, Value.int .u8 c25, Value.int .u8 c26, Value.int .u8 c27, Value.int .u8 c28,
  Value.int .u8 c29, Value.int .u8 c30, Value.int .u8 c31] = Array.mk [Value.int .u8 c0, Value.int .u8 c1, Value.int .u8 c2, Value.int .u8 c3, Value.int .u8 c4, Value.int .u8 c5,
  Value.int .u8 c6, Value.int .u8 c7, Value.int .u8 c8, Value.int .u8 c9, Value.int .u8 c10, Value.int .u8 c11, Value.int .u8 c12, Value.int .u8 c13, Value.int .u8 c14, Value.int .u8
  c15, Value.int .u8 c16, Value.int .u8 c17, Value.int .u8 c18, Value.int .u8 c19, Value.int .u8 c20, Value.int .u8 c21, Value.int .u8 c22, Value.int .u8 c23, Value.int .u8 c24,
  Value.int .u8 c25, Value.int .u8 c26, Value.int .u8 c27, Value.int .u8 c28, Value.int .u8 c29, Value.int .u8 c30, Value.int .u8 c31] ∧ True) False ∧ If ((nMul (nAdd (app b [c0, c1,
  c2, c3, c4, c5, c6, c7, c8, c9, c10, c11]).length [c12].length) 1).ble 140737488355328 && (nAdd (app b [c0, c1, c2, c3, c4, c5, c6, c7, c8, c9, c10, c11]).length [c12].length).ble
  9223372036854775807) ((Value.int .i64 (IntKind.i64.wrap (iAdd (iOf 12) 1)) = Value.int .i64 (iOf 13) ∧ True) ∧ EqI (app (app b [c0, c1, c2, c3, c4, c5, c6, c7, c8, c9, c10, c11])
  [c12]) (app b [c0, c1, c2, c3, c4, c5, c6, c7, c8, c9, c10, c11, c12]) ∧ Array.mk [Value.int .u8 c0, Value.int .u8 c1, Value.int .u8 c2, Value.int .u8 c3, Value.int .u8 c4,
  Value.int .u8 c5, Value.int .u8 c6, Value.int .u8 c7, Value.int .u8 c8, Value.int .u8 c9, Value.int .u8 c10, Value.int .u8 c11, Value.int .u8 c12, Value.int .u8 c13, Value.int .u8
  c14, Value.int .u8 c15, Value.int .u8 c16, Value.int .u8 c17, Value.int .u8 c18, Value.int .u8 c19, Value.int .u8 c20, Value.int .u8 c21, Value.int .u8 c22, Value.int .u8 c23,
  Value.int .u8 c24, Value.int .u8 c25, Value.int .u8 c26, Value.int .u8 c27, Value.int .u8 c28, Value.int .u8 c29, Value.int .u8 c30, Value.int .u8 c31] = Array.mk [Value.int .u8 c0,
  Value.int .u8 c1, Value.int .u8 c2, Value.int .u8 c3, Value.int .u8 c4, Value.int .u8 c5, Value.int .u8 c6, Value.int .u8 c7, Value.int .u8 c8, Value.int .u8 c9, Value.int .u8 c10,
  Value.int .u8 c11, Value.int .u8 c12, Value.int .u8 c13, Value.int .u8 c14, Value.int .u8 c15, Value.int .u8 c16, Value.int .u8 c17, Value.int .u8 c18, Value.int .u8 c19, Value.int
  .u8 c20, Value.int .u8 c21, Value.int .u8 c22, Value.int .u8 c23, Value.int .u8 c24, Value.int .u8 c25, Value.int .u8 c26, Value.int .u8 c27, Value.int .u8 c28, Value.int .u8 c29,
  Value.int .u8 c30, Value.int .u8 c31] ∧ True) False ∧ If ((nMul (nAdd (app b [c0, c1, c2, c3, c4, c5, c6, c7, c8, c9, c10, c11, c12]).length [c13].length) 1).ble 140737488355328 &&
  (nAdd (app b [c0, c1, c2, c3, c4, c5, c6, c7, c8, c9, c10, c11, c12]).length [c13].length).ble 9223372036854775807) ((Value.int .i64 (IntKind.i64.wrap (iAdd (iOf 13) 1)) = Value.int
  .i64 (iOf 14) ∧ True) ∧ EqI (app (app b [c0, c1, c2, c3, c4, c5, c6, c7, c8, c9, c10, c11, c12]) [c13]) (app b [c0, c1, c2, c3, c4, c5, c6, c7, c8, c9, c10, c11, c12, c13]) ∧
  Array.mk [Value.int .u8 c0, Value.int .u8 c1, Value.int .u8 c2, Value.int .u8 c3, Value.int .u8 c4, Value.int .u8 c5, Value.int .u8 c6, Value.int .u8 c7, Value.int .u8 c8, Value.int
  .u8 c9, Value.int .u8 c10, Value.int .u8 c11, Value.int .u8 c12, Value.int .u8 c13, Value.int .u8 c14, Value.int .u8 c15, Value.int .u8 c16, Value.int .u8 c17, Value.int .u8 c18,
  Value.int .u8 c19, Value.int .u8 c20, Value.int .u8 c21, Value.int .u8 c22, Value.int .u8 c23, Value.int .u8 c24, Value.int .u8 c25, Value.int .u8 c26, Value.int .u8 c27, Value.int
  .u8 c28, Value.int .u8 c29, Value.int .u8 c30, Value.int .u8 c31] = Array.mk [Value.int .u8 c0, Value.int .u8 c1, Value.int .u8 c2, Value.int .u8 c3, Value.int .u8 c4, Value.int .u8
  c5, Value.int .u8 c6, Value.int .u8 c7, Value.int .u8 c8, Value.int .u8 c9, Value.int .u8 c10, Value.int .u8 c11, Value.int .u8 c12, Value.int .u8 c13, Value.int .u8 c14, Value.int
  .u8 c15, Value.int .u8 c16, Value.int .u8 c17, Value.int .u8 c18, Value.int .u8 c19, Value.int .u8 c20, Value.int .u8 c21, Value.int .u8 c22, Value.int .u8 c23, Value.int .u8 c24,
  Value.int .u8 c25, Value.int .u8 c26, Value.int .u8 c27, Value.int .u8 c28, Value.int .u8 c29, Value.int .u8 c30, Value.int .u8 c31] ∧ True) False ∧ If ((nMul (nAdd (app b [c0, c1,
  c2, c3, c4, c5, c6, c7, c8, c9, c10, c11, c12, c13]).length [c14].length) 1).ble 140737488355328 && (nAdd (app b [c0, c1, c2, c3, c4, c5, c6, c7, c8, c9, c10, c11, c12, c13]).length
  [c14].length).ble 9223372036854775807) ((Value.int .i64 (IntKind.i64.wrap (iAdd (iOf 14) 1)) = Value.int .i64 (iOf 15) ∧ True) ∧ EqI (app (app b [c0, c1, c2, c3, c4, c5, c6, c7, c8,
  c9, c10, c11, c12, c13]) [c14]) (app b [c0, c1, c2, c3, c4, c5, c6, c7, c8, c9, c10, c11, c12, c13, c14]) ∧ Array.mk [Value.int .u8 c0, Value.int .u8 c1, Value.int .u8 c2, Value.int
  .u8 c3, Value.int .u8 c4, Value.int .u8 c5, Value.int .u8 c6, Value.int .u8 c7, Value.int .u8 c8, Value.int .u8 c9, Value.int .u8 c10, Value.int .u8 c11, Value.int .u8 c12,
  Value.int .u8 c13, Value.int .u8 c14, Value.int .u8 c15, Value.int .u8 c16, Value.int .u8 c17, Value.int .u8 c18, Value.int .u8 c19, Value.int .u8 c20, Value.int .u8 c21, Value.int
  .u8 c22, Value.int .u8 c23, Value.int .u8 c24, Value.int .u8 c25, Value.int .u8 c26, Value.int .u8 c27, Value.int .u8 c28, Value.int .u8 c29, Value.int .u8 c30, Value.int .u8 c31] =
  Array.mk [Value.int .u8 c0, Value.int .u8 c1, Value.int .u8 c2, Value.int .u8 c3, Value.int .u8 c4, Value.int .u8 c5, Value.int .u8 c6, Value.int .u8 c7, Value.int .u8 c8, Value.int
  .u8 c9, Value.int .u8 c10, Value.int .u8 c11, Value.int .u8 c12, Value.int .u8 c13, Value.int .u8 c14, Value.int .u8 c15, Value.int .u8 c16, Value.int .u8 c17, Value.int .u8 c18,
  Value.int .u8 c19, Value.int .u8 c20, Value.int .u8 c21, Value.int .u8 c22, Value.int .u8 c23, Value.int .u8 c24, Value.int .u8 c25, Value.int .u8 c26, Value.int .u8 c27, Value.int
  .u8 c28, Value.int .u8 c29, Value.int .u8 c30, Value.int .u8 c31] ∧ True) False ∧ If ((nMul (nAdd (app b [c0, c1, c2, c3, c4, c5, c6, c7, c8, c9, c10, c11, c12, c13, c14]).length
  [c15].length) 1).ble 140737488355328 && (nAdd (app b [c0, c1, c2, c3, c4, c5, c6, c7, c8, c9, c10, c11, c12, c13, c14]).length [c15].length).ble 9223372036854775807) ((Value.int
  .i64 (IntKind.i64.wrap (iAdd (iOf 15) 1)) = Value.int .i64 (iOf 16) ∧ True) ∧ EqI (app (app b [c0, c1, c2, c3, c4, c5, c6, c7, c8, c9, c10, c11, c12, c13, c14]) [c15]) (app b [c0,
  c1, c2, c3, c4, c5, c6, c7, c8, c9, c10, c11, c12, c13, c14, c15]) ∧ Array.mk [Value.int .u8 c0, Value.int .u8 c1, Value.int .u8 c2, Value.int .u8 c3, Value.int .u8 c4, Value.int
  .u8 c5, Value.int .u8 c6, Value.int .u8 c7, Value.int .u8 c8, Value.int .u8 c9, Value.int .u8 c10, Value.int .u8 c11, Value.int .u8 c12, Value.int .u8 c13, Value.int .u8 c14,
  Value.int .u8 c15, Value.int .u8 c16, Value.int .u8 c17, Value.int .u8 c18, Value.int .u8 c19, Value.int .u8 c20, Value.int .u8 c21, Value.int .u8 c22, Value.int .u8 c23, Value.int
  .u8 c24, Value.int .u8 c25, Value.int .u8 c26, Value.int .u8 c27, Value.int .u8 c28, Value.int .u8 c29, Value.int .u8 c30, Value.int .u8 c31] = Array.mk [Value.int .u8 c0, Value.int
  .u8 c1, Value.int .u8 c2, Value.int .u8 c3, Value.int .u8 c4, Value.int .u8 c5, Value.int .u8 c6, Value.int .u8 c7, Value.int .u8 c8, Value.int .u8 c9, Value.int .u8 c10, Value.int
  .u8 c11, Value.int .u8 c12, Value.int .u8 c13, Value.int .u8 c14, Value.int .u8 c15, Value.int .u8 c16, Value.int .u8 c17, Value.int .u8 c18, Value.int .u8 c19, Value.int .u8 c20,
  Value.int .u8 c21, Value.int .u8 c22, Value.int .u8 c23, Value.int .u8 c24, Value.int .u8 c25, Value.int .u8 c26, Value.int .u8 c27, Value.int .u8 c28, Value.int .u8 c29, Value.int
  .u8 c30, Value.int .u8 c31] ∧ True) False ∧ If ((nMul (nAdd (app b [c0, c1, c2, c3, c4, c5, c6, c7, c8, c9, c10, c11, c12, c13, c14, c15]).length [c16].length) 1).ble
  140737488355328 && (nAdd (app b [c0, c1, c2, c3, c4, c5, c6, c7, c8, c9, c10, c11, c12, c13, c14, c15]).length [c16].length).ble 9223372036854775807) ((Value.int .i64
  (IntKind.i64.wrap (iAdd (iOf 16) 1)) = Value.int .i64 (iOf 17) ∧ True) ∧ EqI (app (app b [c0, c1, c2, c3, c4, c5, c6, c7, c8, c9, c10, c11, c12, c13, c14, c15]) [c16]) (app b [c0,
  c1, c2, c3, c4, c5, c6, c7, c8, c9, c10, c11, c12, c13, c14, c15, c16]) ∧ Array.mk [Value.int .u8 c0, Value.int .u8 c1, Value.int .u8 c2, Value.int .u8 c3, Value.int .u8 c4,
  Value.int .u8 c5, Value.int .u8 c6, Value.int .u8 c7, Value.int .u8 c8, Value.int .u8 c9, Value.int .u8 c10, Value.int .u8 c11, Value.int .u8 c12, Value.int .u8 c13, Value.int .u8
  c14, Value.int .u8 c15, Value.int .u8 c16, Value.int .u8 c17, Value.int .u8 c18, Value.int .u8 c19, Value.int .u8 c20, Value.int .u8 c21, Value.int .u8 c22, Value.int .u8 c23,
  Value.int .u8 c24, Value.int .u8 c25, Value.int .u8 c26, Value.int .u8 c27, Value.int .u8 c28, Value.int .u8 c29, Value.int .u8 c30, Value.int .u8 c31] = Array.mk [Value.int .u8 c0,
  Value.int .u8 c1, Value.int .u8 c2, Value.int .u8 c3, Value.int .u8 c4, Value.int .u8 c5, Value.int .u8 c6, Value.int .u8 c7, Value.int .u8 c8, Value.int .u8 c9, Value.int .u8 c10,
  Value.int .u8 c11, Value.int .u8 c12, Value.int .u8 c13, Value.int .u8 c14, Value.int .u8 c15, Value.int .u8 c16, Value.int .u8 c17, Value.int .u8 c18, Value.int .u8 c19, Value.int
  .u8 c20, Value.int .u8 c21, Value.int .u8 c22, Value.int .u8 c23, Value.int .u8 c24, Value.int .u8 c25, Value.int .u8 c26, Value.int .u8 c27, Value.int .u8 c28, Value.int .u8 c29,
  Value.int .u8 c30, Value.int .u8 c31] ∧ True) False ∧ If ((nMul (nAdd (app b [c0, c1, c2, c3, c4, c5, c6, c7, c8, c9, c10, c11, c12, c13, c14, c15, c16]).length [c17].length) 1).ble
  140737488355328 && (nAdd (app b [c0, c1, c2, c3, c4, c5, c6, c7, c8, c9, c10, c11, c12, c13, c14, c15, c16]).length [c17].length).ble 9223372036854775807) ((Value.int .i64
  (IntKind.i64.wrap (iAdd (iOf 17) 1)) = Value.int .i64 (iOf 18) ∧ True) ∧ EqI (app (app b [c0, c1, c2, c3, c4, c5, c6, c7, c8, c9, c10, c11, c12, c13, c14, c15, c16]) [c17]) (app b
  [c0, c1, c2, c3, c4, c5, c6, c7, c8, c9, c10, c11, c12, c13, c14, c15, c16, c17]) ∧ Array.mk [Value.int .u8 c0, Value.int .u8 c1, Value.int .u8 c2, Value.int .u8 c3, Value.int .u8
  c4, Value.int .u8 c5, Value.int .u8 c6, Value.int .u8 c7, Value.int .u8 c8, Value.int .u8 c9, Value.int .u8 c10, Value.int .u8 c11, Value.int .u8 c12, Value.int .u8 c13, Value.int
  .u8 c14, Value.int .u8 c15, Value.int .u8 c16, Value.int .u8 c17, Value.int .u8 c18, Value.int .u8 c19, Value.int .u8 c20, Value.int .u8 c21, Value.int .u8 c22, Value.int .u8 c23,
  Value.int .u8 c24, Value.int .u8 c25, Value.int .u8 c26, Value.int .u8 c27, Value.int .u8 c28, Value.int .u8 c29, Value.int .u8 c30, Value.int .u8 c31] = Array.mk [Value.int .u8 c0,
  Value.int .u8 c1, Value.int .u8 c2, Value.int .u8 c3, Value.int .u8 c4, Value.int .u8 c5, Value.int .u8 c6, Value.int .u8 c7, Value.int .u8 c8, Value.int .u8 c9, Value.int .u8 c10,
  Value.int .u8 c11, Value.int .u8 c12, Value.int .u8 c13, Value.int .u8 c14, Value.int .u8 c15, Value.int .u8 c16, Value.int .u8 c17, Value.int .u8 c18, Value.int .u8 c19, Value.int
  .u8 c20, Value.int .u8 c21, Value.int .u8 c22, Value.int .u8 c23, Value.int .u8 c24, Value.int .u8 c25, Value.int .u8 c26, Value.int .u8 c27, Value.int .u8 c28, Value.int .u8 c29,
  Value.int .u8 c30, Value.int .u8 c31] ∧ True) False ∧ If ((nMul (nAdd (app b [c0, c1, c2, c3, c4, c5, c6, c7, c8, c9, c10, c11, c12, c13, c14, c15, c16, c17]).length [c18].length)
  1).ble 140737488355328 && (nAdd (app b [c0, c1, c2, c3, c4, c5, c6, c7, c8, c9, c10, c11, c12, c13, c14, c15, c16, c17]).length [c18].length).ble 9223372036854775807) ((Value.int
  .i64 (IntKind.i64.wrap (iAdd (iOf 18) 1)) = Value.int .i64 (iOf 19) ∧ True) ∧ EqI (app (app b [c0, c1, c2, c3, c4, c5, c6, c7, c8, c9, c10, c11, c12, c13, c14, c15, c16, c17])
  [c18]) (app b [c0, c1, c2, c3, c4, c5, c6, c7, c8, c9, c10, c11, c12, c13, c14, c15, c16, c17, c18]) ∧ Array.mk [Value.int .u8 c0, Value.int .u8 c1, Value.int .u8 c2, Value.int .u8
  c3, Value.int .u8 c4, Value.int .u8 c5, Value.int .u8 c6, Value.int .u8 c7, Value.int .u8 c8, Value.int .u8 c9, Value.int .u8 c10, Value.int .u8 c11, Value.int .u8 c12, Value.int
  .u8 c13, Value.int .u8 c14, Value.int .u8 c15, Value.int .u8 c16, Value.int .u8 c17, Value.int .u8 c18, Value.int .u8 c19, Value.int .u8 c20, Value.int .u8 c21, Value.int .u8 c22,
  Value.int .u8 c23, Value.int .u8 c24, Value.int .u8 c25, Value.int .u8 c26, Value.int .u8 c27, Value.int .u8 c28, Value.int .u8 c29, Value.int .u8 c30, Value.int .u8 c31] = Array.mk
  [Value.int .u8 c0, Value.int .u8 c1, Value.int .u8 c2, Value.int .u8 c3, Value.int .u8 c4, Value.int .u8 c5, Value.int .u8 c6, Value.int .u8 c7, Value.int .u8 c8, Value.int .u8 c9,
  Value.int .u8 c10, Value.int .u8 c11, Value.int .u8 c12, Value.int .u8 c13, Value.int .u8 c14, Value.int .u8 c15, Value.int .u8 c16, Value.int .u8 c17, Value.int .u8 c18, Value.int
  .u8 c19, Value.int .u8 c20, Value.int .u8 c21, Value.int .u8 c22, Value.int .u8 c23, Value.int .u8 c24, Value.int .u8 c25, Value.int .u8 c26, Value.int .u8 c27, Value.int .u8 c28,
  Value.int .u8 c29, Value.int .u8 c30, Value.int .u8 c31] ∧ True) False ∧ If ((nMul (nAdd (app b [c0, c1, c2, c3, c4, c5, c6, c7, c8, c9, c10, c11, c12, c13, c14, c15, c16, c17,
  c18]).length [c19].length) 1).ble 140737488355328 && (nAdd (app b [c0, c1, c2, c3, c4, c5, c6, c7, c8, c9, c10, c11, c12, c13, c14, c15, c16, c17, c18]).length [c19].length).ble
  9223372036854775807) ((Value.int .i64 (IntKind.i64.wrap (iAdd (iOf 19) 1)) = Value.int .i64 (iOf 20) ∧ True) ∧ EqI (app (app b [c0, c1, c2, c3, c4, c5, c6, c7, c8, c9, c10, c11,
  c12, c13, c14, c15, c16, c17, c18]) [c19]) (app b [c0, c1, c2, c3, c4, c5, c6, c7, c8, c9, c10, c11, c12, c13, c14, c15, c16, c17, c18, c19]) ∧ Array.mk [Value.int .u8 c0, Value.int
  .u8 c1, Value.int .u8 c2, Value.int .u8 c3, Value.int .u8 c4, Value.int .u8 c5, Value.int .u8 c6, Value.int .u8 c7, Value.int .u8 c8, Value.int .u8 c9, Value.int .u8 c10, Value.int
  .u8 c11, Value.int .u8 c12, Value.int .u8 c13, Value.int .u8 c14, Value.int .u8 c15, Value.int .u8 c16, Value.int .u8 c17, Value.int .u8 c18, Value.int .u8 c19, Value.int .u8 c20,
  Value.int .u8 c21, Value.int .u8 c22, Value.int .u8 c23, Value.int .u8 c24, Value.int .u8 c25, Value.int .u8 c26, Value.int .u8 c27, Value.int .u8 c28, Value.int .u8 c29, Value.int
  .u8 c30, Value.int .u8 c31] = Array.mk [Value.int .u8 c0, Value.int .u8 c1, Value.int .u8 c2, Value.int .u8 c3, Value.int .u8 c4, Value.int .u8 c5, Value.int .u8 c6, Value.int .u8
  c7, Value.int .u8 c8, Value.int .u8 c9, Value.int .u8 c10, Value.int .u8 c11, Value.int .u8 c12, Value.int .u8 c13, Value.int .u8 c14, Value.int .u8 c15, Value.int .u8 c16,
  Value.int .u8 c17, Value.int .u8 c18, Value.int .u8 c19, Value.int .u8 c20, Value.int .u8 c21, Value.int .u8 c22, Value.int .u8 c23, Value.int .u8 c24, Value.int .u8 c25, Value.int
  .u8 c26, Value.int .u8 c27, Value.int .u8 c28, Value.int .u8 c29, Value.int .u8 c30, Value.int .u8 c31] ∧ True) False ∧ If ((nMul (nAdd (app b [c0, c1, c2, c3, c4, c5, c6, c7, c8,
  c9, c10, c11, c12, c13, c14, c15, c16, c17, c18, c19]).length [c20].length) 1).ble 140737488355328 && (nAdd (app b [c0, c1, c2, c3, c4, c5, c6, c7, c8, c9, c10, c11, c12, c13, c14,
  c15, c16, c17, c18, c19]).length [c20].length).ble 9223372036854775807) ((Value.int .i64 (IntKind.i64.wrap (iAdd (iOf 20) 1)) = Value.int .i64 (iOf 21) ∧ True) ∧ EqI (app (app b
  [c0, c1, c2, c3, c4, c5, c6, c7, c8, c9, c10, c11, c12, c13, c14, c15, c16, c17, c18, c19]) [c20]) (app b [c0, c1, c2, c3, c4, c5, c6, c7, c8, c9, c10, c11, c12, c13, c14, c15, c16,
  c17, c18, c19, c20]) ∧ Array.mk [Value.int .u8 c0, Value.int .u8 c1, Value.int .u8 c2, Value.int .u8 c3, Value.int .u8 c4, Value.int .u8 c5, Value.int .u8 c6, Value.int .u8 c7,
  Value.int .u8 c8, Value.int .u8 c9, Value.int .u8 c10, Value.int .u8 c11, Value.int .u8 c12, Value.int .u8 c13, Value.int .u8 c14, Value.int .u8 c15, Value.int .u8 c16, Value.int
  .u8 c17, Value.int .u8 c18, Value.int .u8 c19, Value.int .u8 c20, Value.int .u8 c21, Value.int .u8 c22, Value.int .u8 c23, Value.int .u8 c24, Value.int .u8 c25, Value.int .u8 c26,
  Value.int .u8 c27, Value.int .u8 c28, Value.int .u8 c29, Value.int .u8 c30, Value.int .u8 c31] = Array.mk [Value.int .u8 c0, Value.int .u8 c1, Value.int .u8 c2, Value.int .u8 c3,
  Value.int .u8 c4, Value.int .u8 c5, Value.int .u8 c6, Value.int .u8 c7, Value.int .u8 c8, Value.int .u8 c9, Value.int .u8 c10, Value.int .u8 c11, Value.int .u8 c12, Value.int .u8
  c13, Value.int .u8 c14, Value.int .u8 c15, Value.int .u8 c16, Value.int .u8 c17, Value.int .u8 c18, Value.int .u8 c19, Value.int .u8 c20, Value.int .u8 c21, Value.int .u8 c22,
  Value.int .u8 c23, Value.int .u8 c24, Value.int .u8 c25, Value.int .u8 c26, Value.int .u8 c27, Value.int .u8 c28, Value.int .u8 c29, Value.int .u8 c30, Value.int .u8 c31] ∧ True)
  False ∧ If ((nMul (nAdd (app b [c0, c1, c2, c3, c4, c5, c6, c7, c8, c9, c10, c11, c12, c13, c14, c15, c16, c17, c18, c19, c20]).length [c21].length) 1).ble 140737488355328 && (nAdd
  (app b [c0, c1, c2, c3, c4, c5, c6, c7, c8, c9, c10, c11, c12, c13, c14, c15, c16, c17, c18, c19, c20]).length [c21].length).ble 9223372036854775807) ((Value.int .i64
  (IntKind.i64.wrap (iAdd (iOf 21) 1)) = Value.int .i64 (iOf 22) ∧ True) ∧ EqI (app (app b [c0, c1, c2, c3, c4, c5, c6, c7, c8, c9, c10, c11, c12, c13, c14, c15, c16, c17, c18, c19,
  c20]) [c21]) (app b [c0, c1, c2, c3, c4, c5, c6, c7, c8, c9, c10, c11, c12, c13, c14, c15, c16, c17, c18, c19, c20, c21]) ∧ Array.mk [Value.int .u8 c0, Value.int .u8 c1, Value.int
  .u8 c2, Value.int .u8 c3, Value.int .u8 c4, Value.int .u8 c5, Value.int .u8 c6, Value.int .u8 c7, Value.int .u8 c8, Value.int .u8 c9, Value.int .u8 c10, Value.int .u8 c11, Value.int
  .u8 c12, Value.int .u8 c13, Value.int .u8 c14, Value.int .u8 c15, Value.int .u8 c16, Value.int .u8 c17, Value.int .u8 c18, Value.int .u8 c19, Value.int .u8 c20, Value.int .u8 c21,
  Value.int .u8 c22, Value.int .u8 c23, Value.int .u8 c24, Value.int .u8 c25, Value.int .u8 c26, Value.int .u8 c27, Value.int .u8 c28, Value.int .u8 c29, Value.int .u8 c30, Value.int
  .u8 c31] = Array.mk [Value.int .u8 c0, Value.int .u8 c1, Value.int .u8 c2, Value.int .u8 c3, Value.int .u8 c4, Value.int .u8 c5, Value.int .u8 c6, Value.int .u8 c7, Value.int .u8
  c8, Value.int .u8 c9, Value.int .u8 c10, Value.int .u8 c11, Value.int .u8 c12, Value.int .u8 c13, Value.int .u8 c14, Value.int .u8 c15, Value.int .u8 c16, Value.int .u8 c17,
  Value.int .u8 c18, Value.int .u8 c19, Value.int .u8 c20, Value.int .u8 c21, Value.int .u8 c22, Value.int .u8 c23, Value.int .u8 c24, Value.int .u8 c25, Value.int .u8 c26, Value.int
  .u8 c27, Value.int .u8 c28, Value.int .u8 c29, Value.int .u8 c30, Value.int .u8 c31] ∧ True) False ∧ If ((nMul (nAdd (app b [c0, c1, c2, c3, c4, c5, c6, c7, c8, c9, c10, c11, c12,
  c13, c14, c15, c16, c17, c18, c19, c20, c21]).length [c22].length) 1).ble 140737488355328 && (nAdd (app b [c0, c1, c2, c3, c4, c5, c6, c7, c8, c9, c10, c11, c12, c13, c14, c15, c16,
  c17, c18, c19, c20, c21]).length [c22].length).ble 9223372036854775807) ((Value.int .i64 (IntKind.i64.wrap (iAdd (iOf 22) 1)) = Value.int .i64 (iOf 23) ∧ True) ∧ EqI (app (app b
  [c0, c1, c2, c3, c4, c5, c6, c7, c8, c9, c10, c11, c12, c13, c14, c15, c16, c17, c18, c19, c20, c21]) [c22]) (app b [c0, c1, c2, c3, c4, c5, c6, c7, c8, c9, c10, c11, c12, c13, c14,
  c15, c16, c17, c18, c19, c20, c21, c22]) ∧ Array.mk [Value.int .u8 c0, Value.int .u8 c1, Value.int .u8 c2, Value.int .u8 c3, Value.int .u8 c4, Value.int .u8 c5, Value.int .u8 c6,
  Value.int .u8 c7, Value.int .u8 c8, Value.int .u8 c9, Value.int .u8 c10, Value.int .u8 c11, Value.int .u8 c12, Value.int .u8 c13, Value.int .u8 c14, Value.int .u8 c15, Value.int .u8
  c16, Value.int .u8 c17, Value.int .u8 c18, Value.int .u8 c19, Value.int .u8 c20, Value.int .u8 c21, Value.int .u8 c22, Value.int .u8 c23, Value.int .u8 c24, Value.int .u8 c25,
  Value.int .u8 c26, Value.int .u8 c27, Value.int .u8 c28, Value.int .u8 c29, Value.int .u8 c30, Value.int .u8 c31] = Array.mk [Value.int .u8 c0, Value.int .u8 c1, Value.int .u8 c2,
  Value.int .u8 c3, Value.int .u8 c4, Value.int .u8 c5, Value.int .u8 c6, Value.int .u8 c7, Value.int .u8 c8, Value.int .u8 c9, Value.int .u8 c10, Value.int .u8 c11, Value.int .u8
  c12, Value.int .u8 c13, Value.int .u8 c14, Value.int .u8 c15, Value.int .u8 c16, Value.int .u8 c17, Value.int .u8 c18, Value.int .u8 c19, Value.int .u8 c20, Value.int .u8 c21,
  Value.int .u8 c22, Value.int .u8 c23, Value.int .u8 c24, Value.int .u8 c25, Value.int .u8 c26, Value.int .u8 c27, Value.int .u8 c28, Value.int .u8 c29, Value.int .u8 c30, Value.int
  .u8 c31] ∧ True) False ∧ If ((nMul (nAdd (app b [c0, c1, c2, c3, c4, c5, c6, c7, c8, c9, c10, c11, c12, c13, c14, c15, c16, c17, c18, c19, c20, c21, c22]).length [c23].length)
  1).ble 140737488355328 && (nAdd (app b [c0, c1, c2, c3, c4, c5, c6, c7, c8, c9, c10, c11, c12, c13, c14, c15, c16, c17, c18, c19, c20, c21, c22]).length [c23].length).ble
  9223372036854775807) ((Value.int .i64 (IntKind.i64.wrap (iAdd (iOf 23) 1)) = Value.int .i64 (iOf 24) ∧ True) ∧ EqI (app (app b [c0, c1, c2, c3, c4, c5, c6, c7, c8, c9, c10, c11,
  c12, c13, c14, c15, c16, c17, c18, c19, c20, c21, c22]) [c23]) (app b [c0, c1, c2, c3, c4, c5, c6, c7, c8, c9, c10, c11, c12, c13, c14, c15, c16, c17, c18, c19, c20, c21, c22, c23])
  ∧ Array.mk [Value.int .u8 c0, Value.int .u8 c1, Value.int .u8 c2, Value.int .u8 c3, Value.int .u8 c4, Value.int .u8 c5, Value.int .u8 c6, Value.int .u8 c7, Value.int .u8 c8,
  Value.int .u8 c9, Value.int .u8 c10, Value.int .u8 c11, Value.int .u8 c12, Value.int .u8 c13, Value.int .u8 c14, Value.int .u8 c15, Value.int .u8 c16, Value.int .u8 c17, Value.int
  .u8 c18, Value.int .u8 c19, Value.int .u8 c20, Value.int .u8 c21, Value.int .u8 c22, Value.int .u8 c23, Value.int .u8 c24, Value.int .u8 c25, Value.int .u8 c26, Value.int .u8 c27,
  Value.int .u8 c28, Value.int .u8 c29, Value.int .u8 c30, Value.int .u8 c31] = Array.mk [Value.int .u8 c0, Value.int .u8 c1, Value.int .u8 c2, Value.int .u8 c3, Value.int .u8 c4,
  Value.int .u8 c5, Value.int .u8 c6, Value.int .u8 c7, Value.int .u8 c8, Value.int .u8 c9, Value.int .u8 c10, Value.int .u8 c11, Value.int .u8 c12, Value.int .u8 c13, Value.int .u8
  c14, Value.int .u8 c15, Value.int .u8 c16, Value.int .u8 c17, Value.int .u8 c18, Value.int .u8 c19, Value.int .u8 c20, Value.int .u8 c21, Value.int .u8 c22, Value.int .u8 c23,
  Value.int .u8 c24, Value.int .u8 c25, Value.int .u8 c26, Value.int .u8 c27, Value.int .u8 c28, Value.int .u8 c29, Value.int .u8 c30, Value.int .u8 c31] ∧ True) False ∧ If ((nMul
  (nAdd (app b [c0, c1, c2, c3, c4, c5, c6, c7, c8, c9, c10, c11, c12, c13, c14, c15, c16, c17, c18, c19, c20, c21, c22, c23]).length [c24].length) 1).ble 140737488355328 && (nAdd
  (app b [c0, c1, c2, c3, c4, c5, c6, c7, c8, c9, c10, c11, c12, c13, c14, c15, c16, c17, c18, c19, c20, c21, c22, c23]).length [c24].length).ble 9223372036854775807) ((Value.int .i64
  (IntKind.i64.wrap (iAdd (iOf 24) 1)) = Value.int .i64 (iOf 25) ∧ True) ∧ EqI (app (app b [c0, c1, c2, c3, c4, c5, c6, c7, c8, c9, c10, c11, c12, c13, c14, c15, c16, c17, c18, c19,
  c20, c21, c22, c23]) [c24]) (app b [c0, c1, c2, c3, c4, c5, c6, c7, c8, c9, c10, c11, c12, c13, c14, c15, c16, c17, c18, c19, c20, c21, c22, c23, c24]) ∧ Array.mk [Value.int .u8 c0,
  Value.int .u8 c1, Value.int .u8 c2, Value.int .u8 c3, Value.int .u8 c4, Value.int .u8 c5, Value.int .u8 c6, Value.int .u8 c7, Value.int .u8 c8, Value.int .u8 c9, Value.int .u8 c10,
  Value.int .u8 c11, Value.int .u8 c12, Value.int .u8 c13, Value.int .u8 c14, Value.int .u8 c15, Value.int .u8 c16, Value.int .u8 c17, Value.int .u8 c18, Value.int .u8 c19, Value.int
  .u8 c20, Value.int .u8 c21, Value.int .u8 c22, Value.int .u8 c23, Value.int .u8 c24, Value.int .u8 c25, Value.int .u8 c26, Value.int .u8 c27, Value.int .u8 c28, Value.int .u8 c29,
  Value.int .u8 c30, Value.int .u8 c31] = Array.mk [Value.int .u8 c0, Value.int .u8 c1, Value.int .u8 c2, Value.int .u8 c3, Value.int .u8 c4, Value.int .u8 c5, Value.int .u8 c6,
  Value.int .u8 c7, Value.int .u8 c8, Value.int .u8 c9, Value.int .u8 c10, Value.int .u8 c11, Value.int .u8 c12, Value.int .u8 c13, Value.int .u8 c14, Value.int .u8 c15, Value.int .u8
  c16, Value.int .u8 c17, Value.int .u8 c18, Value.int .u8 c19, Value.int .u8 c20, Value.int .u8 c21, Value.int .u8 c22, Value.int .u8 c23, Value.int .u8 c24, Value.int .u8 c25,
  Value.int .u8 c26, Value.int .u8 c27, Value.int .u8 c28, Value.int .u8 c29, Value.int .u8 c30, Value.int .u8 c31] ∧ True) False ∧ If ((nMul (nAdd (app b [c0, c1, c2, c3, c4, c5, c6,
  c7, c8, c9, c10, c11, c12, c13, c14, c15, c16, c17, c18, c19, c20, c21, c22, c23, c24]).length [c25].length) 1).ble 140737488355328 && (nAdd (app b [c0, c1, c2, c3, c4, c5, c6, c7,
  c8, c9, c10, c11, c12, c13, c14, c15, c16, c17, c18, c19, c20, c21, c22, c23, c24]).length [c25].length).ble 9223372036854775807) ((Value.int .i64 (IntKind.i64.wrap (iAdd (iOf 25)
  1)) = Value.int .i64 (iOf 26) ∧ True) ∧ EqI (app (app b [c0, c1, c2, c3, c4, c5, c6, c7, c8, c9, c10, c11, c12, c13, c14, c15, c16, c17, c18, c19, c20, c21, c22, c23, c24]) [c25])
  (app b [c0, c1, c2, c3, c4, c5, c6, c7, c8, c9, c10, c11, c12, c13, c14, c15, c16, c17, c18, c19, c20, c21, c22, c23, c24, c25]) ∧ Array.mk [Value.int .u8 c0, Value.int .u8 c1,
  Value.int .u8 c2, Value.int .u8 c3, Value.int .u8 c4, Value.int .u8 c5, Value.int .u8 c6, Value.int .u8 c7, Value.int .u8 c8, Value.int .u8 c9, Value.int .u8 c10, Value.int .u8 c11,
  Value.int .u8 c12, Value.int .u8 c13, Value.int .u8 c14, Value.int .u8 c15, Value.int .u8 c16, Value.int .u8 c17, Value.int .u8 c18, Value.int .u8 c19, Value.int .u8 c20, Value.int
  .u8 c21, Value.int .u8 c22, Value.int .u8 c23, Value.int .u8 c24, Value.int .u8 c25, Value.int .u8 c26, Value.int .u8 c27, Value.int .u8 c28, Value.int .u8 c29, Value.int .u8 c30,
  Value.int .u8 c31] = Array.mk [Value.int .u8 c0, Value.int .u8 c1, Value.int .u8 c2, Value.int .u8 c3, Value.int .u8 c4, Value.int .u8 c5, Value.int .u8 c6, Value.int .u8 c7,
  Value.int .u8 c8, Value.int .u8 c9, Value.int .u8 c10, Value.int .u8 c11, Value.int .u8 c12, Value.int .u8 c13, Value.int .u8 c14, Value.int .u8 c15, Value.int .u8 c16, Value.int
  .u8 c17, Value.int .u8 c18, Value.int .u8 c19, Value.int .u8 c20, Value.int .u8 c21, Value.int .u8 c22, Value.int .u8 c23, Value.int .u8 c24, Value.int .u8 c25, Value.int .u8 c26,
  Value.int .u8 c27, Value.int .u8 c28, Value.int .u8 c29, Value.int .u8 c30, Value.int .u8 c31] ∧ True) False ∧ If ((nMul (nAdd (app b [c0, c1, c2, c3, c4, c5, c6, c7, c8, c9, c10,
  c11, c12, c13, c14, c15, c16, c17, c18, c19, c20, c21, c22, c23, c24, c25]).length [c26].length) 1).ble 140737488355328 && (nAdd (app b [c0, c1, c2, c3, c4, c5, c6, c7, c8, c9, c10,
  c11, c12, c13, c14, c15, c16, c17, c18, c19, c20, c21, c22, c23, c24, c25]).length [c26].length).ble 9223372036854775807) ((Value.int .i64 (IntKind.i64.wrap (iAdd (iOf 26) 1)) =
  Value.int .i64 (iOf 27) ∧ True) ∧ EqI (app (app b [c0, c1, c2, c3, c4, c5, c6, c7, c8, c9, c10, c11, c12, c13, c14, c15, c16, c17, c18, c19, c20, c21, c22, c23, c24, c25]) [c26])
  (app b [c0, c1, c2, c3, c4, c5, c6, c7, c8, c9, c10, c11, c12, c13, c14, c15, c16, c17, c18, c19, c20, c21, c22, c23, c24, c25, c26]) ∧ Array.mk [Value.int .u8 c0, Value.int .u8 c1,
  Value.int .u8 c2, Value.int .u8 c3, Value.int .u8 c4, Value.int .u8 c5, Value.int .u8 c6, Value.int .u8 c7, Value.int .u8 c8, Value.int .u8 c9, Value.int .u8 c10, Value.int .u8 c11,
  Value.int .u8 c12, Value.int .u8 c13, Value.int .u8 c14, Value.int .u8 c15, Value.int .u8 c16, Value.int .u8 c17, Value.int .u8 c18, Value.int .u8 c19, Value.int .u8 c20, Value.int
  .u8 c21, Value.int .u8 c22, Value.int .u8 c23, Value.int .u8 c24, Value.int .u8 c25, Value.int .u8 c26, Value.int .u8 c27, Value.int .u8 c28, Value.int .u8 c29, Value.int .u8 c30,
  Value.int .u8 c31] = Array.mk [Value.int .u8 c0, Value.int .u8 c1, Value.int .u8 c2, Value.int .u8 c3, Value.int .u8 c4, Value.int .u8 c5, Value.int .u8 c6, Value.int .u8 c7,
  Value.int .u8 c8, Value.int .u8 c9, Value.int .u8 c10, Value.int .u8 c11, Value.int .u8 c12, Value.int .u8 c13, Value.int .u8 c14, Value.int .u8 c15, Value.int .u8 c16, Value.int
  .u8 c17, Value.int .u8 c18, Value.int .u8 c19, Value.int .u8 c20, Value.int .u8 c21, Value.int .u8 c22, Value.int .u8 c23, Value.int .u8 c24, Value.int .u8 c25, Value.int .u8 c26,
  Value.int .u8 c27, Value.int .u8 c28, Value.int .u8 c29, Value.int .u8 c30, Value.int .u8 c31] ∧ True) False ∧ If ((nMul (nAdd (app b [c0, c1, c2, c3, c4, c5, c6, c7, c8, c9, c10,
  c11, c12, c13, c14, c15, c16, c17, c18, c19, c20, c21, c22, c23, c24, c25, c26]).length [c27].length) 1).ble 140737488355328 && (nAdd (app b [c0, c1, c2, c3, c4, c5, c6, c7, c8, c9,
  c10, c11, c12, c13, c14, c15, c16, c17, c18, c19, c20, c21, c22, c23, c24, c25, c26]).length [c27].length).ble 9223372036854775807) ((Value.int .i64 (IntKind.i64.wrap (iAdd (iOf 27)
  1)) = Value.int .i64 (iOf 28) ∧ True) ∧ EqI (app (app b [c0, c1, c2, c3, c4, c5, c6, c7, c8, c9, c10, c11, c12, c13, c14, c15, c16, c17, c18, c19, c20, c21, c22, c23, c24, c25,
  c26]) [c27]) (app b [c0, c1, c2, c3, c4, c5, c6, c7, c8, c9, c10, c11, c12, c13, c14, c15, c16, c17, c18, c19, c20, c21, c22, c23, c24, c25, c26, c27]) ∧ Array.mk [Value.int .u8 c0,
  Value.int .u8 c1, Value.int .u8 c2, Value.int .u8 c3, Value.int .u8 c4, Value.int .u8 c5, Value.int .u8 c6, Value.int .u8 c7, Value.int .u8 c8, Value.int .u8 c9, Value.int .u8 c10,
  Value.int .u8 c11, Value.int .u8 c12, Value.int .u8 c13, Value.int .u8 c14, Value.int .u8 c15, Value.int .u8 c16, Value.int .u8 c17, Value.int .u8 c18, Value.int .u8 c19, Value.int
  .u8 c20, Value.int .u8 c21, Value.int .u8 c22, Value.int .u8 c23, Value.int .u8 c24, Value.int .u8 c25, Value.int .u8 c26, Value.int .u8 c27, Value.int .u8 c28, Value.int .u8 c29,
  Value.int .u8 c30, Value.int .u8 c31] = Array.mk [Value.int .u8 c0, Value.int .u8 c1, Value.int .u8 c2, Value.int .u8 c3, Value.int .u8 c4, Value.int .u8 c5, Value.int .u8 c6,
  Value.int .u8 c7, Value.int .u8 c8, Value.int .u8 c9, Value.int .u8 c10, Value.int .u8 c11, Value.int .u8 c12, Value.int .u8 c13, Value.int .u8 c14, Value.int .u8 c15, Value.int .u8
  c16, Value.int .u8 c17, Value.int .u8 c18, Value.int .u8 c19, Value.int .u8 c20, Value.int .u8 c21, Value.int .u8 c22, Value.int .u8 c23, Value.int .u8 c24, Value.int .u8 c25,
  Value.int .u8 c26, Value.int .u8 c27, Value.int .u8 c28, Value.int .u8 c29, Value.int .u8 c30, Value.int .u8 c31] ∧ True) False ∧ If ((nMul (nAdd (app b [c0, c1, c2, c3, c4, c5, c6,
  c7, c8, c9, c10, c11, c12, c13, c14, c15, c16, c17, c18, c19, c20, c21, c22, c23, c24, c25, c26, c27]).length [c28].length) 1).ble 140737488355328 && (nAdd (app b [c0, c1, c2, c3,
  c4, c5, c6, c7, c8, c9, c10, c11, c12, c13, c14, c15, c16, c17, c18, c19, c20, c21, c22, c23, c24, c25, c26, c27]).length [c28].length).ble 9223372036854775807) ((Value.int .i64
  (IntKind.i64.wrap (iAdd (iOf 28) 1)) = Value.int .i64 (iOf 29) ∧ True) ∧ EqI (app (app b [c0, c1, c2, c3, c4, c5, c6, c7, c8, c9, c10, c11, c12, c13, c14, c15, c16, c17, c18, c19,
  c20, c21, c22, c23, c24, c25, c26, c27]) [c28]) (app b [c0, c1, c2, c3, c4, c5, c6, c7, c8, c9, c10, c11, c12, c13, c14, c15, c16, c17, c18, c19, c20, c21, c22, c23, c24, c25, c26,
  c27, c28]) ∧ Array.mk [Value.int .u8 c0, Value.int .u8 c1, Value.int .u8 c2, Value.int .u8 c3, Value.int .u8 c4, Value.int .u8 c5, Value.int .u8 c6, Value.int .u8 c7, Value.int .u8
  c8, Value.int .u8 c9, Value.int .u8 c10, Value.int .u8 c11, Value.int .u8 c12, Value.int .u8 c13, Value.int .u8 c14, Value.int .u8 c15, Value.int .u8 c16, Value.int .u8 c17,
  Value.int .u8 c18, Value.int .u8 c19, Value.int .u8 c20, Value.int .u8 c21, Value.int .u8 c22, Value.int .u8 c23, Value.int .u8 c24, Value.int .u8 c25, Value.int .u8 c26, Value.int
  .u8 c27, Value.int .u8 c28, Value.int .u8 c29, Value.int .u8 c30, Value.int .u8 c31] = Array.mk [Value.int .u8 c0, Value.int .u8 c1, Value.int .u8 c2, Value.int .u8 c3, Value.int
  .u8 c4, Value.int .u8 c5, Value.int .u8 c6, Value.int .u8 c7, Value.int .u8 c8, Value.int .u8 c9, Value.int .u8 c10, Value.int .u8 c11, Value.int .u8 c12, Value.int .u8 c13,
  Value.int .u8 c14, Value.int .u8 c15, Value.int .u8 c16, Value.int .u8 c17, Value.int .u8 c18, Value.int .u8 c19, Value.int .u8 c20, Value.int .u8 c21, Value.int .u8 c22, Value.int
  .u8 c23, Value.int .u8 c24, Value.int .u8 c25, Value.int .u8 c26, Value.int .u8 c27, Value.int .u8 c28, Value.int .u8 c29, Value.int .u8 c30, Value.int .u8 c31] ∧ True) False ∧ If
  ((nMul (nAdd (app b [c0, c1, c2, c3, c4, c5, c6, c7, c8, c9, c10, c11, c12, c13, c14, c15, c16, c17, c18, c19, c20, c21, c22, c23, c24, c25, c26, c27, c28]).length [c29].length)
  1).ble 140737488355328 && (nAdd (app b [c0, c1, c2, c3, c4, c5, c6, c7, c8, c9, c10, c11, c12, c13, c14, c15, c16, c17, c18, c19, c20, c21, c22, c23, c24, c25, c26, c27,
  c28]).length [c29].length).ble 9223372036854775807) ((Value.int .i64 (IntKind.i64.wrap (iAdd (iOf 29) 1)) = Value.int .i64 (iOf 30) ∧ True) ∧ EqI (app (app b [c0, c1, c2, c3, c4,
  c5, c6, c7, c8, c9, c10, c11, c12, c13, c14, c15, c16, c17, c18, c19, c20, c21, c22, c23, c24, c25, c26, c27, c28]) [c29]) (app b [c0, c1, c2, c3, c4, c5, c6, c7, c8, c9, c10, c11,
  c12, c13, c14, c15, c16, c17, c18, c19, c20, c21, c22, c23, c24, c25, c26, c27, c28, c29]) ∧ Array.mk [Value.int .u8 c0, Value.int .u8 c1, Value.int .u8 c2, Value.int .u8 c3,
  Value.int .u8 c4, Value.int .u8 c5, Value.int .u8 c6, Value.int .u8 c7, Value.int .u8 c8, Value.int .u8 c9, Value.int .u8 c10, Value.int .u8 c11, Value.int .u8 c12, Value.int .u8
  c13, Value.int .u8 c14, Value.int .u8 c15, Value.int .u8 c16, Value.int .u8 c17, Value.int .u8 c18, Value.int .u8 c19, Value.int .u8 c20, Value.int .u8 c21, Value.int .u8 c22,
  Value.int .u8 c23, Value.int .u8 c24, Value.int .u8 c25, Value.int .u8 c26, Value.int .u8 c27, Value.int .u8 c28, Value.int .u8 c29, Value.int .u8 c30, Value.int .u8 c31] = Array.mk
  [Value.int .u8 c0, Value.int .u8 c1, Value.int .u8 c2, Value.int .u8 c3, Value.int .u8 c4, Value.int .u8 c5, Value.int .u8 c6, Value.int .u8 c7, Value.int .u8 c8, Value.int .u8 c9,
  Value.int .u8 c10, Value.int .u8 c11, Value.int .u8 c12, Value.int .u8 c13, Value.int .u8 c14, Value.int .u8 c15, Value.int .u8 c16, Value.int .u8 c17, Value.int .u8 c18, Value.int
  .u8 c19, Value.int .u8 c20, Value.int .u8 c21, Value.int .u8 c22, Value.int .u8 c23, Value.int .u8 c24, Value.int .u8 c25, Value.int .u8 c26, Value.int .u8 c27, Value.int .u8 c28,
  Value.int .u8 c29, Value.int .u8 c30, Value.int .u8 c31] ∧ True) False ∧ If ((nMul (nAdd (app b [c0, c1, c2, c3, c4, c5, c6, c7, c8, c9, c10, c11, c12, c13, c14, c15, c16, c17, c18,
  c19, c20, c21, c22, c23, c24, c25, c26, c27, c28, c29]).length [c30].length) 1).ble 140737488355328 && (nAdd (app b [c0, c1, c2, c3, c4, c5, c6, c7, c8, c9, c10, c11, c12, c13, c14,
  c15, c16, c17, c18, c19, c20, c21, c22, c23, c24, c25, c26, c27, c28, c29]).length [c30].length).ble 9223372036854775807) ((Value.int .i64 (IntKind.i64.wrap (iAdd (iOf 30) 1)) =
  Value.int .i64 (iOf 31) ∧ True) ∧ EqI (app (app b [c0, c1, c2, c3, c4, c5, c6, c7, c8, c9, c10, c11, c12, c13, c14, c15, c16, c17, c18, c19, c20, c21, c22, c23, c24, c25, c26, c27,
  c28, c29]) [c30]) (app b [c0, c1, c2, c3, c4, c5, c6, c7, c8, c9, c10, c11, c12, c13, c14, c15, c16, c17, c18, c19, c20, c21, c22, c23, c24, c25, c26, c27, c28, c29, c30]) ∧
  Array.mk [Value.int .u8 c0, Value.int .u8 c1, Value.int .u8 c2, Value.int .u8 c3, Value.int .u8 c4, Value.int .u8 c5, Value.int .u8 c6, Value.int .u8 c7, Value.int .u8 c8, Value.int
  .u8 c9, Value.int .u8 c10, Value.int .u8 c11, Value.int .u8 c12, Value.int .u8 c13, Value.int .u8 c14, Value.int .u8 c15, Value.int .u8 c16, Value.int .u8 c17, Value.int .u8 c18,
  Value.int .u8 c19, Value.int .u8 c20, Value.int .u8 c21, Value.int .u8 c22, Value.int .u8 c23, Value.int .u8 c24, Value.int .u8 c25, Value.int .u8 c26, Value.int .u8 c27, Value.int
  .u8 c28, Value.int .u8 c29, Value.int .u8 c30, Value.int .u8 c31] = Array.mk [Value.int .u8 c0, Value.int .u8 c1, Value.int .u8 c2, Value.int .u8 c3, Value.int .u8 c4, Value.int .u8
  c5, Value.int .u8 c6, Value.int .u8 c7, Value.int .u8 c8, Value.int .u8 c9, Value.int .u8 c10, Value.int .u8 c11, Value.int .u8 c12, Value.int .u8 c13, Value.int .u8 c14, Value.int
  .u8 c15, Value.int .u8 c16, Value.int .u8 c17, Value.int .u8 c18, Value.int .u8 c19, Value.int .u8 c20, Value.int .u8 c21, Value.int .u8 c22, Value.int .u8 c23, Value.int .u8 c24,
  Value.int .u8 c25, Value.int .u8 c26, Value.int .u8 c27, Value.int .u8 c28, Value.int .u8 c29, Value.int .u8 c30, Value.int .u8 c31] ∧ True) False ∧ If ((nMul (nAdd (app b [c0, c1,
  c2, c3, c4, c5, c6, c7, c8, c9, c10, c11, c12, c13, c14, c15, c16, c17, c18, c19, c20, c21, c22, c23, c24, c25, c26, c27, c28, c29, c30]).length [c31].length) 1).ble 140737488355328
  && (nAdd (app b [c0, c1, c2, c3, c4, c5, c6, c7, c8, c9, c10, c11, c12, c13, c14, c15, c16, c17, c18, c19, c20, c21, c22, c23, c24, c25, c26, c27, c28, c29, c30]).length
  [c31].length).ble 9223372036854775807) ((Value.int .i64 (IntKind.i64.wrap (iAdd (iOf 31) 1)) = Value.int .i64 (iOf 32) ∧ True) ∧ EqI (app (app b [c0, c1, c2, c3, c4, c5, c6, c7, c8,
  c9, c10, c11, c12, c13, c14, c15, c16, c17, c18, c19, c20, c21, c22, c23, c24, c25, c26, c27, c28, c29, c30]) [c31]) (app b [c0, c1, c2, c3, c4, c5, c6, c7, c8, c9, c10, c11, c12,
  c13, c14, c15, c16, c17, c18, c19, c20, c21, c22, c23, c24, c25, c26, c27, c28, c29, c30, c31]) ∧ Array.mk [Value.int .u8 c0, Value.int .u8 c1, Value.int .u8 c2, Value.int .u8 c3,
  Value.int .u8 c4, Value.int .u8 c5, Value.int .u8 c6, Value.int .u8 c7, Value.int .u8 c8, Value.int .u8 c9, Value.int .u8 c10, Value.int .u8 c11, Value.int .u8 c12, Value.int .u8
  c13, Value.int .u8 c14, Value.int .u8 c15, Value.int .u8 c16, Value.int .u8 c17, Value.int .u8 c18, Value.int .u8 c19, Value.int .u8 c20, Value.int .u8 c21, Value.int .u8 c22,
  Value.int .u8 c23, Value.int .u8 c24, Value.int .u8 c25, Value.int .u8 c26, Value.int .u8 c27, Value.int .u8 c28, Value.int .u8 c29, Value.int .u8 c30, Value.int .u8 c31] = Array.mk
  [Value.int .u8 c0, Value.int .u8 c1, Value.int .u8 c2, Value.int .u8 c3, Value.int .u8 c4, Value.int .u8 c5, Value.int .u8 c6, Value.int .u8 c7, Value.int .u8 c8, Value.int .u8 c9,
  Value.int .u8 c10, Value.int .u8 c11, Value.int .u8 c12, Value.int .u8 c13, Value.int .u8 c14, Value.int .u8 c15, Value.int .u8 c16, Value.int .u8 c17, Value.int .u8 c18, Value.int
  .u8 c19, Value.int .u8 c20, Value.int .u8 c21, Value.int .u8 c22, Value.int .u8 c23, Value.int .u8 c24, Value.int .u8 c25, Value.int .u8 c26, Value.int .u8 c27, Value.int .u8 c28,
  Value.int .u8 c29, Value.int .u8 c30, Value.int .u8 c31] ∧ True) False ∧ (EqI (app b [c0, c1, c2, c3, c4, c5, c6, c7, c8, c9, c10, c11, c12, c13, c14, c15, c16, c17, c18, c19, c20,
  c21, c22, c23, c24, c25, c26, c27, c28, c29, c30, c31]) (app b [c0, c1, c2, c3, c4, c5, c6, c7, c8, c9, c10, c11, c12, c13, c14, c15, c16, c17, c18, c19, c20, c21, c22, c23, c24,
  c25, c26, c27, c28, c29, c30, c31]) ∧ True) ∧ True) False := by
 have h1' := Nat.le_of_ble_eq_true h1
 have hl : ∀ l : List Int, l.length ≤ 40 → (Sx.app b l).length ≤ 1040 := fun l h => by simp only [Sx.app, List.length_append]; omega
 have ea : ∀ (l : List Int) (c : Int), Sx.app (Sx.app b l) [c] = Sx.app b (l ++ [c]) := fun l c => by simp [Sx.app]
 refine Sx.if_true (by simp only [Sx.nAdd, Sx.nMul, Bool.and_eq_true, Nat.ble_eq]; omega) ⟨⟨⟨rfl, trivial⟩, (by simp [Sx.app, Sx.EqI]), rfl, trivial⟩, Sx.if_true (app_fit (hl [] (Nat.le_of_ble_eq_true rfl)) (by decide)) ⟨⟨(by kernel_rfl), trivial⟩, ea [] c0, rfl, trivial⟩, Sx.if_true (app_fit (hl [c0] (Nat.le_of_ble_eq_true rfl)) (by decide)) ⟨⟨(by kernel_rfl), trivial⟩, ea [c0] c1, rfl, trivial⟩, Sx.if_true (app_fit (hl [c0, c1] (Nat.le_of_ble_eq_true rfl)) (by decide)) ⟨⟨(by kernel_rfl), trivial⟩, ea [c0, c1] c2, rfl, trivial⟩, Sx.if_true (app_fit (hl [c0, c1, c2] (Nat.le_of_ble_eq_true rfl)) (by decide)) ⟨⟨(by kernel_rfl), trivial⟩, ea [c0, c1, c2] c3, rfl, trivial⟩, Sx.if_true (app_fit (hl [c0, c1, c2, c3] (Nat.le_of_ble_eq_true rfl)) (by decide)) ⟨⟨(by kernel_rfl), trivial⟩, ea [c0, c1, c2, c3] c4, rfl, trivial⟩, Sx.if_true (app_fit (hl [c0, c1, c2, c3, c4] (Nat.le_of_ble_eq_true rfl)) (by decide)) ⟨⟨(by kernel_rfl), trivial⟩, ea [c0, c1, c2, c3, c4] c5, rfl, trivial⟩, Sx.if_true (app_fit (hl [c0, c1, c2, c3, c4, c5] (Nat.le_of_ble_eq_true rfl)) (by decide)) ⟨⟨(by kernel_rfl), trivial⟩, ea [c0, c1, c2, c3, c4, c5] c6, rfl, trivial⟩, Sx.if_true (app_fit (hl [c0, c1, c2, c3, c4, c5, c6] (Nat.le_of_ble_eq_true rfl)) (by decide)) ⟨⟨(by kernel_rfl), trivial⟩, ea [c0, c1, c2, c3, c4, c5, c6] c7, rfl, trivial⟩, Sx.if_true (app_fit (hl [c0, c1, c2, c3, c4, c5, c6, c7] (Nat.le_of_ble_eq_true rfl)) (by decide)) ⟨⟨(by kernel_rfl), trivial⟩, ea [c0, c1, c2, c3, c4, c5, c6, c7] c8, rfl, trivial⟩, Sx.if_true (app_fit (hl [c0, c1, c2, c3, c4, c5, c6, c7, c8] (Nat.le_of_ble_eq_true rfl)) (by decide)) ⟨⟨(by kernel_rfl), trivial⟩, ea [c0, c1, c2, c3, c4, c5, c6, c7, c8] c9, rfl, trivial⟩, Sx.if_true (app_fit (hl [c0, c1, c2, c3, c4, c5, c6, c7, c8, c9] (Nat.le_of_ble_eq_true rfl)) (by decide)) ⟨⟨(by kernel_rfl), trivial⟩, ea [c0, c1, c2, c3, c4, c5, c6, c7, c8, c9] c10, rfl, trivial⟩, Sx.if_true (app_fit (hl [c0, c1, c2, c3, c4, c5, c6, c7, c8, c9, c10] (Nat.le_of_ble_eq_true rfl)) (by decide)) ⟨⟨(by kernel_rfl), trivial⟩, ea [c0, c1, c2, c3, c4, c5, c6, c7, c8, c9, c10] c11, rfl, trivial⟩, Sx.if_true (app_fit (hl [c0, c1, c2, c3, c4, c5, c6, c7, c8, c9, c10, c11] (Nat.le_of_ble_eq_true rfl)) (by decide)) ⟨⟨(by kernel_rfl), trivial⟩, ea [c0, c1, c2, c3, c4, c5, c6, c7, c8, c9, c10, c11] c12, rfl, trivial⟩, Sx.if_true (app_fit (hl [c0, c1, c2, c3, c4, c5, c6, c7, c8, c9, c10, c11, c12] (Nat.le_of_ble_eq_true rfl)) (by decide)) ⟨⟨(by kernel_rfl), trivial⟩, ea [c0, c1, c2, c3, c4, c5, c6, c7, c8, c9, c10, c11, c12] c13, rfl, trivial⟩, Sx.if_true (app_fit (hl [c0, c1, c2, c3, c4, c5, c6, c7, c8, c9, c10, c11, c12, c13] (Nat.le_of_ble_eq_true rfl)) (by decide)) ⟨⟨(by kernel_rfl), trivial⟩, ea [c0, c1, c2, c3, c4, c5, c6, c7, c8, c9, c10, c11, c12, c13] c14, rfl, trivial⟩, Sx.if_true (app_fit (hl [c0, c1, c2, c3, c4, c5, c6, c7, c8, c9, c10, c11, c12, c13, c14] (Nat.le_of_ble_eq_true rfl)) (by decide)) ⟨⟨(by kernel_rfl), trivial⟩, ea [c0, c1, c2, c3, c4, c5, c6, c7, c8, c9, c10, c11, c12, c13, c14] c15, rfl, trivial⟩, Sx.if_true (app_fit (hl [c0, c1, c2, c3, c4, c5, c6, c7, c8, c9, c10, c11, c12, c13, c14, c15] (Nat.le_of_ble_eq_true rfl)) (by decide)) ⟨⟨(by kernel_rfl), trivial⟩, ea [c0, c1, c2, c3, c4, c5, c6, c7, c8, c9, c10, c11, c12, c13, c14, c15] c16, rfl, trivial⟩, Sx.if_true (app_fit (hl [c0, c1, c2, c3, c4, c5, c6, c7, c8, c9, c10, c11, c12, c13, c14, c15, c16] (Nat.le_of_ble_eq_true rfl)) (by decide)) ⟨⟨(by kernel_rfl), trivial⟩, ea [c0, c1, c2, c3, c4, c5, c6, c7, c8, c9, c10, c11, c12, c13, c14, c15, c16] c17, rfl, trivial⟩, Sx.if_true (app_fit (hl [c0, c1, c2, c3, c4, c5, c6, c7, c8, c9, c10, c11, c12, c13, c14, c15, c16, c17] (Nat.le_of_ble_eq_true rfl)) (by decide)) ⟨⟨(by kernel_rfl), trivial⟩, ea [c0, c1, c2, c3, c4, c5, c6, c7, c8, c9, c10, c11, c12, c13, c14, c15, c16, c17] c18, rfl, trivial⟩, Sx.if_true (app_fit (hl [c0, c1, c2, c3, c4, c5, c6, c7, c8, c9, c10, c11, c12, c13, c14, c15, c16, c17, c18] (Nat.le_of_ble_eq_true rfl)) (by decide)) ⟨⟨(by kernel_rfl), trivial⟩, ea [c0, c1, c2, c3, c4, c5, c6, c7, c8, c9, c10, c11, c12, c13, c14, c15, c16, c17, c18] c19, rfl, trivial⟩, Sx.if_true (app_fit (hl [c0, c1, c2, c3, c4, c5, c6, c7, c8, c9, c10, c11, c12, c13, c14, c15, c16, c17, c18, c19] (Nat.le_of_ble_eq_true rfl)) (by decide)) ⟨⟨(by kernel_rfl), trivial⟩, ea [c0, c1, c2, c3, c4, c5, c6, c7, c8, c9, c10, c11, c12, c13, c14, c15, c16, c17, c18, c19] c20, rfl, trivial⟩, Sx.if_true (app_fit (hl [c0, c1, c2, c3, c4, c5, c6, c7, c8, c9, c10, c11, c12, c13, c14, c15, c16, c17, c18, c19, c20] (Nat.le_of_ble_eq_true rfl)) (by decide)) ⟨⟨(by kernel_rfl), trivial⟩, ea [c0, c1, c2, c3, c4, c5, c6, c7, c8, c9, c10, c11, c12, c13, c14, c15, c16, c17, c18, c19, c20] c21, rfl, trivial⟩, Sx.if_true (app_fit (hl [c0, c1, c2, c3, c4, c5, c6, c7, c8, c9, c10, c11, c12, c13, c14, c15, c16, c17, c18, c19, c20, c21] (Nat.le_of_ble_eq_true rfl)) (by decide)) ⟨⟨(by kernel_rfl), trivial⟩, ea [c0, c1, c2, c3, c4, c5, c6, c7, c8, c9, c10, c11, c12, c13, c14, c15, c16, c17, c18, c19, c20, c21] c22, rfl, trivial⟩, Sx.if_true (app_fit (hl [c0, c1, c2, c3, c4, c5, c6, c7, c8, c9, c10, c11, c12, c13, c14, c15, c16, c17, c18, c19, c20, c21, c22] (Nat.le_of_ble_eq_true rfl)) (by decide)) ⟨⟨(by kernel_rfl), trivial⟩, ea [c0, c1, c2, c3, c4, c5, c6, c7, c8, c9, c10, c11, c12, c13, c14, c15, c16, c17, c18, c19, c20, c21, c22] c23, rfl, trivial⟩, Sx.if_true (app_fit (hl [c0, c1, c2, c3, c4, c5, c6, c7, c8, c9, c10, c11, c12, c13, c14, c15, c16, c17, c18, c19, c20, c21, c22, c23] (Nat.le_of_ble_eq_true rfl)) (by decide)) ⟨⟨(by kernel_rfl), trivial⟩, ea [c0, c1, c2, c3, c4, c5, c6, c7, c8, c9, c10, c11, c12, c13, c14, c15, c16, c17, c18, c19, c20, c21, c22, c23] c24, rfl, trivial⟩, Sx.if_true (app_fit (hl [c0, c1, c2, c3, c4, c5, c6, c7, c8, c9, c10, c11, c12, c13, c14, c15, c16, c17, c18, c19, c20, c21, c22, c23, c24] (Nat.le_of_ble_eq_true rfl)) (by decide)) ⟨⟨(by kernel_rfl), trivial⟩, ea [c0, c1, c2, c3, c4, c5, c6, c7, c8, c9, c10, c11, c12, c13, c14, c15, c16, c17, c18, c19, c20, c21, c22, c23, c24] c25, rfl, trivial⟩, Sx.if_true (app_fit (hl [c0, c1, c2, c3, c4, c5, c6, c7, c8, c9, c10, c11, c12, c13, c14, c15, c16, c17, c18, c19, c20, c21, c22, c23, c24, c25] (Nat.le_of_ble_eq_true rfl)) (by decide)) ⟨⟨(by kernel_rfl), trivial⟩, ea [c0, c1, c2, c3, c4, c5, c6, c7, c8, c9, c10, c11, c12, c13, c14, c15, c16, c17, c18, c19, c20, c21, c22, c23, c24, c25] c26, rfl, trivial⟩, Sx.if_true (app_fit (hl [c0, c1, c2, c3, c4, c5, c6, c7, c8, c9, c10, c11, c12, c13, c14, c15, c16, c17, c18, c19, c20, c21, c22, c23, c24, c25, c26] (Nat.le_of_ble_eq_true rfl)) (by decide)) ⟨⟨(by kernel_rfl), trivial⟩, ea [c0, c1, c2, c3, c4, c5, c6, c7, c8, c9, c10, c11, c12, c13, c14, c15, c16, c17, c18, c19, c20, c21, c22, c23, c24, c25, c26] c27, rfl, trivial⟩, Sx.if_true (app_fit (hl [c0, c1, c2, c3, c4, c5, c6, c7, c8, c9, c10, c11, c12, c13, c14, c15, c16, c17, c18, c19, c20, c21, c22, c23, c24, c25, c26, c27] (Nat.le_of_ble_eq_true rfl)) (by decide)) ⟨⟨(by kernel_rfl), trivial⟩, ea [c0, c1, c2, c3, c4, c5, c6, c7, c8, c9, c10, c11, c12, c13, c14, c15, c16, c17, c18, c19, c20, c21, c22, c23, c24, c25, c26, c27] c28, rfl, trivial⟩, Sx.if_true (app_fit (hl [c0, c1, c2, c3, c4, c5, c6, c7, c8, c9, c10, c11, c12, c13, c14, c15, c16, c17, c18, c19, c20, c21, c22, c23, c24, c25, c26, c27, c28] (Nat.le_of_ble_eq_true rfl)) (by decide)) ⟨⟨(by kernel_rfl), trivial⟩, ea [c0, c1, c2, c3, c4, c5, c6, c7, c8, c9, c10, c11, c12, c13, c14, c15, c16, c17, c18, c19, c20, c21, c22, c23, c24, c25, c26, c27, c28] c29, rfl, trivial⟩, Sx.if_true (app_fit (hl [c0, c1, c2, c3, c4, c5, c6, c7, c8, c9, c10, c11, c12, c13, c14, c15, c16, c17, c18, c19, c20, c21, c22, c23, c24, c25, c26, c27, c28, c29] (Nat.le_of_ble_eq_true rfl)) (by decide)) ⟨⟨(by kernel_rfl), trivial⟩, ea [c0, c1, c2, c3, c4, c5, c6, c7, c8, c9, c10, c11, c12, c13, c14, c15, c16, c17, c18, c19, c20, c21, c22, c23, c24, c25, c26, c27, c28, c29] c30, rfl, trivial⟩, Sx.if_true (app_fit (hl [c0, c1, c2, c3, c4, c5, c6, c7, c8, c9, c10, c11, c12, c13, c14, c15, c16, c17, c18, c19, c20, c21, c22, c23, c24, c25, c26, c27, c28, c29, c30] (Nat.le_of_ble_eq_true rfl)) (by decide)) ⟨⟨(by kernel_rfl), trivial⟩, ea [c0, c1, c2, c3, c4, c5, c6, c7, c8, c9, c10, c11, c12, c13, c14, c15, c16, c17, c18, c19, c20, c21, c22, c23, c24, c25, c26, c27, c28, c29, c30] c31, rfl, trivial⟩, ?_, trivial⟩
 exact ⟨rfl, trivial⟩
theorem wpc_putH (O : OO) (Y : OY) (b : List Int) (c0 c1 c2 c3 c4 c5 c6 c7 c8 c9 c10 c11 c12 c13 c14 c15 c16 c17 c18 c19 c20 c21 c22 c23 c24 c25 c26 c27 c28 c29 c30 c31 : Int) (F : FO O) (hy : Y = yO O) (h1 : Nat.ble b.length 1000 = true) : wpcI Try.prog (spY0 O Y) Try.f86.ntmps [⟨Nat, [3], [(5, 5, .ints .u8 [])], fun B r => [(5, .row B), (6, .v (.int .i64 (r : Int)))], fun B r => [(B, .own 5 (.ints .u8 (b ++ List.take r [c0, c1, c2, c3, c4, c5, c6, c7, c8, c9, c10, c11, c12, c13, c14, c15, c16, c17, c18, c19, c20, c21, c22, c23, c24, c25, c26, c27, c28, c29, c30, c31])))], fun _ => True, fun _ => 0, .join 33 fun r => r⟩] (bodyOf Try.f86) 0 64 (envA [.ro .u8, .v] [.ints b, .v (.agg ⟨[.int .u8 c0, .int .u8 c1, .int .u8 c2, .int .u8 c3, .int .u8 c4, .int .u8 c5, .int .u8 c6, .int .u8 c7, .int .u8 c8, .int .u8 c9, .int .u8 c10, .int .u8 c11, .int .u8 c12, .int .u8 c13, .int .u8 c14, .int .u8 c15, .int .u8 c16, .int .u8 c17, .int .u8 c18, .int .u8 c19, .int .u8 c20, .int .u8 c21, .int .u8 c22, .int .u8 c23, .int .u8 c24, .int .u8 c25, .int .u8 c26, .int .u8 c27, .int .u8 c28, .int .u8 c29, .int .u8 c30, .int .u8 c31]⟩)] 0) (memA [.ro .u8, .v] [.ints b, .v (.agg ⟨[.int .u8 c0, .int .u8 c1, .int .u8 c2, .int .u8 c3, .int .u8 c4, .int .u8 c5, .int .u8 c6, .int .u8 c7, .int .u8 c8, .int .u8 c9, .int .u8 c10, .int .u8 c11, .int .u8 c12, .int .u8 c13, .int .u8 c14, .int .u8 c15, .int .u8 c16, .int .u8 c17, .int .u8 c18, .int .u8 c19, .int .u8 c20, .int .u8 c21, .int .u8 c22, .int .u8 c23, .int .u8 c24, .int .u8 c25, .int .u8 c26, .int .u8 c27, .int .u8 c28, .int .u8 c29, .int .u8 c30, .int .u8 c31]⟩)] 0) (retG Try.prog Try.f86.results.toList [.ints 5 .u8 (b ++ [c0, c1, c2, c3, c4, c5, c6, c7, c8, c9, c10, c11, c12, c13, c14, c15, c16, c17, c18, c19, c20, c21, c22, c23, c24, c25, c26, c27, c28, c29, c30, c31])]) :=
 Eq.mpr (by kernel_rfl) (vc_putH O Y b c0 c1 c2 c3 c4 c5 c6 c7 c8 c9 c10 c11 c12 c13 c14 c15 c16 c17 c18 c19 c20 c21 c22 c23 c24 c25 c26 c27 c28 c29 c30 c31 F hy h1)
theorem ok_putH (I : Sx.Interp) (O : OO) (hO : O = oo) (Y : OY) (hY : Y = yO O) : Sx.SpecOK I Try.prog 86 (gspec [.ro .u8, .v] (g_putH O Y)) := by
 refine spec_genA (spY0_ok I O hO Y hY) (by kernel_rfl) (fun xs => match xs with | [.ints b, .v (.agg ⟨[.int .u8 c0, .int .u8 c1, .int .u8 c2, .int .u8 c3, .int .u8 c4, .int .u8 c5, .int .u8 c6, .int .u8 c7, .int .u8 c8, .int .u8 c9, .int .u8 c10, .int .u8 c11, .int .u8 c12, .int .u8 c13, .int .u8 c14, .int .u8 c15, .int .u8 c16, .int .u8 c17, .int .u8 c18, .int .u8 c19, .int .u8 c20, .int .u8 c21, .int .u8 c22, .int .u8 c23, .int .u8 c24, .int .u8 c25, .int .u8 c26, .int .u8 c27, .int .u8 c28, .int .u8 c29, .int .u8 c30, .int .u8 c31]⟩)] => [⟨Nat, [3], [(5, 5, .ints .u8 [])], fun B r => [(5, .row B), (6, .v (.int .i64 (r : Int)))], fun B r => [(B, .own 5 (.ints .u8 (b ++ List.take r [c0, c1, c2, c3, c4, c5, c6, c7, c8, c9, c10, c11, c12, c13, c14, c15, c16, c17, c18, c19, c20, c21, c22, c23, c24, c25, c26, c27, c28, c29, c30, c31])))], fun _ => True, fun _ => 0, .join 33 fun r => r⟩] | _ => []) Try.func86 (by kernel_rfl) (by kernel_rfl) rfl Try.ntmps86 (by decide) ?_ ?_
 ·intro xs p rs h; unfold g_putH at h; split at h <;> first | (simp only [Option.some.injEq, Prod.mk.injEq] at h; rw [← h.2]; simp) | cases h
 ·intro xs rs hl h
  unfold g_putH at h
  split at h
  ·simp only [Option.some.injEq, Prod.mk.injEq, Bool.and_eq_true] at h
   obtain ⟨h1, rfl⟩ := h
   exact wpcI_of (wpc_putH O Y _ _ _ _ _ _ _ _ _ _ _ _ _ _ _ _ _ _ _ _ _ _ _ _ _ _ _ _ _ _ _ _ _ (fo_oo O hO) hY h1)
  ·cases h
def g_keight (O : OO) (Y : OY) (ds : List Dt) : Option (Bool × List Bool × (List Bool → Post)) := match ds with
 | [.v (.int .u64 n)] => some ((inU n 18446744073709551616), [], fun bs => ⟨[.sl 0 0 8 8], [(0, .arr 116 8 ⟨(tabI (fun i => (O.be8 n).getD i 0) 8).map (Value.int .u8)⟩)]⟩)
 | _ => none
def spY1 (O : OO) (Y : OY) (f : FuncId) : Option Sx.Spec := match f with
 | 86 => some (gspec [.ro .u8, .v] (g_putH O Y))
 | f => spY0 O Y f
theorem spY1_ok (I : Sx.Interp) (O : OO) (hO : O = oo) (Y : OY) (hY : Y = yO O) : ∀ f s, spY1 O Y f = some s → Sx.SpecOK I Try.prog f s := by
 intro f s h
 unfold spY1 at h
 split at h
 · cases h; exact ok_putH I O hO Y hY
 ·exact spY0_ok I O hO Y hY _ s h
def g_fac (O : OO) (Y : OY) (xs : List Arg) : Option (Bool × List Ret) := match xs with
 | [.v (.string s), .ints [a, b]] => some ((inU a 18446744073709551616) && (inU b 18446744073709551616) && (Nat.ble s.size 1000), [.v (.int .u64 (Y.fac s a b))])
 | _ => none
def g_Fac (O : OO) (Y : OY) (l : List Value) : Option (Bool × Value) := match l with
 | [.string s, .int .u64 a, .int .u64 b] => some ((inU a 18446744073709551616) && (inU b 18446744073709551616) && (Nat.ble s.size 1000), .int .u64 (Y.fac s a b))
 | _ => none